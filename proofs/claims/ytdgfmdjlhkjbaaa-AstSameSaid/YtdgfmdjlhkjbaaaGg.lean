/-
  The reference parser: functions.
-/
import Derived.Test.YtdgfmdjlhkjbaaaGd
set_option linter.all false
section
set_option maxRecDepth 10000
set_option maxHeartbeats 4000000
set_option linter.unusedSimpArgs false
set_option linter.unusedVariables false
namespace Go.Proofs.Ab5
open Go.Ab Go.Proofs
def δF : Nat → Nat × List (List Nat)
  | 30 => (999, [])
  | _ => (0, [])

theorem app_hop {L : Nat → Bool} {nv v : AVal} {ks : List Int} (ha : Acc L nv v ks) (b : Nat → Option (List AVal)) (y : Int) (hlen : ks.length + 1 ≤ 4294967296) :
    ∃ lB, Keep L v lB .nilSlice ∧ ∀ (ev : Operand → AVal) (ls : Locs) (n : Nat) (d : Option Tmp) (i j : Operand) (ρ : Option Nat), ev i = v → ev j = .list ρ 1 [[.int .i64 y]] → L n = false →
      aOp Try.prog (fun _ => false) ev ls ⟨b, L⟩ n d (.call ⟨.builtin .append, #[i, j], #[29, 29]⟩) = some (.list (some n) 1 (icells (ks ++ [y])), ls, ⟨b, upd lB n true⟩) := by
  rcases ha.val with ⟨rfl, rfl⟩ | ⟨ρ, rfl⟩
  · refine ⟨L, fun ρ h _ => ⟨h, fun e => nomatch e⟩, fun ev ls n d i j ρ hi hj hn => ?_⟩
    have hd : (d.map fun _ => false).getD false = false := by cases d <;> rfl
    simp only [aOp, aBuiltin, List.toList_toArray, hi, hj, ti29, Option.bind_some, Go.Ab.elemOf, ti3, zeroOf, hd]
    rfl
  · refine ⟨upd L ρ false, fun ρ' h hne => ⟨?_, fun e => nomatch e⟩, fun ev ls n d i j ρ' hi hj hn => ?_⟩
    · have : ρ' ≠ ρ := fun e => hne (by rw [e]; rfl)
      simp only [upd]; rw [if_neg this]; exact h
    have hd : (d.map fun _ => false).getD false = false := by cases d <;> rfl
    have hL : L ρ = true := ha.own ρ rfl
    have hf' : ks.length + 1 ≤ 4294967296 := hlen
    have hf : aFits ((icells ks).length + [[AVal.int .i64 y]].length) 8 = true := by simp [aFits, icells]; omega
    simp only [aOp, aBuiltin, List.toList_toArray, hi, hj, ti29, Option.bind_some, Go.Ab.elemOf, ti3, zeroOf, hd, aNews, aAppend, hL, hf]
    simp [allOne, AVal.one, icells, fitsKind, TK.isSlice]
    simpa [icells] using hf

variable {ts : List Tok} {N : Nat}
theorem s_function (ih : AllS ts N) : CSB ts (N + 1) 28 40 := by
  intro p b L ρt at0 nv0 deep0 df0 lp0 tp0 code0 pos0 ns0 R S po p0 room hN hat h1
  have g0 := p0.pos
  have g1 := p0.lt
  have g2 := p0.tok.most
  have ihE := allE (ts := ts) (64 * ts.length + 100)
  refine acalls_of Try.func40 rfl (re_ok hMix (κ := fun _ => false) δF _ rfl ?_)
  simp (maxSteps := 4000000) only [go_sem, reduceIte, reduceCtorEq, Nat.reduceAdd, Nat.reduceSub, Nat.reduceMul, Nat.reduceLeDiff, Nat.reduceLT, Nat.reduceEqDiff, Nat.reduceBEq, Try.ntmps40, Try.f40, δF, p0.wrap1]
  have p1 := p0.step (at1 := at0 + 1) (code1 := code0) (by omega) hat id
  refine callBy cb42 (c_kind p1 (by decide) fun tok4 v at3 code3 pos3 y0 y1 y2 y3 y4 y5 => ?_)
  simp (maxSteps := 4000000) only [go_sem, reduceIte, reduceCtorEq, Nat.reduceAdd, Nat.reduceSub, Nat.reduceMul, Nat.reduceLeDiff, Nat.reduceLT, Nat.reduceEqDiff, Nat.reduceBEq]
  have p3 := p1.step (code1 := code3) y4 y5 (fun e => (y3 e).1)
  have q3 : code3 = 0 → code0 = 0 := fun e => (y3 e).1
  clear y1 y2 y3
  refine callBy cb35 (c_want p3 fun v at4 code4 pos4 z1 z2 z3 z4 z5 => ?_)
  simp (maxSteps := 4000000) only [go_sem, reduceIte, reduceCtorEq, Nat.reduceAdd, Nat.reduceSub, Nat.reduceMul, Nat.reduceLeDiff, Nat.reduceLT, Nat.reduceEqDiff, Nat.reduceBEq]
  have p4 := p3.step (code1 := code4) z4 z5 (fun e => (z3 e).1)
  have q4 : code4 = 0 → code0 = 0 := fun e => q3 (z3 e).1
  clear z1 z2 z3
  refine AWp.loop_st [true, true, false, false, false, true, false, true, true, true, false, false, false, false, false, false, false, false, false, false, false, false, false, false, false, false, false, false, false, false, false, false, false, false, false, false, false, false, false, false, false, false, false, false, false, false, false, false, false, false, false, false, false, false, false, false, false, false, false, false, false, false, false, false, false, false, false, false, false, false, false, false, false, false, false, false, false, false, false, false, false, false, false, false, false, false, false, false, false, false, false, false, false, false, false, false, false, false, false, false, false, false, false, false, false, false, false, false, false, false, false, false, false, false, false, false, false, false, false, false, false, false, false, false, false, false, false, false, false, false, false, false, false, false, false, false, false, false, false, false, false, false, false, false, false, false, false, false, false] [5] (fun x : LS2 => ⟨[.ptr p 0, .int .i64 po, .any, .any, .any, .loc 5 0, .any, x.lv, x.sv, .bool x.f, .any, .any, .any, .any, .any, .any, .any, .any, .any, .any, .any, .any, .any, .any, .any, .any, .any, .any, .any, .any, .any, .any, .any, .any, .any, .any, .any, .any, .any, .any, .any, .any, .any, .any, .any, .any, .any, .any, .any, .any, .any, .any, .any, .any, .any, .any, .any, .any, .any, .any, .any, .any, .any, .any, .any, .any, .any, .any, .any, .any, .any, .any, .any, .any, .any, .any, .any, .any, .any, .any, .any, .any, .any, .any, .any, .any, .any, .any, .any, .any, .any, .any, .any, .any, .any, .any, .any, .any, .any, .any, .any, .any, .any, .any, .any, .any, .any, .any, .any, .any, .any, .any, .any, .any, .any, .any, .any, .any, .any, .any, .any, .any, .any, .any, .any, .any, .any, .any, .any, .any, .any, .any, .any, .any, .any, .any, .any, .any, .any, .any, .any, .any, .any, .any, .any, .any, .any, .any, .any], [(5, [.int .i64 tok4.kind, .str tok4.text, .int .i64 tok4.pos])]⟩) (fun x => ⟨upd b p (some (pcells ρt ts x.at' x.nv x.deep x.df x.lp x.tp x.code x.pos)), x.L⟩)
    (fun x => PI ts x.at' x.nv x.ns x.code x.L (x.l ++ R) ∧ Acc x.L x.nv x.lv x.l ∧ Fr L nv0 x.lv ∧ Keep L nv0 x.L x.nv ∧ GAcc x.L x.nv x.sv (scells x.sl) ∧ ((∀ ρ, rowOf x.lv = some ρ → rowOf x.sv ≠ some ρ) ∧ Fr L nv0 x.sv) ∧ at0 + 1 ≤ x.at' ∧ (x.ns.length : Int) + at0 + 1 ≤ ns0.length + x.at' ∧ (x.code = 0 → code0 = 0) ∧ (x.l.length : Int) + at0 ≤ x.at' ∧ (x.sl.length : Int) + at0 ≤ x.at')
    (fun x => (ts.length - x.at').toNat) ⟨⟨0, at4, nv0, ns0, deep0, df0, lp0, tp0, code4, pos4, L, .nilSlice, [], false⟩, .nilSlice, []⟩ ?_ ?_ rfl ⟨p4, Acc.nil _ _, Fr.nil _ _, Keep.refl _ _, GAcc.nil _ _, ⟨fun _ h => (nomatch h), Fr.nil _ _⟩, by dsimp only; omega, by dsimp only; omega, q4, by simp; omega, by simp; omega⟩ ?_
  · simp (maxSteps := 4000000) only [go_sem, reduceIte, reduceCtorEq, Nat.reduceAdd, Nat.reduceSub, Nat.reduceMul, Nat.reduceLeDiff, Nat.reduceLT, Nat.reduceEqDiff, Nat.reduceBEq]
  · simp (maxSteps := 4000000) only [go_sem, reduceIte, reduceCtorEq, Nat.reduceAdd, Nat.reduceSub, Nat.reduceMul, Nat.reduceLeDiff, Nat.reduceLT, Nat.reduceEqDiff, Nat.reduceBEq]
  rintro ⟨⟨a, at2, nv2, ns2, deep2, df2, lp2, tp2, code2, pos2, L2, lv2, l2, f2⟩, sv2, sl2⟩ ⟨p2, a2, f2', k2, b2, ⟨x2, fs2⟩, m2, c2, q2, l2', s2'⟩
  dsimp only at p2 a2 f2' k2 b2 x2 fs2 m2 c2 q2 l2' s2' ⊢
  have g3 := p2.pos
  have g4 := p2.lt
  refine rd_ok hMix (κ := fun _ => false) δ0 _ rfl ?_
  simp (maxSteps := 4000000) only [go_sem, reduceIte, reduceCtorEq, Nat.reduceAdd, Nat.reduceSub, Nat.reduceMul, Nat.reduceLeDiff, Nat.reduceLT, Nat.reduceEqDiff, Nat.reduceBEq]
  refine callBy cb12 (c_bad (fun e2 => ?_) (fun e2 => ?_)) <;> simp (maxSteps := 4000000) only [go_sem, reduceIte, reduceCtorEq, Nat.reduceAdd, Nat.reduceSub, Nat.reduceMul, Nat.reduceLeDiff, Nat.reduceLT, Nat.reduceEqDiff, Nat.reduceBEq, a2.ints.one, a2.ints.loc]
  · refine callBy cb32 (c_is p2 fun v hv => ?_)
    cases v <;> simp (maxSteps := 4000000) only [go_sem, reduceIte, reduceCtorEq, Nat.reduceAdd, Nat.reduceSub, Nat.reduceMul, Nat.reduceLeDiff, Nat.reduceLT, Nat.reduceEqDiff, Nat.reduceBEq, a2.ints.one, a2.ints.loc]
    · refine callBy cb13 (c_now p2 fun tok u1 u2 u3 => ?_)
      simp (maxSteps := 4000000) only [go_sem, reduceIte, reduceCtorEq, Nat.reduceAdd, Nat.reduceSub, Nat.reduceMul, Nat.reduceLeDiff, Nat.reduceLT, Nat.reduceEqDiff, Nat.reduceBEq, b2.strs.len, b2.strs.fits, b2.strs.loc]
      refine ⟨fun hk => ?_, fun hk => ?_⟩
      ·
        refine callBy cb37 (c_wrong p2 fun code7 pos7 hc => ?_)
        simp (maxSteps := 4000000) only [go_sem, reduceIte, reduceCtorEq, Nat.reduceAdd, Nat.reduceSub, Nat.reduceMul, Nat.reduceLeDiff, Nat.reduceLT, Nat.reduceEqDiff, Nat.reduceBEq]
        exact h1 _ _ _ _ _ _ _ _ _ _ _ (p2.fail (Int.le_refl _) g4 hc _) k2 (by omega) (by omega) (by omega) (fun e => absurd e hc)
      · refine callBy cb27 (c_among b2.strs (by omega) fun i _ _ => ?_)
        simp (maxSteps := 4000000) only [go_sem, reduceIte, reduceCtorEq, Nat.reduceAdd, Nat.reduceSub, Nat.reduceMul, Nat.reduceLeDiff, Nat.reduceLT, Nat.reduceEqDiff, Nat.reduceBEq]
        refine ⟨fun hi => ?_, fun hi => ?_⟩
        ·
          refine callBy cb37 (c_wrong p2 fun code7 pos7 hc => ?_)
          simp (maxSteps := 4000000) only [go_sem, reduceIte, reduceCtorEq, Nat.reduceAdd, Nat.reduceSub, Nat.reduceMul, Nat.reduceLeDiff, Nat.reduceLT, Nat.reduceEqDiff, Nat.reduceBEq]
          exact h1 _ _ _ _ _ _ _ _ _ _ _ (p2.fail (Int.le_refl _) g4 hc _) k2 (by omega) (by omega) (by omega) (fun e => absurd e hc)
        · cases f2 <;> simp (maxSteps := 4000000) only [go_sem, reduceIte, reduceCtorEq, Nat.reduceAdd, Nat.reduceSub, Nat.reduceMul, Nat.reduceLeDiff, Nat.reduceLT, Nat.reduceEqDiff, Nat.reduceBEq]
          ·
            intro n hn hL n2 hn2 hL2
            have p3 := p2.grow (Grow.upd n)
            have k3 := k2.trans (Grow.upd n).keep
            refine append_g (b2.grow (Grow.upd n)) p3.nodes.own hL2 [.str tok.text] (by simp [scells]; omega) rfl (by decide) fun sv4 L4 b4 j4 => ?_
            simp (maxSteps := 4000000) only [go_sem, reduceIte, reduceCtorEq, Nat.reduceAdd, Nat.reduceSub, Nat.reduceMul, Nat.reduceLeDiff, Nat.reduceLT, Nat.reduceEqDiff, Nat.reduceBEq]
            have p4 := p3.acc b2.ne j4
            have a4 := (a2.grow (Grow.upd n)).other x2 j4
            have k4 := k3.acc fs2 j4
            have fs4 := Fr.acc k3 fs2 j4
            refine callBy cb52 (c_named p4 fun v hv => ?_)
            cases v <;> simp (maxSteps := 4000000) only [go_sem, reduceIte, reduceCtorEq, Nat.reduceAdd, Nat.reduceSub, Nat.reduceMul, Nat.reduceLeDiff, Nat.reduceLT, Nat.reduceEqDiff, Nat.reduceBEq, p2.wrap1, p2.wrap2]
            · have p5 := p4.step (at1 := at2 + 1) (code1 := code2) (by omega) (u2 (by rw [hk]; decide)) id
              refine callBy cb16 (c_put (ks := []) p5 (.inl ⟨rfl, rfl⟩) (by omega) fun r6 nv6 ns6 L6 p6 k6 c6 => ?_)
              simp (maxSteps := 4000000) only [go_sem, reduceIte, reduceCtorEq, Nat.reduceAdd, Nat.reduceSub, Nat.reduceMul, Nat.reduceLeDiff, Nat.reduceLT, Nat.reduceEqDiff, Nat.reduceBEq]
              intro n7 hn7 hL7 n8 hn8 hL8
              have p7 := p6.grow (Grow.upd n7)
              have kk := k6.trans (Grow.upd n7).keep
              have k7 := k4.trans kk
              have a7 := a4.1.keep kk
              have b7 := b4.keep kk
              refine append_acc (ks := l2) a7 p7.nodes.own hL8 [r6] (by simp; omega) rfl (by decide) fun v9 L9 a9 k9 => ?_
              simp (maxSteps := 4000000) only [go_sem, reduceIte, reduceCtorEq, Nat.reduceAdd, Nat.reduceSub, Nat.reduceMul, Nat.reduceLeDiff, Nat.reduceLT, Nat.reduceEqDiff, Nat.reduceBEq, a9.ints.loc]
              have p9 := (p7.acc a7.ne k9).roots (R' := (l2 ++ [r6]) ++ R) (by rw [List.append_assoc]; exact List.perm_middle.symm)
              have b9 := b7.other (ne_symm a4.2) k9
              have b9' : GAcc L9 nv6 sv4 (scells (sl2 ++ [tok.text])) := by simpa [scells] using b9.1
              refine callBy cb12 (c_bad (fun e6 => ?_) (fun e6 => ?_)) <;> simp (maxSteps := 4000000) only [go_sem, reduceIte, reduceCtorEq, Nat.reduceAdd, Nat.reduceSub, Nat.reduceMul, Nat.reduceLeDiff, Nat.reduceLT, Nat.reduceEqDiff, Nat.reduceBEq, a9.ints.loc, a9.ints.one, b9'.strs.loc]
              · refine callBy cb32 (c_is p9 fun v hv => ?_)
                cases v <;> simp (maxSteps := 4000000) only [go_sem, reduceIte, reduceCtorEq, Nat.reduceAdd, Nat.reduceSub, Nat.reduceMul, Nat.reduceLeDiff, Nat.reduceLT, Nat.reduceEqDiff, Nat.reduceBEq, a9.ints.loc, a9.ints.one, b9'.strs.loc, p9.wrap1]
                ·
                  refine callBy cb35 (c_want p9 fun v at10 code10 pos10 z1 z2 z3 z4 z5 => ?_)
                  simp (maxSteps := 4000000) only [go_sem, reduceIte, reduceCtorEq, Nat.reduceAdd, Nat.reduceSub, Nat.reduceMul, Nat.reduceLeDiff, Nat.reduceLT, Nat.reduceEqDiff, Nat.reduceBEq, a9.ints.loc, a9.ints.one]
                  have p10 := p9.step (code1 := code10) z4 z5 (fun e => (z3 e).1)
                  have q10 : code10 = 0 → code0 = 0 := fun e => q2 e2
                  clear z1 z2 z3
                  refine callBy cb39 (ih.block p10 (by omega) (by omega) fun r8 at8 nv8 ns8 deep8 df8 lp8 tp8 code8 pos8 L8 p8 k8 m8 t8 c8 q8 => ?_)
                  simp (maxSteps := 4000000) only [go_sem, reduceIte, reduceCtorEq, Nat.reduceAdd, Nat.reduceSub, Nat.reduceMul, Nat.reduceLeDiff, Nat.reduceLT, Nat.reduceEqDiff, Nat.reduceBEq]
                  refine draw2_ok (κ := fun _ => false) hMix (j0 := 7) (pr := [[], [], [], [11], [], [], [], []]) rfl (by decide +kernel) ?_
                  simp (maxSteps := 4000000) only [go_sem, reduceIte, reduceCtorEq, Nat.reduceAdd, Nat.reduceSub, Nat.reduceMul, Nat.reduceLeDiff, Nat.reduceLT, Nat.reduceEqDiff, Nat.reduceBEq]
                  have a11 := a9.keep k8
                  obtain ⟨lB, kB, hB⟩ := app_hop a11 (upd b p (some (pcells ρt ts at8 nv8 deep8 false lp2 tp8 code8 pos8))) r8 (by simp; omega)
                  refine ⟨rfl, lB, 1, _, fun ev ls n' hev hn' => hB ev ls n' _ _ _ _ (hev (.tmp 144) (by simp [Op.operands, Call.operands])) (hev (.tmp 146) (by simp [Op.operands, Call.operands])) hn', ?_⟩
                  try simp (maxSteps := 4000000) only [go_sem, reduceIte, reduceCtorEq, Nat.reduceAdd, Nat.reduceSub, Nat.reduceMul, Nat.reduceLeDiff, Nat.reduceLT, Nat.reduceEqDiff, Nat.reduceBEq]
                  have p12 := (p8.acc a11.ne kB).roots (R' := ((l2 ++ [r6]) ++ [r8]) ++ R) (by have h := (List.perm_middle (a := r8) (l₁ := (l2 ++ [r6])) (l₂ := R)).symm; simpa using h)
                  have k12 := ((k7.acc f2' k9).trans k8).acc (Fr.acc k7 f2' k9) kB
                  refine callBy cb16 (c_put (ks := (l2 ++ [r6]) ++ [r8]) p12 (.inr ⟨none, by simp⟩) (by omega) fun r20 nv20 ns20 L20 p20 k20 c20 => ?_)
                  simp (maxSteps := 4000000) only [go_sem, reduceIte, reduceCtorEq, Nat.reduceAdd, Nat.reduceSub, Nat.reduceMul, Nat.reduceLeDiff, Nat.reduceLT, Nat.reduceEqDiff, Nat.reduceBEq]
                  exact h1 _ _ _ _ _ _ _ _ _ _ _ p20 (k12.trans k20) (by omega) (by omega) (by omega) (fun e => ⟨q10 (q8 e).1, by omega⟩)
                · have hv := hv rfl
                  have p10 := p9.step (at1 := (at2 + 1) + 1) (code1 := code2) (by omega) hv id
                  refine ⟨⟨⟨0, (at2 + 1) + 1, _, _, deep2, df2, lp2, tp2, code2, pos2, _, _, l2 ++ [r6], false⟩, _, (sl2 ++ [tok.text])⟩, rfl, rfl, ⟨p10, a9, (Fr.acc k7 f2' k9), (k7.acc f2' k9), b9', ⟨ne_symm b9.2, fs4⟩, ?_, ?_, ?_, ?_, ?_⟩, ?_⟩
                  all_goals dsimp only
                  · omega
                  · omega
                  · intro e; exact q2 e2
                  · simp; omega
                  · first | omega | (simp; omega)
                  · omega
              ·
                refine callBy cb35 (c_want p9 fun v at10 code10 pos10 z1 z2 z3 z4 z5 => ?_)
                simp (maxSteps := 4000000) only [go_sem, reduceIte, reduceCtorEq, Nat.reduceAdd, Nat.reduceSub, Nat.reduceMul, Nat.reduceLeDiff, Nat.reduceLT, Nat.reduceEqDiff, Nat.reduceBEq, a9.ints.loc, a9.ints.one]
                have p10 := p9.step (code1 := code10) z4 z5 (fun e => (z3 e).1)
                have q10 : code10 = 0 → code0 = 0 := fun e => q2 e2
                clear z1 z2 z3
                refine callBy cb39 (ih.block p10 (by omega) (by omega) fun r8 at8 nv8 ns8 deep8 df8 lp8 tp8 code8 pos8 L8 p8 k8 m8 t8 c8 q8 => ?_)
                simp (maxSteps := 4000000) only [go_sem, reduceIte, reduceCtorEq, Nat.reduceAdd, Nat.reduceSub, Nat.reduceMul, Nat.reduceLeDiff, Nat.reduceLT, Nat.reduceEqDiff, Nat.reduceBEq]
                refine draw2_ok (κ := fun _ => false) hMix (j0 := 7) (pr := [[], [], [], [11], [], [], [], []]) rfl (by decide +kernel) ?_
                simp (maxSteps := 4000000) only [go_sem, reduceIte, reduceCtorEq, Nat.reduceAdd, Nat.reduceSub, Nat.reduceMul, Nat.reduceLeDiff, Nat.reduceLT, Nat.reduceEqDiff, Nat.reduceBEq]
                have a11 := a9.keep k8
                obtain ⟨lB, kB, hB⟩ := app_hop a11 (upd b p (some (pcells ρt ts at8 nv8 deep8 false lp2 tp8 code8 pos8))) r8 (by simp; omega)
                refine ⟨rfl, lB, 1, _, fun ev ls n' hev hn' => hB ev ls n' _ _ _ _ (hev (.tmp 144) (by simp [Op.operands, Call.operands])) (hev (.tmp 146) (by simp [Op.operands, Call.operands])) hn', ?_⟩
                try simp (maxSteps := 4000000) only [go_sem, reduceIte, reduceCtorEq, Nat.reduceAdd, Nat.reduceSub, Nat.reduceMul, Nat.reduceLeDiff, Nat.reduceLT, Nat.reduceEqDiff, Nat.reduceBEq]
                have p12 := (p8.acc a11.ne kB).roots (R' := ((l2 ++ [r6]) ++ [r8]) ++ R) (by have h := (List.perm_middle (a := r8) (l₁ := (l2 ++ [r6])) (l₂ := R)).symm; simpa using h)
                have k12 := ((k7.acc f2' k9).trans k8).acc (Fr.acc k7 f2' k9) kB
                refine callBy cb16 (c_put (ks := (l2 ++ [r6]) ++ [r8]) p12 (.inr ⟨none, by simp⟩) (by omega) fun r20 nv20 ns20 L20 p20 k20 c20 => ?_)
                simp (maxSteps := 4000000) only [go_sem, reduceIte, reduceCtorEq, Nat.reduceAdd, Nat.reduceSub, Nat.reduceMul, Nat.reduceLeDiff, Nat.reduceLT, Nat.reduceEqDiff, Nat.reduceBEq]
                exact h1 _ _ _ _ _ _ _ _ _ _ _ p20 (k12.trans k20) (by omega) (by omega) (by omega) (fun e => ⟨q10 (q8 e).1, by omega⟩)
            · have hv := hv rfl
              have p5 := p4.step (at1 := at2 + 2) (code1 := code2) (by omega) hv id
              refine callBy cb47 (ihE.test p5 (by omega) (by omega) fun r5 at5 nv5 ns5 deep5 df5 lp5 tp5 code5 pos5 L5 p55 k5 m5 t5 c5 q5 => ?_)
              simp (maxSteps := 4000000) only [go_sem, reduceIte, reduceCtorEq, Nat.reduceAdd, Nat.reduceSub, Nat.reduceMul, Nat.reduceLeDiff, Nat.reduceLT, Nat.reduceEqDiff, Nat.reduceBEq]
              intro n5 hn5 hL5
              refine callBy cb16 (c_put (ks := [r5]) (p55.grow (Grow.upd n5)) (.inr ⟨some n5, rfl⟩) (by omega) fun r6 nv6 ns6 L6 p6 k6 c6 => ?_)
              simp (maxSteps := 4000000) only [go_sem, reduceIte, reduceCtorEq, Nat.reduceAdd, Nat.reduceSub, Nat.reduceMul, Nat.reduceLeDiff, Nat.reduceLT, Nat.reduceEqDiff, Nat.reduceBEq]
              intro n7 hn7 hL7 n8 hn8 hL8
              have p7 := p6.grow (Grow.upd n7)
              have kk := k5.trans ((Grow.upd n5).keep.trans (k6.trans (Grow.upd n7).keep))
              have k7 := k4.trans kk
              have a7 := a4.1.keep kk
              have b7 := b4.keep kk
              refine append_acc (ks := l2) a7 p7.nodes.own hL8 [r6] (by simp; omega) rfl (by decide) fun v9 L9 a9 k9 => ?_
              simp (maxSteps := 4000000) only [go_sem, reduceIte, reduceCtorEq, Nat.reduceAdd, Nat.reduceSub, Nat.reduceMul, Nat.reduceLeDiff, Nat.reduceLT, Nat.reduceEqDiff, Nat.reduceBEq, a9.ints.loc]
              have p9 := (p7.acc a7.ne k9).roots (R' := (l2 ++ [r6]) ++ R) (by rw [List.append_assoc]; exact List.perm_middle.symm)
              have b9 := b7.other (ne_symm a4.2) k9
              have b9' : GAcc L9 nv6 sv4 (scells (sl2 ++ [tok.text])) := by simpa [scells] using b9.1
              refine callBy cb12 (c_bad (fun e6 => ?_) (fun e6 => ?_)) <;> simp (maxSteps := 4000000) only [go_sem, reduceIte, reduceCtorEq, Nat.reduceAdd, Nat.reduceSub, Nat.reduceMul, Nat.reduceLeDiff, Nat.reduceLT, Nat.reduceEqDiff, Nat.reduceBEq, a9.ints.loc, a9.ints.one, b9'.strs.loc]
              · refine callBy cb32 (c_is p9 fun v hv => ?_)
                cases v <;> simp (maxSteps := 4000000) only [go_sem, reduceIte, reduceCtorEq, Nat.reduceAdd, Nat.reduceSub, Nat.reduceMul, Nat.reduceLeDiff, Nat.reduceLT, Nat.reduceEqDiff, Nat.reduceBEq, a9.ints.loc, a9.ints.one, b9'.strs.loc, p9.wrap1]
                ·
                  refine callBy cb35 (c_want p9 fun v at10 code10 pos10 z1 z2 z3 z4 z5 => ?_)
                  simp (maxSteps := 4000000) only [go_sem, reduceIte, reduceCtorEq, Nat.reduceAdd, Nat.reduceSub, Nat.reduceMul, Nat.reduceLeDiff, Nat.reduceLT, Nat.reduceEqDiff, Nat.reduceBEq, a9.ints.loc, a9.ints.one]
                  have p10 := p9.step (code1 := code10) z4 z5 (fun e => (z3 e).1)
                  have q10 : code10 = 0 → code0 = 0 := fun e => q2 e2
                  clear z1 z2 z3
                  refine callBy cb39 (ih.block p10 (by omega) (by omega) fun r8 at8 nv8 ns8 deep8 df8 lp8 tp8 code8 pos8 L8 p8 k8 m8 t8 c8 q8 => ?_)
                  simp (maxSteps := 4000000) only [go_sem, reduceIte, reduceCtorEq, Nat.reduceAdd, Nat.reduceSub, Nat.reduceMul, Nat.reduceLeDiff, Nat.reduceLT, Nat.reduceEqDiff, Nat.reduceBEq]
                  refine draw2_ok (κ := fun _ => false) hMix (j0 := 7) (pr := [[], [], [], [11], [], [], [], []]) rfl (by decide +kernel) ?_
                  simp (maxSteps := 4000000) only [go_sem, reduceIte, reduceCtorEq, Nat.reduceAdd, Nat.reduceSub, Nat.reduceMul, Nat.reduceLeDiff, Nat.reduceLT, Nat.reduceEqDiff, Nat.reduceBEq]
                  have a11 := a9.keep k8
                  obtain ⟨lB, kB, hB⟩ := app_hop a11 (upd b p (some (pcells ρt ts at8 nv8 deep8 false lp5 tp8 code8 pos8))) r8 (by simp; omega)
                  refine ⟨rfl, lB, 1, _, fun ev ls n' hev hn' => hB ev ls n' _ _ _ _ (hev (.tmp 144) (by simp [Op.operands, Call.operands])) (hev (.tmp 146) (by simp [Op.operands, Call.operands])) hn', ?_⟩
                  try simp (maxSteps := 4000000) only [go_sem, reduceIte, reduceCtorEq, Nat.reduceAdd, Nat.reduceSub, Nat.reduceMul, Nat.reduceLeDiff, Nat.reduceLT, Nat.reduceEqDiff, Nat.reduceBEq]
                  have p12 := (p8.acc a11.ne kB).roots (R' := ((l2 ++ [r6]) ++ [r8]) ++ R) (by have h := (List.perm_middle (a := r8) (l₁ := (l2 ++ [r6])) (l₂ := R)).symm; simpa using h)
                  have k12 := ((k7.acc f2' k9).trans k8).acc (Fr.acc k7 f2' k9) kB
                  refine callBy cb16 (c_put (ks := (l2 ++ [r6]) ++ [r8]) p12 (.inr ⟨none, by simp⟩) (by omega) fun r20 nv20 ns20 L20 p20 k20 c20 => ?_)
                  simp (maxSteps := 4000000) only [go_sem, reduceIte, reduceCtorEq, Nat.reduceAdd, Nat.reduceSub, Nat.reduceMul, Nat.reduceLeDiff, Nat.reduceLT, Nat.reduceEqDiff, Nat.reduceBEq]
                  exact h1 _ _ _ _ _ _ _ _ _ _ _ p20 (k12.trans k20) (by omega) (by omega) (by omega) (fun e => ⟨q10 (q8 e).1, by omega⟩)
                · have hv := hv rfl
                  have p10 := p9.step (at1 := at5 + 1) (code1 := code5) (by omega) hv id
                  refine ⟨⟨⟨0, at5 + 1, _, _, deep5, df5, lp5, tp5, code5, pos5, _, _, l2 ++ [r6], true⟩, _, (sl2 ++ [tok.text])⟩, rfl, rfl, ⟨p10, a9, (Fr.acc k7 f2' k9), (k7.acc f2' k9), b9', ⟨ne_symm b9.2, fs4⟩, ?_, ?_, ?_, ?_, ?_⟩, ?_⟩
                  all_goals dsimp only
                  · omega
                  · omega
                  · intro e; exact q2 e2
                  · simp; omega
                  · first | omega | (simp; omega)
                  · omega
              ·
                refine callBy cb35 (c_want p9 fun v at10 code10 pos10 z1 z2 z3 z4 z5 => ?_)
                simp (maxSteps := 4000000) only [go_sem, reduceIte, reduceCtorEq, Nat.reduceAdd, Nat.reduceSub, Nat.reduceMul, Nat.reduceLeDiff, Nat.reduceLT, Nat.reduceEqDiff, Nat.reduceBEq, a9.ints.loc, a9.ints.one]
                have p10 := p9.step (code1 := code10) z4 z5 (fun e => (z3 e).1)
                have q10 : code10 = 0 → code0 = 0 := fun e => q2 e2
                clear z1 z2 z3
                refine callBy cb39 (ih.block p10 (by omega) (by omega) fun r8 at8 nv8 ns8 deep8 df8 lp8 tp8 code8 pos8 L8 p8 k8 m8 t8 c8 q8 => ?_)
                simp (maxSteps := 4000000) only [go_sem, reduceIte, reduceCtorEq, Nat.reduceAdd, Nat.reduceSub, Nat.reduceMul, Nat.reduceLeDiff, Nat.reduceLT, Nat.reduceEqDiff, Nat.reduceBEq]
                refine draw2_ok (κ := fun _ => false) hMix (j0 := 7) (pr := [[], [], [], [11], [], [], [], []]) rfl (by decide +kernel) ?_
                simp (maxSteps := 4000000) only [go_sem, reduceIte, reduceCtorEq, Nat.reduceAdd, Nat.reduceSub, Nat.reduceMul, Nat.reduceLeDiff, Nat.reduceLT, Nat.reduceEqDiff, Nat.reduceBEq]
                have a11 := a9.keep k8
                obtain ⟨lB, kB, hB⟩ := app_hop a11 (upd b p (some (pcells ρt ts at8 nv8 deep8 false lp5 tp8 code8 pos8))) r8 (by simp; omega)
                refine ⟨rfl, lB, 1, _, fun ev ls n' hev hn' => hB ev ls n' _ _ _ _ (hev (.tmp 144) (by simp [Op.operands, Call.operands])) (hev (.tmp 146) (by simp [Op.operands, Call.operands])) hn', ?_⟩
                try simp (maxSteps := 4000000) only [go_sem, reduceIte, reduceCtorEq, Nat.reduceAdd, Nat.reduceSub, Nat.reduceMul, Nat.reduceLeDiff, Nat.reduceLT, Nat.reduceEqDiff, Nat.reduceBEq]
                have p12 := (p8.acc a11.ne kB).roots (R' := ((l2 ++ [r6]) ++ [r8]) ++ R) (by have h := (List.perm_middle (a := r8) (l₁ := (l2 ++ [r6])) (l₂ := R)).symm; simpa using h)
                have k12 := ((k7.acc f2' k9).trans k8).acc (Fr.acc k7 f2' k9) kB
                refine callBy cb16 (c_put (ks := (l2 ++ [r6]) ++ [r8]) p12 (.inr ⟨none, by simp⟩) (by omega) fun r20 nv20 ns20 L20 p20 k20 c20 => ?_)
                simp (maxSteps := 4000000) only [go_sem, reduceIte, reduceCtorEq, Nat.reduceAdd, Nat.reduceSub, Nat.reduceMul, Nat.reduceLeDiff, Nat.reduceLT, Nat.reduceEqDiff, Nat.reduceBEq]
                exact h1 _ _ _ _ _ _ _ _ _ _ _ p20 (k12.trans k20) (by omega) (by omega) (by omega) (fun e => ⟨q10 (q8 e).1, by omega⟩)
          · refine callBy cb52 (c_named p2 fun v hv => ?_)
            cases v <;> simp (maxSteps := 4000000) only [go_sem, reduceIte, reduceCtorEq, Nat.reduceAdd, Nat.reduceSub, Nat.reduceMul, Nat.reduceLeDiff, Nat.reduceLT, Nat.reduceEqDiff, Nat.reduceBEq]
            ·
              refine callBy cb37 (c_wrong p2 fun code7 pos7 hc => ?_)
              simp (maxSteps := 4000000) only [go_sem, reduceIte, reduceCtorEq, Nat.reduceAdd, Nat.reduceSub, Nat.reduceMul, Nat.reduceLeDiff, Nat.reduceLT, Nat.reduceEqDiff, Nat.reduceBEq]
              exact h1 _ _ _ _ _ _ _ _ _ _ _ (p2.fail (Int.le_refl _) g4 hc _) k2 (by omega) (by omega) (by omega) (fun e => absurd e hc)
            ·
              intro n hn hL n2 hn2 hL2
              have p3 := p2.grow (Grow.upd n)
              have k3 := k2.trans (Grow.upd n).keep
              refine append_g (b2.grow (Grow.upd n)) p3.nodes.own hL2 [.str tok.text] (by simp [scells]; omega) rfl (by decide) fun sv4 L4 b4 j4 => ?_
              simp (maxSteps := 4000000) only [go_sem, reduceIte, reduceCtorEq, Nat.reduceAdd, Nat.reduceSub, Nat.reduceMul, Nat.reduceLeDiff, Nat.reduceLT, Nat.reduceEqDiff, Nat.reduceBEq]
              have p4 := p3.acc b2.ne j4
              have a4 := (a2.grow (Grow.upd n)).other x2 j4
              have k4 := k3.acc fs2 j4
              have fs4 := Fr.acc k3 fs2 j4
              refine callBy cb52 (c_named p4 fun v hv => ?_)
              cases v <;> simp (maxSteps := 4000000) only [go_sem, reduceIte, reduceCtorEq, Nat.reduceAdd, Nat.reduceSub, Nat.reduceMul, Nat.reduceLeDiff, Nat.reduceLT, Nat.reduceEqDiff, Nat.reduceBEq, p2.wrap1, p2.wrap2]
              · have p5 := p4.step (at1 := at2 + 1) (code1 := code2) (by omega) (u2 (by rw [hk]; decide)) id
                refine callBy cb16 (c_put (ks := []) p5 (.inl ⟨rfl, rfl⟩) (by omega) fun r6 nv6 ns6 L6 p6 k6 c6 => ?_)
                simp (maxSteps := 4000000) only [go_sem, reduceIte, reduceCtorEq, Nat.reduceAdd, Nat.reduceSub, Nat.reduceMul, Nat.reduceLeDiff, Nat.reduceLT, Nat.reduceEqDiff, Nat.reduceBEq]
                intro n7 hn7 hL7 n8 hn8 hL8
                have p7 := p6.grow (Grow.upd n7)
                have kk := k6.trans (Grow.upd n7).keep
                have k7 := k4.trans kk
                have a7 := a4.1.keep kk
                have b7 := b4.keep kk
                refine append_acc (ks := l2) a7 p7.nodes.own hL8 [r6] (by simp; omega) rfl (by decide) fun v9 L9 a9 k9 => ?_
                simp (maxSteps := 4000000) only [go_sem, reduceIte, reduceCtorEq, Nat.reduceAdd, Nat.reduceSub, Nat.reduceMul, Nat.reduceLeDiff, Nat.reduceLT, Nat.reduceEqDiff, Nat.reduceBEq, a9.ints.loc]
                have p9 := (p7.acc a7.ne k9).roots (R' := (l2 ++ [r6]) ++ R) (by rw [List.append_assoc]; exact List.perm_middle.symm)
                have b9 := b7.other (ne_symm a4.2) k9
                have b9' : GAcc L9 nv6 sv4 (scells (sl2 ++ [tok.text])) := by simpa [scells] using b9.1
                refine callBy cb12 (c_bad (fun e6 => ?_) (fun e6 => ?_)) <;> simp (maxSteps := 4000000) only [go_sem, reduceIte, reduceCtorEq, Nat.reduceAdd, Nat.reduceSub, Nat.reduceMul, Nat.reduceLeDiff, Nat.reduceLT, Nat.reduceEqDiff, Nat.reduceBEq, a9.ints.loc, a9.ints.one, b9'.strs.loc]
                · refine callBy cb32 (c_is p9 fun v hv => ?_)
                  cases v <;> simp (maxSteps := 4000000) only [go_sem, reduceIte, reduceCtorEq, Nat.reduceAdd, Nat.reduceSub, Nat.reduceMul, Nat.reduceLeDiff, Nat.reduceLT, Nat.reduceEqDiff, Nat.reduceBEq, a9.ints.loc, a9.ints.one, b9'.strs.loc, p9.wrap1]
                  ·
                    refine callBy cb35 (c_want p9 fun v at10 code10 pos10 z1 z2 z3 z4 z5 => ?_)
                    simp (maxSteps := 4000000) only [go_sem, reduceIte, reduceCtorEq, Nat.reduceAdd, Nat.reduceSub, Nat.reduceMul, Nat.reduceLeDiff, Nat.reduceLT, Nat.reduceEqDiff, Nat.reduceBEq, a9.ints.loc, a9.ints.one]
                    have p10 := p9.step (code1 := code10) z4 z5 (fun e => (z3 e).1)
                    have q10 : code10 = 0 → code0 = 0 := fun e => q2 e2
                    clear z1 z2 z3
                    refine callBy cb39 (ih.block p10 (by omega) (by omega) fun r8 at8 nv8 ns8 deep8 df8 lp8 tp8 code8 pos8 L8 p8 k8 m8 t8 c8 q8 => ?_)
                    simp (maxSteps := 4000000) only [go_sem, reduceIte, reduceCtorEq, Nat.reduceAdd, Nat.reduceSub, Nat.reduceMul, Nat.reduceLeDiff, Nat.reduceLT, Nat.reduceEqDiff, Nat.reduceBEq]
                    refine draw2_ok (κ := fun _ => false) hMix (j0 := 7) (pr := [[], [], [], [11], [], [], [], []]) rfl (by decide +kernel) ?_
                    simp (maxSteps := 4000000) only [go_sem, reduceIte, reduceCtorEq, Nat.reduceAdd, Nat.reduceSub, Nat.reduceMul, Nat.reduceLeDiff, Nat.reduceLT, Nat.reduceEqDiff, Nat.reduceBEq]
                    have a11 := a9.keep k8
                    obtain ⟨lB, kB, hB⟩ := app_hop a11 (upd b p (some (pcells ρt ts at8 nv8 deep8 false lp2 tp8 code8 pos8))) r8 (by simp; omega)
                    refine ⟨rfl, lB, 1, _, fun ev ls n' hev hn' => hB ev ls n' _ _ _ _ (hev (.tmp 144) (by simp [Op.operands, Call.operands])) (hev (.tmp 146) (by simp [Op.operands, Call.operands])) hn', ?_⟩
                    try simp (maxSteps := 4000000) only [go_sem, reduceIte, reduceCtorEq, Nat.reduceAdd, Nat.reduceSub, Nat.reduceMul, Nat.reduceLeDiff, Nat.reduceLT, Nat.reduceEqDiff, Nat.reduceBEq]
                    have p12 := (p8.acc a11.ne kB).roots (R' := ((l2 ++ [r6]) ++ [r8]) ++ R) (by have h := (List.perm_middle (a := r8) (l₁ := (l2 ++ [r6])) (l₂ := R)).symm; simpa using h)
                    have k12 := ((k7.acc f2' k9).trans k8).acc (Fr.acc k7 f2' k9) kB
                    refine callBy cb16 (c_put (ks := (l2 ++ [r6]) ++ [r8]) p12 (.inr ⟨none, by simp⟩) (by omega) fun r20 nv20 ns20 L20 p20 k20 c20 => ?_)
                    simp (maxSteps := 4000000) only [go_sem, reduceIte, reduceCtorEq, Nat.reduceAdd, Nat.reduceSub, Nat.reduceMul, Nat.reduceLeDiff, Nat.reduceLT, Nat.reduceEqDiff, Nat.reduceBEq]
                    exact h1 _ _ _ _ _ _ _ _ _ _ _ p20 (k12.trans k20) (by omega) (by omega) (by omega) (fun e => ⟨q10 (q8 e).1, by omega⟩)
                  · have hv := hv rfl
                    have p10 := p9.step (at1 := (at2 + 1) + 1) (code1 := code2) (by omega) hv id
                    refine ⟨⟨⟨0, (at2 + 1) + 1, _, _, deep2, df2, lp2, tp2, code2, pos2, _, _, l2 ++ [r6], true⟩, _, (sl2 ++ [tok.text])⟩, rfl, rfl, ⟨p10, a9, (Fr.acc k7 f2' k9), (k7.acc f2' k9), b9', ⟨ne_symm b9.2, fs4⟩, ?_, ?_, ?_, ?_, ?_⟩, ?_⟩
                    all_goals dsimp only
                    · omega
                    · omega
                    · intro e; exact q2 e2
                    · simp; omega
                    · first | omega | (simp; omega)
                    · omega
                ·
                  refine callBy cb35 (c_want p9 fun v at10 code10 pos10 z1 z2 z3 z4 z5 => ?_)
                  simp (maxSteps := 4000000) only [go_sem, reduceIte, reduceCtorEq, Nat.reduceAdd, Nat.reduceSub, Nat.reduceMul, Nat.reduceLeDiff, Nat.reduceLT, Nat.reduceEqDiff, Nat.reduceBEq, a9.ints.loc, a9.ints.one]
                  have p10 := p9.step (code1 := code10) z4 z5 (fun e => (z3 e).1)
                  have q10 : code10 = 0 → code0 = 0 := fun e => q2 e2
                  clear z1 z2 z3
                  refine callBy cb39 (ih.block p10 (by omega) (by omega) fun r8 at8 nv8 ns8 deep8 df8 lp8 tp8 code8 pos8 L8 p8 k8 m8 t8 c8 q8 => ?_)
                  simp (maxSteps := 4000000) only [go_sem, reduceIte, reduceCtorEq, Nat.reduceAdd, Nat.reduceSub, Nat.reduceMul, Nat.reduceLeDiff, Nat.reduceLT, Nat.reduceEqDiff, Nat.reduceBEq]
                  refine draw2_ok (κ := fun _ => false) hMix (j0 := 7) (pr := [[], [], [], [11], [], [], [], []]) rfl (by decide +kernel) ?_
                  simp (maxSteps := 4000000) only [go_sem, reduceIte, reduceCtorEq, Nat.reduceAdd, Nat.reduceSub, Nat.reduceMul, Nat.reduceLeDiff, Nat.reduceLT, Nat.reduceEqDiff, Nat.reduceBEq]
                  have a11 := a9.keep k8
                  obtain ⟨lB, kB, hB⟩ := app_hop a11 (upd b p (some (pcells ρt ts at8 nv8 deep8 false lp2 tp8 code8 pos8))) r8 (by simp; omega)
                  refine ⟨rfl, lB, 1, _, fun ev ls n' hev hn' => hB ev ls n' _ _ _ _ (hev (.tmp 144) (by simp [Op.operands, Call.operands])) (hev (.tmp 146) (by simp [Op.operands, Call.operands])) hn', ?_⟩
                  try simp (maxSteps := 4000000) only [go_sem, reduceIte, reduceCtorEq, Nat.reduceAdd, Nat.reduceSub, Nat.reduceMul, Nat.reduceLeDiff, Nat.reduceLT, Nat.reduceEqDiff, Nat.reduceBEq]
                  have p12 := (p8.acc a11.ne kB).roots (R' := ((l2 ++ [r6]) ++ [r8]) ++ R) (by have h := (List.perm_middle (a := r8) (l₁ := (l2 ++ [r6])) (l₂ := R)).symm; simpa using h)
                  have k12 := ((k7.acc f2' k9).trans k8).acc (Fr.acc k7 f2' k9) kB
                  refine callBy cb16 (c_put (ks := (l2 ++ [r6]) ++ [r8]) p12 (.inr ⟨none, by simp⟩) (by omega) fun r20 nv20 ns20 L20 p20 k20 c20 => ?_)
                  simp (maxSteps := 4000000) only [go_sem, reduceIte, reduceCtorEq, Nat.reduceAdd, Nat.reduceSub, Nat.reduceMul, Nat.reduceLeDiff, Nat.reduceLT, Nat.reduceEqDiff, Nat.reduceBEq]
                  exact h1 _ _ _ _ _ _ _ _ _ _ _ p20 (k12.trans k20) (by omega) (by omega) (by omega) (fun e => ⟨q10 (q8 e).1, by omega⟩)
              · have hv := hv rfl
                have p5 := p4.step (at1 := at2 + 2) (code1 := code2) (by omega) hv id
                refine callBy cb47 (ihE.test p5 (by omega) (by omega) fun r5 at5 nv5 ns5 deep5 df5 lp5 tp5 code5 pos5 L5 p55 k5 m5 t5 c5 q5 => ?_)
                simp (maxSteps := 4000000) only [go_sem, reduceIte, reduceCtorEq, Nat.reduceAdd, Nat.reduceSub, Nat.reduceMul, Nat.reduceLeDiff, Nat.reduceLT, Nat.reduceEqDiff, Nat.reduceBEq]
                intro n5 hn5 hL5
                refine callBy cb16 (c_put (ks := [r5]) (p55.grow (Grow.upd n5)) (.inr ⟨some n5, rfl⟩) (by omega) fun r6 nv6 ns6 L6 p6 k6 c6 => ?_)
                simp (maxSteps := 4000000) only [go_sem, reduceIte, reduceCtorEq, Nat.reduceAdd, Nat.reduceSub, Nat.reduceMul, Nat.reduceLeDiff, Nat.reduceLT, Nat.reduceEqDiff, Nat.reduceBEq]
                intro n7 hn7 hL7 n8 hn8 hL8
                have p7 := p6.grow (Grow.upd n7)
                have kk := k5.trans ((Grow.upd n5).keep.trans (k6.trans (Grow.upd n7).keep))
                have k7 := k4.trans kk
                have a7 := a4.1.keep kk
                have b7 := b4.keep kk
                refine append_acc (ks := l2) a7 p7.nodes.own hL8 [r6] (by simp; omega) rfl (by decide) fun v9 L9 a9 k9 => ?_
                simp (maxSteps := 4000000) only [go_sem, reduceIte, reduceCtorEq, Nat.reduceAdd, Nat.reduceSub, Nat.reduceMul, Nat.reduceLeDiff, Nat.reduceLT, Nat.reduceEqDiff, Nat.reduceBEq, a9.ints.loc]
                have p9 := (p7.acc a7.ne k9).roots (R' := (l2 ++ [r6]) ++ R) (by rw [List.append_assoc]; exact List.perm_middle.symm)
                have b9 := b7.other (ne_symm a4.2) k9
                have b9' : GAcc L9 nv6 sv4 (scells (sl2 ++ [tok.text])) := by simpa [scells] using b9.1
                refine callBy cb12 (c_bad (fun e6 => ?_) (fun e6 => ?_)) <;> simp (maxSteps := 4000000) only [go_sem, reduceIte, reduceCtorEq, Nat.reduceAdd, Nat.reduceSub, Nat.reduceMul, Nat.reduceLeDiff, Nat.reduceLT, Nat.reduceEqDiff, Nat.reduceBEq, a9.ints.loc, a9.ints.one, b9'.strs.loc]
                · refine callBy cb32 (c_is p9 fun v hv => ?_)
                  cases v <;> simp (maxSteps := 4000000) only [go_sem, reduceIte, reduceCtorEq, Nat.reduceAdd, Nat.reduceSub, Nat.reduceMul, Nat.reduceLeDiff, Nat.reduceLT, Nat.reduceEqDiff, Nat.reduceBEq, a9.ints.loc, a9.ints.one, b9'.strs.loc, p9.wrap1]
                  ·
                    refine callBy cb35 (c_want p9 fun v at10 code10 pos10 z1 z2 z3 z4 z5 => ?_)
                    simp (maxSteps := 4000000) only [go_sem, reduceIte, reduceCtorEq, Nat.reduceAdd, Nat.reduceSub, Nat.reduceMul, Nat.reduceLeDiff, Nat.reduceLT, Nat.reduceEqDiff, Nat.reduceBEq, a9.ints.loc, a9.ints.one]
                    have p10 := p9.step (code1 := code10) z4 z5 (fun e => (z3 e).1)
                    have q10 : code10 = 0 → code0 = 0 := fun e => q2 e2
                    clear z1 z2 z3
                    refine callBy cb39 (ih.block p10 (by omega) (by omega) fun r8 at8 nv8 ns8 deep8 df8 lp8 tp8 code8 pos8 L8 p8 k8 m8 t8 c8 q8 => ?_)
                    simp (maxSteps := 4000000) only [go_sem, reduceIte, reduceCtorEq, Nat.reduceAdd, Nat.reduceSub, Nat.reduceMul, Nat.reduceLeDiff, Nat.reduceLT, Nat.reduceEqDiff, Nat.reduceBEq]
                    refine draw2_ok (κ := fun _ => false) hMix (j0 := 7) (pr := [[], [], [], [11], [], [], [], []]) rfl (by decide +kernel) ?_
                    simp (maxSteps := 4000000) only [go_sem, reduceIte, reduceCtorEq, Nat.reduceAdd, Nat.reduceSub, Nat.reduceMul, Nat.reduceLeDiff, Nat.reduceLT, Nat.reduceEqDiff, Nat.reduceBEq]
                    have a11 := a9.keep k8
                    obtain ⟨lB, kB, hB⟩ := app_hop a11 (upd b p (some (pcells ρt ts at8 nv8 deep8 false lp5 tp8 code8 pos8))) r8 (by simp; omega)
                    refine ⟨rfl, lB, 1, _, fun ev ls n' hev hn' => hB ev ls n' _ _ _ _ (hev (.tmp 144) (by simp [Op.operands, Call.operands])) (hev (.tmp 146) (by simp [Op.operands, Call.operands])) hn', ?_⟩
                    try simp (maxSteps := 4000000) only [go_sem, reduceIte, reduceCtorEq, Nat.reduceAdd, Nat.reduceSub, Nat.reduceMul, Nat.reduceLeDiff, Nat.reduceLT, Nat.reduceEqDiff, Nat.reduceBEq]
                    have p12 := (p8.acc a11.ne kB).roots (R' := ((l2 ++ [r6]) ++ [r8]) ++ R) (by have h := (List.perm_middle (a := r8) (l₁ := (l2 ++ [r6])) (l₂ := R)).symm; simpa using h)
                    have k12 := ((k7.acc f2' k9).trans k8).acc (Fr.acc k7 f2' k9) kB
                    refine callBy cb16 (c_put (ks := (l2 ++ [r6]) ++ [r8]) p12 (.inr ⟨none, by simp⟩) (by omega) fun r20 nv20 ns20 L20 p20 k20 c20 => ?_)
                    simp (maxSteps := 4000000) only [go_sem, reduceIte, reduceCtorEq, Nat.reduceAdd, Nat.reduceSub, Nat.reduceMul, Nat.reduceLeDiff, Nat.reduceLT, Nat.reduceEqDiff, Nat.reduceBEq]
                    exact h1 _ _ _ _ _ _ _ _ _ _ _ p20 (k12.trans k20) (by omega) (by omega) (by omega) (fun e => ⟨q10 (q8 e).1, by omega⟩)
                  · have hv := hv rfl
                    have p10 := p9.step (at1 := at5 + 1) (code1 := code5) (by omega) hv id
                    refine ⟨⟨⟨0, at5 + 1, _, _, deep5, df5, lp5, tp5, code5, pos5, _, _, l2 ++ [r6], true⟩, _, (sl2 ++ [tok.text])⟩, rfl, rfl, ⟨p10, a9, (Fr.acc k7 f2' k9), (k7.acc f2' k9), b9', ⟨ne_symm b9.2, fs4⟩, ?_, ?_, ?_, ?_, ?_⟩, ?_⟩
                    all_goals dsimp only
                    · omega
                    · omega
                    · intro e; exact q2 e2
                    · simp; omega
                    · first | omega | (simp; omega)
                    · omega
                ·
                  refine callBy cb35 (c_want p9 fun v at10 code10 pos10 z1 z2 z3 z4 z5 => ?_)
                  simp (maxSteps := 4000000) only [go_sem, reduceIte, reduceCtorEq, Nat.reduceAdd, Nat.reduceSub, Nat.reduceMul, Nat.reduceLeDiff, Nat.reduceLT, Nat.reduceEqDiff, Nat.reduceBEq, a9.ints.loc, a9.ints.one]
                  have p10 := p9.step (code1 := code10) z4 z5 (fun e => (z3 e).1)
                  have q10 : code10 = 0 → code0 = 0 := fun e => q2 e2
                  clear z1 z2 z3
                  refine callBy cb39 (ih.block p10 (by omega) (by omega) fun r8 at8 nv8 ns8 deep8 df8 lp8 tp8 code8 pos8 L8 p8 k8 m8 t8 c8 q8 => ?_)
                  simp (maxSteps := 4000000) only [go_sem, reduceIte, reduceCtorEq, Nat.reduceAdd, Nat.reduceSub, Nat.reduceMul, Nat.reduceLeDiff, Nat.reduceLT, Nat.reduceEqDiff, Nat.reduceBEq]
                  refine draw2_ok (κ := fun _ => false) hMix (j0 := 7) (pr := [[], [], [], [11], [], [], [], []]) rfl (by decide +kernel) ?_
                  simp (maxSteps := 4000000) only [go_sem, reduceIte, reduceCtorEq, Nat.reduceAdd, Nat.reduceSub, Nat.reduceMul, Nat.reduceLeDiff, Nat.reduceLT, Nat.reduceEqDiff, Nat.reduceBEq]
                  have a11 := a9.keep k8
                  obtain ⟨lB, kB, hB⟩ := app_hop a11 (upd b p (some (pcells ρt ts at8 nv8 deep8 false lp5 tp8 code8 pos8))) r8 (by simp; omega)
                  refine ⟨rfl, lB, 1, _, fun ev ls n' hev hn' => hB ev ls n' _ _ _ _ (hev (.tmp 144) (by simp [Op.operands, Call.operands])) (hev (.tmp 146) (by simp [Op.operands, Call.operands])) hn', ?_⟩
                  try simp (maxSteps := 4000000) only [go_sem, reduceIte, reduceCtorEq, Nat.reduceAdd, Nat.reduceSub, Nat.reduceMul, Nat.reduceLeDiff, Nat.reduceLT, Nat.reduceEqDiff, Nat.reduceBEq]
                  have p12 := (p8.acc a11.ne kB).roots (R' := ((l2 ++ [r6]) ++ [r8]) ++ R) (by have h := (List.perm_middle (a := r8) (l₁ := (l2 ++ [r6])) (l₂ := R)).symm; simpa using h)
                  have k12 := ((k7.acc f2' k9).trans k8).acc (Fr.acc k7 f2' k9) kB
                  refine callBy cb16 (c_put (ks := (l2 ++ [r6]) ++ [r8]) p12 (.inr ⟨none, by simp⟩) (by omega) fun r20 nv20 ns20 L20 p20 k20 c20 => ?_)
                  simp (maxSteps := 4000000) only [go_sem, reduceIte, reduceCtorEq, Nat.reduceAdd, Nat.reduceSub, Nat.reduceMul, Nat.reduceLeDiff, Nat.reduceLT, Nat.reduceEqDiff, Nat.reduceBEq]
                  exact h1 _ _ _ _ _ _ _ _ _ _ _ p20 (k12.trans k20) (by omega) (by omega) (by omega) (fun e => ⟨q10 (q8 e).1, by omega⟩)
    ·
      refine callBy cb35 (c_want p2 fun v at10 code10 pos10 z1 z2 z3 z4 z5 => ?_)
      simp (maxSteps := 4000000) only [go_sem, reduceIte, reduceCtorEq, Nat.reduceAdd, Nat.reduceSub, Nat.reduceMul, Nat.reduceLeDiff, Nat.reduceLT, Nat.reduceEqDiff, Nat.reduceBEq, a2.ints.loc, a2.ints.one]
      have p10 := p2.step (code1 := code10) z4 z5 (fun e => (z3 e).1)
      have q10 : code10 = 0 → code0 = 0 := fun e => q2 (z3 e).1
      clear z1 z2 z3
      refine callBy cb39 (ih.block p10 (by omega) (by omega) fun r8 at8 nv8 ns8 deep8 df8 lp8 tp8 code8 pos8 L8 p8 k8 m8 t8 c8 q8 => ?_)
      simp (maxSteps := 4000000) only [go_sem, reduceIte, reduceCtorEq, Nat.reduceAdd, Nat.reduceSub, Nat.reduceMul, Nat.reduceLeDiff, Nat.reduceLT, Nat.reduceEqDiff, Nat.reduceBEq]
      refine draw2_ok (κ := fun _ => false) hMix (j0 := 7) (pr := [[], [], [], [11], [], [], [], []]) rfl (by decide +kernel) ?_
      simp (maxSteps := 4000000) only [go_sem, reduceIte, reduceCtorEq, Nat.reduceAdd, Nat.reduceSub, Nat.reduceMul, Nat.reduceLeDiff, Nat.reduceLT, Nat.reduceEqDiff, Nat.reduceBEq]
      have a11 := a2.keep k8
      obtain ⟨lB, kB, hB⟩ := app_hop a11 (upd b p (some (pcells ρt ts at8 nv8 deep8 false lp2 tp8 code8 pos8))) r8 (by simp; omega)
      refine ⟨rfl, lB, 1, _, fun ev ls n' hev hn' => hB ev ls n' _ _ _ _ (hev (.tmp 144) (by simp [Op.operands, Call.operands])) (hev (.tmp 146) (by simp [Op.operands, Call.operands])) hn', ?_⟩
      try simp (maxSteps := 4000000) only [go_sem, reduceIte, reduceCtorEq, Nat.reduceAdd, Nat.reduceSub, Nat.reduceMul, Nat.reduceLeDiff, Nat.reduceLT, Nat.reduceEqDiff, Nat.reduceBEq]
      have p12 := (p8.acc a11.ne kB).roots (R' := (l2 ++ [r8]) ++ R) (by have h := (List.perm_middle (a := r8) (l₁ := l2) (l₂ := R)).symm; simpa using h)
      have k12 := (k2.trans k8).acc f2' kB
      refine callBy cb16 (c_put (ks := l2 ++ [r8]) p12 (.inr ⟨none, by simp⟩) (by omega) fun r20 nv20 ns20 L20 p20 k20 c20 => ?_)
      simp (maxSteps := 4000000) only [go_sem, reduceIte, reduceCtorEq, Nat.reduceAdd, Nat.reduceSub, Nat.reduceMul, Nat.reduceLeDiff, Nat.reduceLT, Nat.reduceEqDiff, Nat.reduceBEq]
      exact h1 _ _ _ _ _ _ _ _ _ _ _ p20 (k12.trans k20) (by omega) (by omega) (by omega) (fun e => ⟨q10 (q8 e).1, by omega⟩)
  ·
    refine callBy cb35 (c_want p2 fun v at10 code10 pos10 z1 z2 z3 z4 z5 => ?_)
    simp (maxSteps := 4000000) only [go_sem, reduceIte, reduceCtorEq, Nat.reduceAdd, Nat.reduceSub, Nat.reduceMul, Nat.reduceLeDiff, Nat.reduceLT, Nat.reduceEqDiff, Nat.reduceBEq, a2.ints.loc, a2.ints.one]
    have p10 := p2.step (code1 := code10) z4 z5 (fun e => (z3 e).1)
    have q10 : code10 = 0 → code0 = 0 := fun e => q2 (z3 e).1
    clear z1 z2 z3
    refine callBy cb39 (ih.block p10 (by omega) (by omega) fun r8 at8 nv8 ns8 deep8 df8 lp8 tp8 code8 pos8 L8 p8 k8 m8 t8 c8 q8 => ?_)
    simp (maxSteps := 4000000) only [go_sem, reduceIte, reduceCtorEq, Nat.reduceAdd, Nat.reduceSub, Nat.reduceMul, Nat.reduceLeDiff, Nat.reduceLT, Nat.reduceEqDiff, Nat.reduceBEq]
    refine draw2_ok (κ := fun _ => false) hMix (j0 := 7) (pr := [[], [], [], [11], [], [], [], []]) rfl (by decide +kernel) ?_
    simp (maxSteps := 4000000) only [go_sem, reduceIte, reduceCtorEq, Nat.reduceAdd, Nat.reduceSub, Nat.reduceMul, Nat.reduceLeDiff, Nat.reduceLT, Nat.reduceEqDiff, Nat.reduceBEq]
    have a11 := a2.keep k8
    obtain ⟨lB, kB, hB⟩ := app_hop a11 (upd b p (some (pcells ρt ts at8 nv8 deep8 false lp2 tp8 code8 pos8))) r8 (by simp; omega)
    refine ⟨rfl, lB, 1, _, fun ev ls n' hev hn' => hB ev ls n' _ _ _ _ (hev (.tmp 144) (by simp [Op.operands, Call.operands])) (hev (.tmp 146) (by simp [Op.operands, Call.operands])) hn', ?_⟩
    try simp (maxSteps := 4000000) only [go_sem, reduceIte, reduceCtorEq, Nat.reduceAdd, Nat.reduceSub, Nat.reduceMul, Nat.reduceLeDiff, Nat.reduceLT, Nat.reduceEqDiff, Nat.reduceBEq]
    have p12 := (p8.acc a11.ne kB).roots (R' := (l2 ++ [r8]) ++ R) (by have h := (List.perm_middle (a := r8) (l₁ := l2) (l₂ := R)).symm; simpa using h)
    have k12 := (k2.trans k8).acc f2' kB
    refine callBy cb16 (c_put (ks := l2 ++ [r8]) p12 (.inr ⟨none, by simp⟩) (by omega) fun r20 nv20 ns20 L20 p20 k20 c20 => ?_)
    simp (maxSteps := 4000000) only [go_sem, reduceIte, reduceCtorEq, Nat.reduceAdd, Nat.reduceSub, Nat.reduceMul, Nat.reduceLeDiff, Nat.reduceLT, Nat.reduceEqDiff, Nat.reduceBEq]
    exact h1 _ _ _ _ _ _ _ _ _ _ _ p20 (k12.trans k20) (by omega) (by omega) (by omega) (fun e => ⟨q10 (q8 e).1, by omega⟩)

end Go.Proofs.Ab5
end
