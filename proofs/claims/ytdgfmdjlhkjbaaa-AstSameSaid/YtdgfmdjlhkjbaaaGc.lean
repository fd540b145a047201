/-
  The reference parser: simple statements.
-/
import Derived.Test.YtdgfmdjlhkjbaaaGb
set_option linter.all false
section
set_option maxRecDepth 10000
set_option maxHeartbeats 4000000
set_option linter.unusedSimpArgs false
set_option linter.unusedVariables false
namespace Go.Proofs.Ab5
open Go.Ab Go.Proofs
variable {ts : List Tok}
theorem c_simple {p : Nat} {b : Nat → Option (List AVal)} {L : Nat → Bool} {ρt : Option Nat} {at0 : Int} {nv0 : AVal} {deep0 : Int} {df0 lp0 tp0 : Bool} {code0 pos0 : Int} {ns0 : List Nd} {R : List Int} {S : AVal → AHeap → Prop} (p0 : PI ts at0 nv0 ns0 code0 L R) (room : (ns0.length : Int) ≤ 2 * at0 + 2) (h1 : ∀ (r : Int) (at1 : Int) (nv1 : AVal) (ns1 : List Nd) (deep1 : Int) (df1 lp1 tp1 : Bool) (code1 pos1 : Int) (L1 : Nat → Bool), PI ts at1 nv1 ns1 code1 L1 (r :: R) → Keep L nv0 L1 nv1 → at0 ≤ at1 → at1 < ts.length → (ns1.length : Int) + 2 * at0 ≤ ns0.length + 2 * at1 → (code1 = 0 → code0 = 0 ∧ at0 < at1) → S (.int .i64 r) ⟨upd b p (some (pcells ρt ts at1 nv1 deep1 df1 lp1 tp1 code1 pos1)), L1⟩) :
    ACalls Try.prog 41 [.ptr p 0] ⟨upd b p (some (pcells ρt ts at0 nv0 deep0 df0 lp0 tp0 code0 pos0)), L⟩ S := by
  have g0 := p0.pos
  have g1 := p0.lt
  have g2 := p0.tok.most
  have ih := allE (ts := ts) (64 * ts.length + 100)
  refine acalls_of Try.func41 rfl (rd_ok hMix (κ := fun _ => false) δ0 _ rfl ?_)
  simp (maxSteps := 4000000) only [go_sem, reduceIte, reduceCtorEq, Nat.reduceAdd, Nat.reduceSub, Nat.reduceMul, Nat.reduceLeDiff, Nat.reduceLT, Nat.reduceEqDiff, Nat.reduceBEq, Try.ntmps41, Try.f41]
  refine callBy cb13 (c_now p0 fun tok x1 x2 x3 => ?_)
  simp (maxSteps := 4000000) only [go_sem, reduceIte, reduceCtorEq, Nat.reduceAdd, Nat.reduceSub, Nat.reduceMul, Nat.reduceLeDiff, Nat.reduceLT, Nat.reduceEqDiff, Nat.reduceBEq, p0.wrap1]
  have p1 : tok.kind = 4 → PI ts (at0 + 1) nv0 ns0 code0 L R := fun hk => p0.step (by omega) (x2 (by rw [hk]; decide)) id
  refine ⟨fun hk => ⟨fun ht => ?_, fun ht => ⟨fun ht => ?_, fun ht => ⟨fun ht => ?_, fun ht => ⟨fun ht => ?_, fun ht => ⟨fun ht => ?_, fun ht => ?_⟩⟩⟩⟩⟩, fun hk => ?_⟩
  · have p1 := p1 hk
    have g3 := p1.lt
    refine callBy cb16 (c_put (ks := []) p1 (.inl ⟨rfl, rfl⟩) (by omega) fun r7 nv7 ns7 L7 p7 k7 c7 => ?_)
    simp (maxSteps := 4000000) only [go_sem, reduceIte, reduceCtorEq, Nat.reduceAdd, Nat.reduceSub, Nat.reduceMul, Nat.reduceLeDiff, Nat.reduceLT, Nat.reduceEqDiff, Nat.reduceBEq]
    exact h1 _ _ _ _ _ _ _ _ _ _ _ p7 k7 (by omega) (by omega) (by omega) (fun e => ⟨e, by omega⟩)
  · have p1 := p1 hk
    have g3 := p1.lt
    refine ⟨fun hl => ?_, fun hl => ⟨fun _ => ?_, fun _ => ?_⟩⟩
    ·
      refine callBy cb37 (c_wrong p0 fun code7 pos7 hc => ?_)
      simp (maxSteps := 4000000) only [go_sem, reduceIte, reduceCtorEq, Nat.reduceAdd, Nat.reduceSub, Nat.reduceMul, Nat.reduceLeDiff, Nat.reduceLT, Nat.reduceEqDiff, Nat.reduceBEq]
      exact h1 _ _ _ _ _ _ _ _ _ _ _ (p0.fail (Int.le_refl _) g1 hc _) (Keep.refl _ _) (by omega) (by omega) (by omega) (fun e => absurd e hc)
    ·
      refine callBy cb16 (c_put (ks := []) p1 (.inl ⟨rfl, rfl⟩) (by omega) fun r7 nv7 ns7 L7 p7 k7 c7 => ?_)
      simp (maxSteps := 4000000) only [go_sem, reduceIte, reduceCtorEq, Nat.reduceAdd, Nat.reduceSub, Nat.reduceMul, Nat.reduceLeDiff, Nat.reduceLT, Nat.reduceEqDiff, Nat.reduceBEq]
      exact h1 _ _ _ _ _ _ _ _ _ _ _ p7 k7 (by omega) (by omega) (by omega) (fun e => ⟨e, by omega⟩)
    ·
      refine callBy cb16 (c_put (ks := []) p1 (.inl ⟨rfl, rfl⟩) (by omega) fun r7 nv7 ns7 L7 p7 k7 c7 => ?_)
      simp (maxSteps := 4000000) only [go_sem, reduceIte, reduceCtorEq, Nat.reduceAdd, Nat.reduceSub, Nat.reduceMul, Nat.reduceLeDiff, Nat.reduceLT, Nat.reduceEqDiff, Nat.reduceBEq]
      exact h1 _ _ _ _ _ _ _ _ _ _ _ p7 k7 (by omega) (by omega) (by omega) (fun e => ⟨e, by omega⟩)
  · have p1 := p1 hk
    have g3 := p1.lt
    refine ⟨fun hl => ?_, fun hl => ⟨fun _ => ?_, fun _ => ?_⟩⟩
    ·
      refine callBy cb37 (c_wrong p0 fun code7 pos7 hc => ?_)
      simp (maxSteps := 4000000) only [go_sem, reduceIte, reduceCtorEq, Nat.reduceAdd, Nat.reduceSub, Nat.reduceMul, Nat.reduceLeDiff, Nat.reduceLT, Nat.reduceEqDiff, Nat.reduceBEq]
      exact h1 _ _ _ _ _ _ _ _ _ _ _ (p0.fail (Int.le_refl _) g1 hc _) (Keep.refl _ _) (by omega) (by omega) (by omega) (fun e => absurd e hc)
    ·
      refine callBy cb16 (c_put (ks := []) p1 (.inl ⟨rfl, rfl⟩) (by omega) fun r7 nv7 ns7 L7 p7 k7 c7 => ?_)
      simp (maxSteps := 4000000) only [go_sem, reduceIte, reduceCtorEq, Nat.reduceAdd, Nat.reduceSub, Nat.reduceMul, Nat.reduceLeDiff, Nat.reduceLT, Nat.reduceEqDiff, Nat.reduceBEq]
      exact h1 _ _ _ _ _ _ _ _ _ _ _ p7 k7 (by omega) (by omega) (by omega) (fun e => ⟨e, by omega⟩)
    ·
      refine callBy cb16 (c_put (ks := []) p1 (.inl ⟨rfl, rfl⟩) (by omega) fun r7 nv7 ns7 L7 p7 k7 c7 => ?_)
      simp (maxSteps := 4000000) only [go_sem, reduceIte, reduceCtorEq, Nat.reduceAdd, Nat.reduceSub, Nat.reduceMul, Nat.reduceLeDiff, Nat.reduceLT, Nat.reduceEqDiff, Nat.reduceBEq]
      exact h1 _ _ _ _ _ _ _ _ _ _ _ p7 k7 (by omega) (by omega) (by omega) (fun e => ⟨e, by omega⟩)
  · have p1 := p1 hk
    have g3 := p1.lt
    refine ⟨fun hd => ?_, fun hd => ?_⟩
    ·
      refine callBy cb37 (c_wrong p0 fun code7 pos7 hc => ?_)
      simp (maxSteps := 4000000) only [go_sem, reduceIte, reduceCtorEq, Nat.reduceAdd, Nat.reduceSub, Nat.reduceMul, Nat.reduceLeDiff, Nat.reduceLT, Nat.reduceEqDiff, Nat.reduceBEq]
      exact h1 _ _ _ _ _ _ _ _ _ _ _ (p0.fail (Int.le_refl _) g1 hc _) (Keep.refl _ _) (by omega) (by omega) (by omega) (fun e => absurd e hc)
    · refine callBy cb36 (c_begins p1 fun v L3 gr3 => ?_)
      have p3 := p1.grow gr3
      cases v <;> simp (maxSteps := 4000000) only [go_sem, reduceIte, reduceCtorEq, Nat.reduceAdd, Nat.reduceSub, Nat.reduceMul, Nat.reduceLeDiff, Nat.reduceLT, Nat.reduceEqDiff, Nat.reduceBEq]
      · refine callBy cb16 (c_put (ks := []) p3 (.inl ⟨rfl, rfl⟩) (by omega) fun r7 nv7 ns7 L7 p7 k7 c7 => ?_)
        simp (maxSteps := 4000000) only [go_sem, reduceIte, reduceCtorEq, Nat.reduceAdd, Nat.reduceSub, Nat.reduceMul, Nat.reduceLeDiff, Nat.reduceLT, Nat.reduceEqDiff, Nat.reduceBEq]
        exact h1 _ _ _ _ _ _ _ _ _ _ _ p7 (gr3.keep.trans k7) (by omega) (by omega) (by omega) (fun e => ⟨e, by omega⟩)
      · refine callBy cb38 (c_tuple p3 (by omega) fun r4 at4 nv4 ns4 deep4 df4 lp4 tp4 code4 pos4 L4 p4 k4 m4 t4 c4 q4 => ?_)
        simp (maxSteps := 4000000) only [go_sem, reduceIte, reduceCtorEq, Nat.reduceAdd, Nat.reduceSub, Nat.reduceMul, Nat.reduceLeDiff, Nat.reduceLT, Nat.reduceEqDiff, Nat.reduceBEq]
        intro n hn hL
        refine callBy cb16 (c_put (ks := [r4]) (p4.grow (Grow.upd n)) (.inr ⟨some n, rfl⟩) (by omega) fun r9 nv9 ns9 L9 p9 k9 c9 => ?_)
        simp (maxSteps := 4000000) only [go_sem, reduceIte, reduceCtorEq, Nat.reduceAdd, Nat.reduceSub, Nat.reduceMul, Nat.reduceLeDiff, Nat.reduceLT, Nat.reduceEqDiff, Nat.reduceBEq]
        exact h1 _ _ _ _ _ _ _ _ _ _ _ p9 (gr3.keep.trans (k4.trans ((Grow.upd n).keep.trans k9))) (by omega) (by omega) (by omega) (fun e => ⟨(q4 e).1, by omega⟩)
  · refine ⟨fun hd => ?_, fun hd => ?_⟩
    ·
      refine callBy cb37 (c_wrong p0 fun code7 pos7 hc => ?_)
      simp (maxSteps := 4000000) only [go_sem, reduceIte, reduceCtorEq, Nat.reduceAdd, Nat.reduceSub, Nat.reduceMul, Nat.reduceLeDiff, Nat.reduceLT, Nat.reduceEqDiff, Nat.reduceBEq]
      exact h1 _ _ _ _ _ _ _ _ _ _ _ (p0.fail (Int.le_refl _) g1 hc _) (Keep.refl _ _) (by omega) (by omega) (by omega) (fun e => absurd e hc)
    · refine callBy cb53 (c_load p0 room (x2 (by rw [hk]; decide)) fun r4 at4 nv4 ns4 deep4 df4 lp4 tp4 code4 pos4 L4 p4 k4 m4 t4 c4 q4 => ?_)
      simp (maxSteps := 4000000) only [go_sem, reduceIte, reduceCtorEq, Nat.reduceAdd, Nat.reduceSub, Nat.reduceMul, Nat.reduceLeDiff, Nat.reduceLT, Nat.reduceEqDiff, Nat.reduceBEq]
      exact h1 _ _ _ _ _ _ _ _ _ _ _ p4 k4 m4 t4 c4 q4
  ·
    refine callBy cb36 (c_begins p0 fun v L3 gr3 => ?_)
    have p3 := p0.grow gr3
    cases v <;> simp (maxSteps := 4000000) only [go_sem, reduceIte, reduceCtorEq, Nat.reduceAdd, Nat.reduceSub, Nat.reduceMul, Nat.reduceLeDiff, Nat.reduceLT, Nat.reduceEqDiff, Nat.reduceBEq]
    ·
      refine callBy cb37 (c_wrong p3 fun code7 pos7 hc => ?_)
      simp (maxSteps := 4000000) only [go_sem, reduceIte, reduceCtorEq, Nat.reduceAdd, Nat.reduceSub, Nat.reduceMul, Nat.reduceLeDiff, Nat.reduceLT, Nat.reduceEqDiff, Nat.reduceBEq]
      exact h1 _ _ _ _ _ _ _ _ _ _ _ (p3.fail (Int.le_refl _) g1 hc _) gr3.keep (by omega) (by omega) (by omega) (fun e => absurd e hc)
    · refine callBy cb38 (c_tuple p3 (by omega) fun r4 at4 nv4 ns4 deep4 df4 lp4 tp4 code4 pos4 L4 p4 k4 m4 t4 c4 q4 => ?_)
      simp (maxSteps := 4000000) only [go_sem, reduceIte, reduceCtorEq, Nat.reduceAdd, Nat.reduceSub, Nat.reduceMul, Nat.reduceLeDiff, Nat.reduceLT, Nat.reduceEqDiff, Nat.reduceBEq]
      have k5 := gr3.keep.trans k4
      refine callBy cb12 (c_bad (fun e4 => ?_) (fun e4 => ?_)) <;> simp (maxSteps := 4000000) only [go_sem, reduceIte, reduceCtorEq, Nat.reduceAdd, Nat.reduceSub, Nat.reduceMul, Nat.reduceLeDiff, Nat.reduceLT, Nat.reduceEqDiff, Nat.reduceBEq]
      · have w4 := q4 e4
        have rg := (p4.fr e4).range (r := r4) (by simp)
        obtain ⟨nd, hnd⟩ : ∃ nd, ns4[r4.toNat]? = some nd := ⟨_, List.getElem?_eq_getElem (by omega)⟩
        have hnat := p4.nodes.at rg.1 hnd
        refine callBy cb13 (c_now p4 fun tok6 u1 u2 u3 => ?_)
        simp (maxSteps := 4000000) only [go_sem, reduceIte, reduceCtorEq, Nat.reduceAdd, Nat.reduceSub, Nat.reduceMul, Nat.reduceLeDiff, Nat.reduceLT, Nat.reduceEqDiff, Nat.reduceBEq]
        refine callBy cb32 (c_is p4 fun v hv => ?_)
        cases v <;> simp (maxSteps := 4000000) only [go_sem, reduceIte, reduceCtorEq, Nat.reduceAdd, Nat.reduceSub, Nat.reduceMul, Nat.reduceLeDiff, Nat.reduceLT, Nat.reduceEqDiff, Nat.reduceBEq]
        · refine callBy cb32 (c_is p4 fun v hv => ?_)
          cases v <;> simp (maxSteps := 4000000) only [go_sem, reduceIte, reduceCtorEq, Nat.reduceAdd, Nat.reduceSub, Nat.reduceMul, Nat.reduceLeDiff, Nat.reduceLT, Nat.reduceEqDiff, Nat.reduceBEq, p4.nodes.one, hnat, Nd.cells, p4.wrap1, rg.1]
          · intro n hn hL
            refine callBy cb16 (c_put (ks := [r4]) (p4.grow (Grow.upd n)) (.inr ⟨some n, rfl⟩) (by omega) fun r9 nv9 ns9 L9 p9 k9 c9 => ?_)
            simp (maxSteps := 4000000) only [go_sem, reduceIte, reduceCtorEq, Nat.reduceAdd, Nat.reduceSub, Nat.reduceMul, Nat.reduceLeDiff, Nat.reduceLT, Nat.reduceEqDiff, Nat.reduceBEq]
            exact h1 _ _ _ _ _ _ _ _ _ _ _ p9 (k5.trans ((Grow.upd n).keep.trans k9)) (by omega) (by omega) (by omega) (fun e => ⟨w4.1, by omega⟩)
          · have hv := hv rfl
            refine ⟨fun ho => ⟨fun ho2 => ?_, fun ho2 => ?_⟩, fun ho => ?_⟩
            ·
              refine callBy cb37 (c_wrong p4 fun code7 pos7 hc => ?_)
              simp (maxSteps := 4000000) only [go_sem, reduceIte, reduceCtorEq, Nat.reduceAdd, Nat.reduceSub, Nat.reduceMul, Nat.reduceLeDiff, Nat.reduceLT, Nat.reduceEqDiff, Nat.reduceBEq]
              exact h1 _ _ _ _ _ _ _ _ _ _ _ (p4.fail (Int.le_refl _) (by omega) hc _) k5 (by omega) (by omega) (by omega) (fun e => absurd e hc)
            ·
              have p7 := p4.step (at1 := at4 + 1) (code1 := code4) (by omega) hv id
              refine callBy cb38 (c_tuple p7 (by omega) fun r8 at8 nv8 ns8 deep8 df8 lp8 tp8 code8 pos8 L8 p8 k8 m8 t8 c8 q8 => ?_)
              simp (maxSteps := 4000000) only [go_sem, reduceIte, reduceCtorEq, Nat.reduceAdd, Nat.reduceSub, Nat.reduceMul, Nat.reduceLeDiff, Nat.reduceLT, Nat.reduceEqDiff, Nat.reduceBEq]
              intro n hn hL
              refine callBy cb16 (c_put (ks := [r4, r8]) ((p8.roots (List.Perm.swap _ _ _)).grow (Grow.upd n)) (.inr ⟨some n, rfl⟩) (by omega) fun r9 nv9 ns9 L9 p9 k9 c9 => ?_)
              simp (maxSteps := 4000000) only [go_sem, reduceIte, reduceCtorEq, Nat.reduceAdd, Nat.reduceSub, Nat.reduceMul, Nat.reduceLeDiff, Nat.reduceLT, Nat.reduceEqDiff, Nat.reduceBEq]
              exact h1 _ _ _ _ _ _ _ _ _ _ _ p9 (k5.trans (k8.trans ((Grow.upd n).keep.trans k9))) (by omega) (by omega) (by omega) (fun e => ⟨w4.1, by omega⟩)
            ·
              have p7 := p4.step (at1 := at4 + 1) (code1 := code4) (by omega) hv id
              refine callBy cb38 (c_tuple p7 (by omega) fun r8 at8 nv8 ns8 deep8 df8 lp8 tp8 code8 pos8 L8 p8 k8 m8 t8 c8 q8 => ?_)
              simp (maxSteps := 4000000) only [go_sem, reduceIte, reduceCtorEq, Nat.reduceAdd, Nat.reduceSub, Nat.reduceMul, Nat.reduceLeDiff, Nat.reduceLT, Nat.reduceEqDiff, Nat.reduceBEq]
              intro n hn hL
              refine callBy cb16 (c_put (ks := [r4, r8]) ((p8.roots (List.Perm.swap _ _ _)).grow (Grow.upd n)) (.inr ⟨some n, rfl⟩) (by omega) fun r9 nv9 ns9 L9 p9 k9 c9 => ?_)
              simp (maxSteps := 4000000) only [go_sem, reduceIte, reduceCtorEq, Nat.reduceAdd, Nat.reduceSub, Nat.reduceMul, Nat.reduceLeDiff, Nat.reduceLT, Nat.reduceEqDiff, Nat.reduceBEq]
              exact h1 _ _ _ _ _ _ _ _ _ _ _ p9 (k5.trans (k8.trans ((Grow.upd n).keep.trans k9))) (by omega) (by omega) (by omega) (fun e => ⟨w4.1, by omega⟩)
        · have hv := hv rfl
          refine callBy cb54 (c_fits p4 e4 (by omega) rg.2 fun v => ?_)
          cases v <;> simp (maxSteps := 4000000) only [go_sem, reduceIte, reduceCtorEq, Nat.reduceAdd, Nat.reduceSub, Nat.reduceMul, Nat.reduceLeDiff, Nat.reduceLT, Nat.reduceEqDiff, Nat.reduceBEq, p4.wrap1]
          ·
            refine callBy cb37 (c_wrong p4 fun code7 pos7 hc => ?_)
            simp (maxSteps := 4000000) only [go_sem, reduceIte, reduceCtorEq, Nat.reduceAdd, Nat.reduceSub, Nat.reduceMul, Nat.reduceLeDiff, Nat.reduceLT, Nat.reduceEqDiff, Nat.reduceBEq]
            exact h1 _ _ _ _ _ _ _ _ _ _ _ (p4.fail (Int.le_refl _) (by omega) hc _) k5 (by omega) (by omega) (by omega) (fun e => absurd e hc)
          ·
            have p7 := p4.step (at1 := at4 + 1) (code1 := code4) (by omega) hv id
            refine callBy cb38 (c_tuple p7 (by omega) fun r8 at8 nv8 ns8 deep8 df8 lp8 tp8 code8 pos8 L8 p8 k8 m8 t8 c8 q8 => ?_)
            simp (maxSteps := 4000000) only [go_sem, reduceIte, reduceCtorEq, Nat.reduceAdd, Nat.reduceSub, Nat.reduceMul, Nat.reduceLeDiff, Nat.reduceLT, Nat.reduceEqDiff, Nat.reduceBEq]
            intro n hn hL
            refine callBy cb16 (c_put (ks := [r4, r8]) ((p8.roots (List.Perm.swap _ _ _)).grow (Grow.upd n)) (.inr ⟨some n, rfl⟩) (by omega) fun r9 nv9 ns9 L9 p9 k9 c9 => ?_)
            simp (maxSteps := 4000000) only [go_sem, reduceIte, reduceCtorEq, Nat.reduceAdd, Nat.reduceSub, Nat.reduceMul, Nat.reduceLeDiff, Nat.reduceLT, Nat.reduceEqDiff, Nat.reduceBEq]
            exact h1 _ _ _ _ _ _ _ _ _ _ _ p9 (k5.trans (k8.trans ((Grow.upd n).keep.trans k9))) (by omega) (by omega) (by omega) (fun e => ⟨w4.1, by omega⟩)
      · exact h1 _ _ _ _ _ _ _ _ _ _ _ (p4.bad e4 _) k5 (by omega) (by omega) (by omega) (fun e => absurd e e4)
  ·
    refine callBy cb36 (c_begins p0 fun v L3 gr3 => ?_)
    have p3 := p0.grow gr3
    cases v <;> simp (maxSteps := 4000000) only [go_sem, reduceIte, reduceCtorEq, Nat.reduceAdd, Nat.reduceSub, Nat.reduceMul, Nat.reduceLeDiff, Nat.reduceLT, Nat.reduceEqDiff, Nat.reduceBEq]
    ·
      refine callBy cb37 (c_wrong p3 fun code7 pos7 hc => ?_)
      simp (maxSteps := 4000000) only [go_sem, reduceIte, reduceCtorEq, Nat.reduceAdd, Nat.reduceSub, Nat.reduceMul, Nat.reduceLeDiff, Nat.reduceLT, Nat.reduceEqDiff, Nat.reduceBEq]
      exact h1 _ _ _ _ _ _ _ _ _ _ _ (p3.fail (Int.le_refl _) g1 hc _) gr3.keep (by omega) (by omega) (by omega) (fun e => absurd e hc)
    · refine callBy cb38 (c_tuple p3 (by omega) fun r4 at4 nv4 ns4 deep4 df4 lp4 tp4 code4 pos4 L4 p4 k4 m4 t4 c4 q4 => ?_)
      simp (maxSteps := 4000000) only [go_sem, reduceIte, reduceCtorEq, Nat.reduceAdd, Nat.reduceSub, Nat.reduceMul, Nat.reduceLeDiff, Nat.reduceLT, Nat.reduceEqDiff, Nat.reduceBEq]
      have k5 := gr3.keep.trans k4
      refine callBy cb12 (c_bad (fun e4 => ?_) (fun e4 => ?_)) <;> simp (maxSteps := 4000000) only [go_sem, reduceIte, reduceCtorEq, Nat.reduceAdd, Nat.reduceSub, Nat.reduceMul, Nat.reduceLeDiff, Nat.reduceLT, Nat.reduceEqDiff, Nat.reduceBEq]
      · have w4 := q4 e4
        have rg := (p4.fr e4).range (r := r4) (by simp)
        obtain ⟨nd, hnd⟩ : ∃ nd, ns4[r4.toNat]? = some nd := ⟨_, List.getElem?_eq_getElem (by omega)⟩
        have hnat := p4.nodes.at rg.1 hnd
        refine callBy cb13 (c_now p4 fun tok6 u1 u2 u3 => ?_)
        simp (maxSteps := 4000000) only [go_sem, reduceIte, reduceCtorEq, Nat.reduceAdd, Nat.reduceSub, Nat.reduceMul, Nat.reduceLeDiff, Nat.reduceLT, Nat.reduceEqDiff, Nat.reduceBEq]
        refine callBy cb32 (c_is p4 fun v hv => ?_)
        cases v <;> simp (maxSteps := 4000000) only [go_sem, reduceIte, reduceCtorEq, Nat.reduceAdd, Nat.reduceSub, Nat.reduceMul, Nat.reduceLeDiff, Nat.reduceLT, Nat.reduceEqDiff, Nat.reduceBEq]
        · refine callBy cb32 (c_is p4 fun v hv => ?_)
          cases v <;> simp (maxSteps := 4000000) only [go_sem, reduceIte, reduceCtorEq, Nat.reduceAdd, Nat.reduceSub, Nat.reduceMul, Nat.reduceLeDiff, Nat.reduceLT, Nat.reduceEqDiff, Nat.reduceBEq, p4.nodes.one, hnat, Nd.cells, p4.wrap1, rg.1]
          · intro n hn hL
            refine callBy cb16 (c_put (ks := [r4]) (p4.grow (Grow.upd n)) (.inr ⟨some n, rfl⟩) (by omega) fun r9 nv9 ns9 L9 p9 k9 c9 => ?_)
            simp (maxSteps := 4000000) only [go_sem, reduceIte, reduceCtorEq, Nat.reduceAdd, Nat.reduceSub, Nat.reduceMul, Nat.reduceLeDiff, Nat.reduceLT, Nat.reduceEqDiff, Nat.reduceBEq]
            exact h1 _ _ _ _ _ _ _ _ _ _ _ p9 (k5.trans ((Grow.upd n).keep.trans k9)) (by omega) (by omega) (by omega) (fun e => ⟨w4.1, by omega⟩)
          · have hv := hv rfl
            refine ⟨fun ho => ⟨fun ho2 => ?_, fun ho2 => ?_⟩, fun ho => ?_⟩
            ·
              refine callBy cb37 (c_wrong p4 fun code7 pos7 hc => ?_)
              simp (maxSteps := 4000000) only [go_sem, reduceIte, reduceCtorEq, Nat.reduceAdd, Nat.reduceSub, Nat.reduceMul, Nat.reduceLeDiff, Nat.reduceLT, Nat.reduceEqDiff, Nat.reduceBEq]
              exact h1 _ _ _ _ _ _ _ _ _ _ _ (p4.fail (Int.le_refl _) (by omega) hc _) k5 (by omega) (by omega) (by omega) (fun e => absurd e hc)
            ·
              have p7 := p4.step (at1 := at4 + 1) (code1 := code4) (by omega) hv id
              refine callBy cb38 (c_tuple p7 (by omega) fun r8 at8 nv8 ns8 deep8 df8 lp8 tp8 code8 pos8 L8 p8 k8 m8 t8 c8 q8 => ?_)
              simp (maxSteps := 4000000) only [go_sem, reduceIte, reduceCtorEq, Nat.reduceAdd, Nat.reduceSub, Nat.reduceMul, Nat.reduceLeDiff, Nat.reduceLT, Nat.reduceEqDiff, Nat.reduceBEq]
              intro n hn hL
              refine callBy cb16 (c_put (ks := [r4, r8]) ((p8.roots (List.Perm.swap _ _ _)).grow (Grow.upd n)) (.inr ⟨some n, rfl⟩) (by omega) fun r9 nv9 ns9 L9 p9 k9 c9 => ?_)
              simp (maxSteps := 4000000) only [go_sem, reduceIte, reduceCtorEq, Nat.reduceAdd, Nat.reduceSub, Nat.reduceMul, Nat.reduceLeDiff, Nat.reduceLT, Nat.reduceEqDiff, Nat.reduceBEq]
              exact h1 _ _ _ _ _ _ _ _ _ _ _ p9 (k5.trans (k8.trans ((Grow.upd n).keep.trans k9))) (by omega) (by omega) (by omega) (fun e => ⟨w4.1, by omega⟩)
            ·
              have p7 := p4.step (at1 := at4 + 1) (code1 := code4) (by omega) hv id
              refine callBy cb38 (c_tuple p7 (by omega) fun r8 at8 nv8 ns8 deep8 df8 lp8 tp8 code8 pos8 L8 p8 k8 m8 t8 c8 q8 => ?_)
              simp (maxSteps := 4000000) only [go_sem, reduceIte, reduceCtorEq, Nat.reduceAdd, Nat.reduceSub, Nat.reduceMul, Nat.reduceLeDiff, Nat.reduceLT, Nat.reduceEqDiff, Nat.reduceBEq]
              intro n hn hL
              refine callBy cb16 (c_put (ks := [r4, r8]) ((p8.roots (List.Perm.swap _ _ _)).grow (Grow.upd n)) (.inr ⟨some n, rfl⟩) (by omega) fun r9 nv9 ns9 L9 p9 k9 c9 => ?_)
              simp (maxSteps := 4000000) only [go_sem, reduceIte, reduceCtorEq, Nat.reduceAdd, Nat.reduceSub, Nat.reduceMul, Nat.reduceLeDiff, Nat.reduceLT, Nat.reduceEqDiff, Nat.reduceBEq]
              exact h1 _ _ _ _ _ _ _ _ _ _ _ p9 (k5.trans (k8.trans ((Grow.upd n).keep.trans k9))) (by omega) (by omega) (by omega) (fun e => ⟨w4.1, by omega⟩)
        · have hv := hv rfl
          refine callBy cb54 (c_fits p4 e4 (by omega) rg.2 fun v => ?_)
          cases v <;> simp (maxSteps := 4000000) only [go_sem, reduceIte, reduceCtorEq, Nat.reduceAdd, Nat.reduceSub, Nat.reduceMul, Nat.reduceLeDiff, Nat.reduceLT, Nat.reduceEqDiff, Nat.reduceBEq, p4.wrap1]
          ·
            refine callBy cb37 (c_wrong p4 fun code7 pos7 hc => ?_)
            simp (maxSteps := 4000000) only [go_sem, reduceIte, reduceCtorEq, Nat.reduceAdd, Nat.reduceSub, Nat.reduceMul, Nat.reduceLeDiff, Nat.reduceLT, Nat.reduceEqDiff, Nat.reduceBEq]
            exact h1 _ _ _ _ _ _ _ _ _ _ _ (p4.fail (Int.le_refl _) (by omega) hc _) k5 (by omega) (by omega) (by omega) (fun e => absurd e hc)
          ·
            have p7 := p4.step (at1 := at4 + 1) (code1 := code4) (by omega) hv id
            refine callBy cb38 (c_tuple p7 (by omega) fun r8 at8 nv8 ns8 deep8 df8 lp8 tp8 code8 pos8 L8 p8 k8 m8 t8 c8 q8 => ?_)
            simp (maxSteps := 4000000) only [go_sem, reduceIte, reduceCtorEq, Nat.reduceAdd, Nat.reduceSub, Nat.reduceMul, Nat.reduceLeDiff, Nat.reduceLT, Nat.reduceEqDiff, Nat.reduceBEq]
            intro n hn hL
            refine callBy cb16 (c_put (ks := [r4, r8]) ((p8.roots (List.Perm.swap _ _ _)).grow (Grow.upd n)) (.inr ⟨some n, rfl⟩) (by omega) fun r9 nv9 ns9 L9 p9 k9 c9 => ?_)
            simp (maxSteps := 4000000) only [go_sem, reduceIte, reduceCtorEq, Nat.reduceAdd, Nat.reduceSub, Nat.reduceMul, Nat.reduceLeDiff, Nat.reduceLT, Nat.reduceEqDiff, Nat.reduceBEq]
            exact h1 _ _ _ _ _ _ _ _ _ _ _ p9 (k5.trans (k8.trans ((Grow.upd n).keep.trans k9))) (by omega) (by omega) (by omega) (fun e => ⟨w4.1, by omega⟩)
      · exact h1 _ _ _ _ _ _ _ _ _ _ _ (p4.bad e4 _) k5 (by omega) (by omega) (by omega) (fun e => absurd e e4)

end Go.Proofs.Ab5
end
