/-
  The reference parser's contracts for statements.
-/
import Derived.Test.YtdgfmdjlhkjbaaaGa
set_option linter.all false
section
set_option linter.unusedVariables false
namespace Go.Proofs.Ab5
open Go.Ab Go.Proofs

/-- A function that reads a statement. -/
def CS (ts : List Tok) (N rank : Nat) (f : FuncId) : Prop := ∀ {p : Nat} {b : Nat → Option (List AVal)} {L : Nat → Bool} {ρt : Option Nat} {at' : Int} {nv : AVal} {deep : Int} {df lp tp : Bool} {code pos : Int} {ns : List Nd} {R : List Int} {S : AVal → AHeap → Prop},
  PI ts at' nv ns code L R → (ns.length : Int) ≤ 2 * at' + 2 → 64 * ((ts.length : Int) - at') + rank ≤ N → (∀ (r : Int) (at1 : Int) (nv1 : AVal) (ns1 : List Nd) (deep1 : Int) (df1 lp1 tp1 : Bool) (code1 pos1 : Int) (L1 : Nat → Bool), PI ts at1 nv1 ns1 code1 L1 (r :: R) → Keep L nv L1 nv1 → at' ≤ at1 → at1 < ts.length → (ns1.length : Int) + 2 * at' ≤ ns.length + 2 * at1 → (code1 = 0 → code = 0 ∧ at' < at1) → S (.int .i64 r) ⟨upd b p (some (pcells ρt ts at1 nv1 deep1 df1 lp1 tp1 code1 pos1)), L1⟩) →
  ACalls Try.prog f [.ptr p 0] ⟨upd b p (some (pcells ρt ts at' nv deep df lp tp code pos)), L⟩ S

/-- A function that reads a statement behind its first word. -/
def CSB (ts : List Tok) (N rank : Nat) (f : FuncId) : Prop := ∀ {p : Nat} {b : Nat → Option (List AVal)} {L : Nat → Bool} {ρt : Option Nat} {at' : Int} {nv : AVal} {deep : Int} {df lp tp : Bool} {code pos : Int} {ns : List Nd} {R : List Int} {S : AVal → AHeap → Prop} {po : Int},
  PI ts at' nv ns code L R → (ns.length : Int) ≤ 2 * at' + 2 → 64 * ((ts.length : Int) - at') + rank ≤ N → at' + 1 < ts.length → (∀ (r : Int) (at1 : Int) (nv1 : AVal) (ns1 : List Nd) (deep1 : Int) (df1 lp1 tp1 : Bool) (code1 pos1 : Int) (L1 : Nat → Bool), PI ts at1 nv1 ns1 code1 L1 (r :: R) → Keep L nv L1 nv1 → at' ≤ at1 → at1 < ts.length → (ns1.length : Int) + 2 * at' ≤ ns.length + 2 * at1 → (code1 = 0 → code = 0 ∧ at' < at1) → S (.int .i64 r) ⟨upd b p (some (pcells ρt ts at1 nv1 deep1 df1 lp1 tp1 code1 pos1)), L1⟩) →
  ACalls Try.prog f [.ptr p 0, .int .i64 po] ⟨upd b p (some (pcells ρt ts at' nv deep df lp tp code pos)), L⟩ S

structure AllS (ts : List Tok) (N : Nat) : Prop where
  statement : CS ts N 30 14
  cond : CSB ts N 28 33
  function : CSB ts N 28 40
  block : CS ts N 27 39

end Go.Proofs.Ab5
end
/- The reference parser: conditions. -/
section
set_option maxRecDepth 10000
set_option maxHeartbeats 4000000
set_option linter.unusedSimpArgs false
set_option linter.unusedVariables false
namespace Go.Proofs.Ab5
open Go.Ab Go.Proofs
variable {ts : List Tok} {N : Nat}
theorem s_cond (ih : AllS ts N) : CSB ts (N + 1) 28 33 := by
  intro p b L ρt at0 nv0 deep0 df0 lp0 tp0 code0 pos0 ns0 R S po p0 room hN hat h1
  have g0 := p0.pos
  have g1 := p0.lt
  have g2 := p0.tok.most
  have ihE := allE (ts := ts) (64 * ts.length + 100)
  refine acalls_of Try.func33 rfl (rd_ok hMix (κ := fun _ => false) δ0 _ rfl ?_)
  simp (maxSteps := 4000000) only [go_sem, reduceIte, reduceCtorEq, Nat.reduceAdd, Nat.reduceSub, Nat.reduceMul, Nat.reduceLeDiff, Nat.reduceLT, Nat.reduceEqDiff, Nat.reduceBEq, Try.ntmps33, Try.f33, p0.wrap1]
  have p1 := p0.step (at1 := at0 + 1) (code1 := code0) (by omega) hat id
  refine callBy cb47 (ihE.test p1 (by omega) (by omega) fun r4 at4 nv4 ns4 deep4 df4 lp4 tp4 code4 pos4 L4 p4 k4 m4 t4 c4 q4 => ?_)
  simp (maxSteps := 4000000) only [go_sem, reduceIte, reduceCtorEq, Nat.reduceAdd, Nat.reduceSub, Nat.reduceMul, Nat.reduceLeDiff, Nat.reduceLT, Nat.reduceEqDiff, Nat.reduceBEq]
  refine callBy cb39 (ih.block p4 (by omega) (by omega) fun r5 at5 nv5 ns5 deep5 df5 lp5 tp5 code5 pos5 L5 p5 k5 m5 t5 c5 q5 => ?_)
  simp (maxSteps := 4000000) only [go_sem, reduceIte, reduceCtorEq, Nat.reduceAdd, Nat.reduceSub, Nat.reduceMul, Nat.reduceLeDiff, Nat.reduceLT, Nat.reduceEqDiff, Nat.reduceBEq]
  have k6 := k4.trans k5
  refine callBy cb12 (c_bad (fun e5 => ?_) (fun e5 => ?_)) <;> simp (maxSteps := 4000000) only [go_sem, reduceIte, reduceCtorEq, Nat.reduceAdd, Nat.reduceSub, Nat.reduceMul, Nat.reduceLeDiff, Nat.reduceLT, Nat.reduceEqDiff, Nat.reduceBEq]
  · have w5 : code0 = 0 := (q4 (q5 e5).1).1
    refine callBy cb32 (c_is p5 fun v hv => ?_)
    cases v <;> simp (maxSteps := 4000000) only [go_sem, reduceIte, reduceCtorEq, Nat.reduceAdd, Nat.reduceSub, Nat.reduceMul, Nat.reduceLeDiff, Nat.reduceLT, Nat.reduceEqDiff, Nat.reduceBEq]
    · refine callBy cb32 (c_is p5 fun v hv => ?_)
      cases v <;> simp (maxSteps := 4000000) only [go_sem, reduceIte, reduceCtorEq, Nat.reduceAdd, Nat.reduceSub, Nat.reduceMul, Nat.reduceLeDiff, Nat.reduceLT, Nat.reduceEqDiff, Nat.reduceBEq, p5.wrap1]
      · intro n hn hL
        refine callBy cb16 (c_put (ks := [r4, r5]) ((p5.roots (List.Perm.swap _ _ _)).grow (Grow.upd n)) (.inr ⟨some n, rfl⟩) (by omega) fun r20 nv20 ns20 L20 p20 k20 c20 => ?_)
        simp (maxSteps := 4000000) only [go_sem, reduceIte, reduceCtorEq, Nat.reduceAdd, Nat.reduceSub, Nat.reduceMul, Nat.reduceLeDiff, Nat.reduceLT, Nat.reduceEqDiff, Nat.reduceBEq]
        exact h1 _ _ _ _ _ _ _ _ _ _ _ p20 (k6.trans ((Grow.upd n).keep.trans k20)) (by omega) (by omega) (by omega) (fun e => ⟨w5, by omega⟩)
      · have hv := hv rfl
        have p7 := p5.step (at1 := at5 + 1) (code1 := code5) (by omega) hv id
        refine callBy cb39 (ih.block p7 (by omega) (by omega) fun r8 at8 nv8 ns8 deep8 df8 lp8 tp8 code8 pos8 L8 p8 k8 m8 t8 c8 q8 => ?_)
        simp (maxSteps := 4000000) only [go_sem, reduceIte, reduceCtorEq, Nat.reduceAdd, Nat.reduceSub, Nat.reduceMul, Nat.reduceLeDiff, Nat.reduceLT, Nat.reduceEqDiff, Nat.reduceBEq]
        intro n hn hL
        refine callBy cb16 (c_put (ks := [r4, r5, r8]) ((p8.roots perm3r).grow (Grow.upd n)) (.inr ⟨some n, rfl⟩) (by omega) fun r20 nv20 ns20 L20 p20 k20 c20 => ?_)
        simp (maxSteps := 4000000) only [go_sem, reduceIte, reduceCtorEq, Nat.reduceAdd, Nat.reduceSub, Nat.reduceMul, Nat.reduceLeDiff, Nat.reduceLT, Nat.reduceEqDiff, Nat.reduceBEq]
        exact h1 _ _ _ _ _ _ _ _ _ _ _ p20 ((k6.trans k8).trans ((Grow.upd n).keep.trans k20)) (by omega) (by omega) (by omega) (fun e => ⟨w5, by omega⟩)
    · have hv := hv rfl
      refine callBy cb13 (c_now p5 fun tok x1 x2 x3 => ?_)
      simp (maxSteps := 4000000) only [go_sem, reduceIte, reduceCtorEq, Nat.reduceAdd, Nat.reduceSub, Nat.reduceMul, Nat.reduceLeDiff, Nat.reduceLT, Nat.reduceEqDiff, Nat.reduceBEq]
      refine callBy cb48 (c_enter fun v deep7 code7 pos7 y1 y2 y3 => ?_)
      cases v <;> simp (maxSteps := 4000000) only [go_sem, reduceIte, reduceCtorEq, Nat.reduceAdd, Nat.reduceSub, Nat.reduceMul, Nat.reduceLeDiff, Nat.reduceLT, Nat.reduceEqDiff, Nat.reduceBEq]
      · exact h1 _ _ _ _ _ _ _ _ _ _ _ (p5.fail (Int.le_refl _) t5 (y2 rfl) _) k6 (by omega) (by omega) (by omega) (fun e => absurd e (y2 rfl))
      · have p7 := p5.step (at1 := at5) (code1 := code7) (by omega) t5 y3
        refine callBy cb33 (ih.cond p7 (by omega) (by omega) hv fun r8 at8 nv8 ns8 deep8 df8 lp8 tp8 code8 pos8 L8 p8 k8 m8 t8 c8 q8 => ?_)
        simp (maxSteps := 4000000) only [go_sem, reduceIte, reduceCtorEq, Nat.reduceAdd, Nat.reduceSub, Nat.reduceMul, Nat.reduceLeDiff, Nat.reduceLT, Nat.reduceEqDiff, Nat.reduceBEq]
        intro n9 hn9 hL9
        refine callBy cb16 (c_put (ks := [r8]) (p8.grow (Grow.upd n9)) (.inr ⟨some n9, rfl⟩) (by omega) fun r10 nv10 ns10 L10 p10 k10 c10 => ?_)
        simp (maxSteps := 4000000) only [go_sem, reduceIte, reduceCtorEq, Nat.reduceAdd, Nat.reduceSub, Nat.reduceMul, Nat.reduceLeDiff, Nat.reduceLT, Nat.reduceEqDiff, Nat.reduceBEq]
        intro n hn hL
        refine callBy cb16 (c_put (ks := [r4, r5, r10]) ((p10.roots perm3r).grow (Grow.upd n)) (.inr ⟨some n, rfl⟩) (by omega) fun r20 nv20 ns20 L20 p20 k20 c20 => ?_)
        simp (maxSteps := 4000000) only [go_sem, reduceIte, reduceCtorEq, Nat.reduceAdd, Nat.reduceSub, Nat.reduceMul, Nat.reduceLeDiff, Nat.reduceLT, Nat.reduceEqDiff, Nat.reduceBEq]
        exact h1 _ _ _ _ _ _ _ _ _ _ _ p20 ((k6.trans (k8.trans ((Grow.upd n9).keep.trans k10))).trans ((Grow.upd n).keep.trans k20)) (by omega) (by omega) (by omega) (fun e => ⟨w5, by omega⟩)
  · exact h1 _ _ _ _ _ _ _ _ _ _ _ (p5.bad e5 _) k6 (by omega) (by omega) (by omega) (fun e => absurd e e5)

end Go.Proofs.Ab5
end
