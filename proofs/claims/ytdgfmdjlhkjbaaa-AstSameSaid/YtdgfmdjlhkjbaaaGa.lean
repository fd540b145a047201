/-
  The reference scanner: letters, digits, names.
-/
import Derived.Test.YtdgfmdjlhkjbaaaEh
set_option linter.all false
section
set_option maxRecDepth 10000
set_option maxHeartbeats 4000000
set_option linter.unusedSimpArgs false
set_option linter.unusedVariables false
namespace Go.Proofs.Ab5
open Go.Ab Go.Proofs

def letB (n : Int) : Bool := decide (97 ≤ n ∧ n ≤ 122 ∨ 65 ≤ n ∧ n ≤ 90 ∨ n = 95)
def digB (n : Int) : Bool := decide (48 ≤ n ∧ n ≤ 57)

theorem letter_ok {n : Int} {h : AHeap} : ACalls Try.prog 25 [.int .u8 n] h fun r h' => r = .bool (letB n) ∧ h' = h := by
  refine acalls_of Try.func25 rfl (rd_ok hMix (κ := fun _ => false) δ0 _ rfl ?_)
  simp (maxSteps := 4000000) only [go_sem, reduceIte, reduceCtorEq, Nat.reduceAdd, Nat.reduceSub, Nat.reduceMul, Nat.reduceLeDiff, Nat.reduceLT, Nat.reduceEqDiff, Nat.reduceBEq, Try.ntmps25, Try.f25]
  simp only [AVal.bool.injEq, letB, eq_comm (a := true), eq_comm (a := false), decide_eq_true_eq, decide_eq_false_iff_not]
  omega

theorem digit_ok {n : Int} {h : AHeap} : ACalls Try.prog 26 [.int .u8 n] h fun r h' => r = .bool (digB n) ∧ h' = h := by
  refine acalls_of Try.func26 rfl (rd_ok hMix (κ := fun _ => false) δ0 _ rfl ?_)
  simp (maxSteps := 4000000) only [go_sem, reduceIte, reduceCtorEq, Nat.reduceAdd, Nat.reduceSub, Nat.reduceMul, Nat.reduceLeDiff, Nat.reduceLT, Nat.reduceEqDiff, Nat.reduceBEq, Try.ntmps26, Try.f26]
  simp only [AVal.bool.injEq, digB, eq_comm (a := true), eq_comm (a := false), decide_eq_true_eq, decide_eq_false_iff_not]
  omega

theorem c_letter {n : Int} {h : AHeap} {S : AVal → AHeap → Prop} (h1 : S (.bool (letB n)) h) : ACalls Try.prog 25 [.int .u8 n] h S :=
  letter_ok.mono (by rintro r h' ⟨rfl, rfl⟩; exact h1)
theorem c_digit {n : Int} {h : AHeap} {S : AVal → AHeap → Prop} (h1 : S (.bool (digB n)) h) : ACalls Try.prog 26 [.int .u8 n] h S :=
  digit_ok.mono (by rintro r h' ⟨rfl, rfl⟩; exact h1)

theorem strIndex_some {s : ByteArray} {i : Int} (h0 : 0 ≤ i) (h1 : i < s.size) : ∃ c : Int, aStrIndex s i = some (.int .u8 c) := by
  unfold aStrIndex
  rw [if_pos h0]
  have : i.toNat < s.data.size := by show i.toNat < s.size; omega
  exact ⟨_, by rw [Array.getElem?_eq_getElem this]; rfl⟩

theorem c_words {b : Nat → Option (List AVal)} {L : Nat → Bool} {S : AVal → AHeap → Prop} (h1 : ∀ lv l L1, Grow L L1 → Strs lv l → l.length ≤ 100 → S lv ⟨b, L1⟩) : ACalls Try.prog 28 [] ⟨b, L⟩ S := by
  refine acalls_of Try.func28 rfl (rd_ok hMix (κ := fun _ => false) δ0 _ rfl ?_)
  simp (maxSteps := 4000000) only [go_sem, reduceIte, reduceCtorEq, Nat.reduceAdd, Nat.reduceSub, Nat.reduceMul, Nat.reduceLeDiff, Nat.reduceLT, Nat.reduceEqDiff, Nat.reduceBEq, Try.ntmps28, Try.f28]
  intro n hn hL
  exact h1 _ [_, _, _, _, _, _, _, _, _, _, _, _, _, _, _, _, _] _ (Grow.upd n) (.inr ⟨some n, rfl⟩) (by simp)

theorem c_plain {s : ByteArray} (hs : s.size ≤ 4294967296) {h : AHeap} {S : AVal → AHeap → Prop} (h1 : ∀ v, S (.bool v) h) : ACalls Try.prog 61 [.str s] h S := by
  refine acalls_of Try.func61 rfl (rd_ok hMix (κ := fun _ => false) δ0 _ rfl ?_)
  simp (maxSteps := 4000000) only [go_sem, reduceIte, reduceCtorEq, Nat.reduceAdd, Nat.reduceSub, Nat.reduceMul, Nat.reduceLeDiff, Nat.reduceLT, Nat.reduceEqDiff, Nat.reduceBEq, Try.ntmps61, Try.f61]
  refine AWp.loop_st [true, false, false, true, false, false, false, false, false, false, false, false, false, false, false, false, false, false, false, false, false, false, false, false, false, false, false, false] [] (fun i : Nat => ⟨[.str s, .any, .any, .int .i64 i, .any, .any, .any, .any, .any, .any, .any, .any, .any, .any, .any, .any, .any, .any, .any, .any, .any, .any, .any, .any, .any, .any, .any, .any], []⟩) (fun _ => h) (fun i => i ≤ s.size) (fun i => s.size - i) 0 ?_ ?_ rfl (by omega) ?_
  · simp (maxSteps := 4000000) only [go_sem, reduceIte, reduceCtorEq, Nat.reduceAdd, Nat.reduceSub, Nat.reduceMul, Nat.reduceLeDiff, Nat.reduceLT, Nat.reduceEqDiff, Nat.reduceBEq]
  · simp (maxSteps := 4000000) only [go_sem, reduceIte, reduceCtorEq, Nat.reduceAdd, Nat.reduceSub, Nat.reduceMul, Nat.reduceLeDiff, Nat.reduceLT, Nat.reduceEqDiff, Nat.reduceBEq]
    rfl
  intro i hi
  refine rd_ok hMix (κ := fun _ => false) δ0 _ rfl ?_
  simp (maxSteps := 4000000) only [go_sem, reduceIte, reduceCtorEq, Nat.reduceAdd, Nat.reduceSub, Nat.reduceMul, Nat.reduceLeDiff, Nat.reduceLT, Nat.reduceEqDiff, Nat.reduceBEq]
  refine ⟨fun hlt => ?_, fun hge => ⟨fun _ => h1 _, fun _ => h1 _⟩⟩
  have hw : IntKind.wrap .i64 ((i : Int) + 1) = ((i + 1 : Nat) : Int) := by rw [wrap64] <;> omega
  obtain ⟨c, hc⟩ := strIndex_some (s := s) (i := (i : Int)) (by omega) hlt
  simp (maxSteps := 4000000) only [go_sem, reduceIte, reduceCtorEq, Nat.reduceAdd, Nat.reduceSub, Nat.reduceMul, Nat.reduceLeDiff, Nat.reduceLT, Nat.reduceEqDiff, Nat.reduceBEq, hc]
  refine callBy cb25 (c_letter ?_)
  cases letB c <;> simp (maxSteps := 4000000) only [go_sem, reduceIte, reduceCtorEq, Nat.reduceAdd, Nat.reduceSub, Nat.reduceMul, Nat.reduceLeDiff, Nat.reduceLT, Nat.reduceEqDiff, Nat.reduceBEq, hw]
  · refine ⟨fun hpos => ?_, fun hz => h1 _⟩
    simp (maxSteps := 4000000) only [go_sem, reduceIte, reduceCtorEq, Nat.reduceAdd, Nat.reduceSub, Nat.reduceMul, Nat.reduceLeDiff, Nat.reduceLT, Nat.reduceEqDiff, Nat.reduceBEq, hc]
    refine callBy cb26 (c_digit ?_)
    cases digB c <;> simp (maxSteps := 4000000) only [go_sem, reduceIte, reduceCtorEq, Nat.reduceAdd, Nat.reduceSub, Nat.reduceMul, Nat.reduceLeDiff, Nat.reduceLT, Nat.reduceEqDiff, Nat.reduceBEq, hw]
    · exact h1 _
    · exact ⟨i + 1, rfl, by omega, by omega⟩
  · exact ⟨i + 1, rfl, by omega, by omega⟩

theorem c_name {s : ByteArray} (hs : s.size ≤ 4294967296) {b : Nat → Option (List AVal)} {L : Nat → Bool} {S : AVal → AHeap → Prop} (h1 : ∀ v L1, Grow L L1 → S (.bool v) ⟨b, L1⟩) : ACalls Try.prog 58 [.str s] ⟨b, L⟩ S := by
  refine acalls_of Try.func58 rfl (rd_ok hMix (κ := fun _ => false) δ0 _ rfl ?_)
  simp (maxSteps := 4000000) only [go_sem, reduceIte, reduceCtorEq, Nat.reduceAdd, Nat.reduceSub, Nat.reduceMul, Nat.reduceLeDiff, Nat.reduceLT, Nat.reduceEqDiff, Nat.reduceBEq, Try.ntmps58, Try.f58]
  refine callBy cb61 (c_plain hs fun v => ?_)
  cases v <;> simp (maxSteps := 4000000) only [go_sem, reduceIte, reduceCtorEq, Nat.reduceAdd, Nat.reduceSub, Nat.reduceMul, Nat.reduceLeDiff, Nat.reduceLT, Nat.reduceEqDiff, Nat.reduceBEq]
  · exact h1 _ _ (Grow.refl L)
  · refine callBy cb28 (c_words fun lv l L1 g hl hn => ?_)
    simp (maxSteps := 4000000) only [go_sem, reduceIte, reduceCtorEq, Nat.reduceAdd, Nat.reduceSub, Nat.reduceMul, Nat.reduceLeDiff, Nat.reduceLT, Nat.reduceEqDiff, Nat.reduceBEq, hl.loc]
    refine callBy cb27 (c_among hl (by omega) fun i _ _ => ?_)
    simp (maxSteps := 4000000) only [go_sem, reduceIte, reduceCtorEq, Nat.reduceAdd, Nat.reduceSub, Nat.reduceMul, Nat.reduceLeDiff, Nat.reduceLT, Nat.reduceEqDiff, Nat.reduceBEq]
    exact ⟨fun _ => h1 _ _ g, fun _ => h1 _ _ g⟩
end Go.Proofs.Ab5
end
/- The reference parser: several expressions. -/
section
set_option maxRecDepth 10000
set_option maxHeartbeats 4000000
set_option linter.unusedSimpArgs false
set_option linter.unusedVariables false
namespace Go.Proofs.Ab5
open Go.Ab Go.Proofs
variable {ts : List Tok}
theorem c_tuple {p : Nat} {b : Nat → Option (List AVal)} {L : Nat → Bool} {ρt : Option Nat} {at0 : Int} {nv0 : AVal} {deep0 : Int} {df0 lp0 tp0 : Bool} {code0 pos0 : Int} {ns0 : List Nd} {R : List Int} {S : AVal → AHeap → Prop} (p0 : PI ts at0 nv0 ns0 code0 L R) (room : (ns0.length : Int) ≤ 2 * at0 + 2) (h1 : ∀ (r : Int) (at1 : Int) (nv1 : AVal) (ns1 : List Nd) (deep1 : Int) (df1 lp1 tp1 : Bool) (code1 pos1 : Int) (L1 : Nat → Bool), PI ts at1 nv1 ns1 code1 L1 (r :: R) → Keep L nv0 L1 nv1 → at0 ≤ at1 → at1 < ts.length → (ns1.length : Int) + at0 ≤ ns0.length + at1 → (code1 = 0 → code0 = 0 ∧ at0 < at1) → S (.int .i64 r) ⟨upd b p (some (pcells ρt ts at1 nv1 deep1 df1 lp1 tp1 code1 pos1)), L1⟩) :
    ACalls Try.prog 38 [.ptr p 0] ⟨upd b p (some (pcells ρt ts at0 nv0 deep0 df0 lp0 tp0 code0 pos0)), L⟩ S := by
  have g0 := p0.pos
  have g1 := p0.lt
  have g2 := p0.tok.most
  have ih := allE (ts := ts) (64 * ts.length + 100)
  refine acalls_of Try.func38 rfl (rd_ok hMix (κ := fun _ => false) δ0 _ rfl ?_)
  simp (maxSteps := 4000000) only [go_sem, reduceIte, reduceCtorEq, Nat.reduceAdd, Nat.reduceSub, Nat.reduceMul, Nat.reduceLeDiff, Nat.reduceLT, Nat.reduceEqDiff, Nat.reduceBEq, Try.ntmps38, Try.f38]
  refine callBy cb13 (c_now p0 fun tok x1 x2 x3 => ?_)
  simp (maxSteps := 4000000) only [go_sem, reduceIte, reduceCtorEq, Nat.reduceAdd, Nat.reduceSub, Nat.reduceMul, Nat.reduceLeDiff, Nat.reduceLT, Nat.reduceEqDiff, Nat.reduceBEq]
  refine callBy cb47 (ih.test p0 room (by omega) fun r4 at4 nv4 ns4 deep4 df4 lp4 tp4 code4 pos4 L4 p4 k4 m4 t4 c4 q4 => ?_)
  simp (maxSteps := 4000000) only [go_sem, reduceIte, reduceCtorEq, Nat.reduceAdd, Nat.reduceSub, Nat.reduceMul, Nat.reduceLeDiff, Nat.reduceLT, Nat.reduceEqDiff, Nat.reduceBEq]
  refine callBy cb51 (ih.rest p4 (by omega) (by omega) fun lv5 l5 comma at5 nv5 ns5 deep5 df5 lp5 tp5 code5 pos5 L5 i5 s5 p5 k5 m5 t5 c5 d5 q5 => ?_)
  simp (maxSteps := 4000000) only [go_sem, reduceIte, reduceCtorEq, Nat.reduceAdd, Nat.reduceSub, Nat.reduceMul, Nat.reduceLeDiff, Nat.reduceLT, Nat.reduceEqDiff, Nat.reduceBEq]
  have k6 := k4.trans k5
  cases comma <;> simp (maxSteps := 4000000) only [go_sem, reduceIte, reduceCtorEq, Nat.reduceAdd, Nat.reduceSub, Nat.reduceMul, Nat.reduceLeDiff, Nat.reduceLT, Nat.reduceEqDiff, Nat.reduceBEq, i5.loc]
  · have s5 := s5 rfl
    subst s5
    exact h1 _ _ _ _ _ _ _ _ _ _ _ p5 k6 (by omega) (by omega) (by omega) (fun e => by have := q4 (q5 e); omega)
  · have d5 := d5 rfl
    refine callBy cb16 (c_put (ks := l5) p5 i5 (by omega) fun r7 nv7 ns7 L7 p7 k7 c7 => ?_)
    simp (maxSteps := 4000000) only [go_sem, reduceIte, reduceCtorEq, Nat.reduceAdd, Nat.reduceSub, Nat.reduceMul, Nat.reduceLeDiff, Nat.reduceLT, Nat.reduceEqDiff, Nat.reduceBEq]
    exact h1 _ _ _ _ _ _ _ _ _ _ _ p7 (k6.trans k7) (by omega) (by omega) (by omega) (fun e => by have := q4 (q5 e); omega)

end Go.Proofs.Ab5
end
