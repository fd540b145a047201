/-
  The reference scanner: the whole.
-/
import Derived.Test.YtdgfmdjlhkjbaaaJd
import Derived.Test.YtdgfmdjlhkjbaaaJe
set_option linter.all false
section
set_option maxRecDepth 10000
set_option maxHeartbeats 16000000
set_option linter.unusedSimpArgs false
set_option linter.unusedVariables false
namespace Go.Ab
theorem AWp.opaq {P : Program} {c : Code} {Q : Exit → AAct → AHeap → Prop} {aa : AAct} {h : AHeap} (T : (Exit → AAct → AHeap → Prop) → Prop) (t : T Q) (k : ∀ Q', T Q' → AWp P c Q' aa h) : AWp P c Q aa h := k Q t
theorem rd_deep {P : Program} {κ : Tmp → Bool} {δ : Nat → Nat × List (List Nat)} {C0 C1 C2 C3 Y : Code} {id : Nat} {Q : Exit → AAct → AHeap → Prop} {aa : AAct} {h : AHeap} (T : (AAct → AHeap → Prop) → Prop) (t : T (RD P κ δ Y (inBlockE id Q)))
    (k : ∀ R, T R → RD P κ δ C0 (thenE (RD P κ δ C1 (thenE (RD P κ δ C2 (thenE (RD P κ δ C3 (thenE R (inBlockE id Q))) (inBlockE id Q))) (inBlockE id Q))) Q) aa h) :
    RD P κ δ (.seq C0 (.block id (.seq C1 (.seq C2 (.seq C3 Y))))) Q aa h := k _ t
end Go.Ab
namespace Go.Proofs.Ab5
open Go.Ab Go.Proofs
variable {p : Nat} {s : ByteArray} {h : AHeap} {x : SC} {S : AVal → AHeap → Prop}

def wordsL : List ByteArray := [{ data := #[70, 97, 108, 115, 101] }, { data := #[78, 111, 110, 101] }, { data := #[84, 114, 117, 101] }, { data := #[97, 110, 100] }, { data := #[98, 114, 101, 97, 107] }, { data := #[99, 111, 110, 116, 105, 110, 117, 101] }, { data := #[100, 101, 102] }, { data := #[101, 108, 105, 102] }, { data := #[101, 108, 115, 101] }, { data := #[102, 111, 114] }, { data := #[105, 102] }, { data := #[105, 110] }, { data := #[108, 111, 97, 100] }, { data := #[110, 111, 116] }, { data := #[111, 114] }, { data := #[112, 97, 115, 115] }, { data := #[114, 101, 116, 117, 114, 110] }]

theorem words_q (blk : Nat → Option (List AVal)) : QCall Try.prog 28 [] blk (.list none 1 (wordsL.map fun s => [.str s])) := by
  intro h hb
  refine ACalls.weaken (R := fun r h' => ∃ n, r = .list (some n) 1 (wordsL.map fun s => [.str s]) ∧ h' = ⟨h.blk, upd h.live n true⟩) ?_ ?_
  · refine acalls_of Try.func28 rfl (rd_ok hMix (κ := fun _ => false) δ0 _ rfl ?_)
    simp (maxSteps := 4000000) only [go_sem, reduceIte, reduceCtorEq, Nat.reduceAdd, Nat.reduceSub, Nat.reduceMul, Nat.reduceLeDiff, Nat.reduceLT, Nat.reduceEqDiff, Nat.reduceBEq, Try.ntmps28, Try.f28]
    intro n hn hL
    exact ⟨n, rfl, rfl⟩
  · rintro r h' ⟨n, rfl, rfl⟩
    exact ⟨_, h, fun G v hv => hv.forget, ⟨fun _ _ e => e, fun ρ e => Grow.upd n ρ e⟩, rfl, rfl⟩

/-- What holds where the scanner's round begins. -/
structure SG (s : ByteArray) (x : SC) (start : Int) : Prop where
  st0 : 0 ≤ start
  st1 : start ≤ x.at'
  at1 : x.at' ≤ s.size
  b0 : x.bs.head? = some 0
  txt : ∀ t ∈ x.ts, t.text.size ≤ 1000
  cnt : x.bad < 0 → (x.ts.length : Int) + x.bs.length ≤ 4 * x.at' + 1 ∧ (x.os.length : Int) ≤ x.at'

abbrev zf : List AVal := [.int .i64 0, .bool false, .int .i64 0, .bool false, .str .empty]

/-- Where bytes were gone over. -/
theorem SG.adv {start : Int} {x x' : SC} (h0 : 0 ≤ start) (h1 : start ≤ x.at') (hb : x.bs.head? = some 0) (ht : ∀ t ∈ x.ts, t.text.size ≤ 1000) (hc : (x.ts.length : Int) + x.bs.length ≤ 4 * x.at' + 3) (ho : (x.os.length : Int) ≤ x.at') (a : Adv s x x') : SG s x' start :=
  ⟨h0, by have := a.at0; omega, a.at1, by rw [a.bs]; exact hb, fun t h => (a.txt t h).elim (ht t) id, fun e => by
    have h1 := a.go e; have h2 := a.ts; have h3 := a.os; have h4 := a.bs
    rw [h4]; omega⟩
def muS (s : ByteArray) (x : SC) : Nat := 2 * (s.size - x.at').toNat + (if x.bad < 0 then 1 else 0)
theorem mu_lt {x x2 : SC} (h1 : x.bad < 0) (h2 : x.at' ≤ x2.at') (h3 : x2.at' ≤ s.size) (h4 : x2.bad < 0 → x.at' < x2.at') : muS s x2 < muS s x := by
  unfold muS
  rw [if_pos h1]
  split
  · rename_i h; have := h4 h; omega
  · omega

theorem tok_end {ts : List Tok} {e : Tok} (he : e.kind = 8) (ht : e.text.size ≤ 1000) (hl : ts.length ≤ 200000) (h : ∀ t ∈ ts, t.text.size ≤ 1000) : TokOK (ts ++ [e]) := by
  refine ⟨by simp; omega, fun i t hi hn => ?_, fun t ht' => ?_⟩
  · have : i = ts.length := by simp at hn; omega
    subst this
    rw [List.getElem?_append_right (Nat.le_refl _)] at hi
    simp at hi; subst hi; exact he
  · rcases List.mem_append.1 ht' with h' | h'
    · have := h t h'; omega
    · simp at h'; subst h'; omega
def δS : Nat → Nat × List (List Nat)
  | 27 => (11, [[], [], [], [], [], [], [], [], [], [], []])
  | 37 => (8, [[], [], [], [], [], [], [], []])
  | 52 => (12, [[], [], [], [], [], [], [], [], [], [], [], []])
  | 55 => (5, [[], [], [], [], []])
  | _ => (0, [])
def κS : Tmp → Bool := fun t => t == 15 || t == 17

theorem c_scan (hs : s.size ≤ 1000) (h1 : ∀ tv ts code b e h', (code = 0 → TokOK ts ∧ 0 < ts.length ∧ ∃ ρ, tv = .list ρ 3 (ts.map Tok.cells)) → S (.tuple [tv, .agg [.int .i64 code, .bool b, .int .i64 e, .bool false, .str .empty]]) h') :
    ACalls Try.prog 11 [.str s] h S := by
  refine acalls_mf 329 10 Try.func11 rfl rfl (Nat.le_of_ble_eq_true rfl) (rd_ok hMix (κ := κS) δS _ (by decide +kernel) ?_)
  have hs2 : ¬ (65536 : Int) < s.size := by omega
  simp (maxSteps := 4000000) only [go_sem, reduceIte, reduceCtorEq, Nat.reduceAdd, Nat.reduceSub, Nat.reduceMul, Nat.reduceLeDiff, Nat.reduceLT, Nat.reduceEqDiff, Nat.reduceBEq, Try.ntmps11, Try.f11, δS, κS, hs2]
  intro n hn hL p hp hpl
  have hnp : n ≠ p := fun e => by subst e; simp [upd_same] at hp
  refine AWp.opaq (fun Q => ∀ (x : SC) (g : AHeap) (v1 v5 v6 v7 v8 v9 : AVal) (l : List (Nat × AVal)), (SX p s g x ∧ x.bs.head? = some 0 ∧ (∀ t ∈ x.ts, t.text.size ≤ 1000) ∧ (x.bad < 0 → (x.ts.length : Int) + x.bs.length ≤ 100000)) →
    Q (.exit 0) ⟨mkF 329 10 [.str s, v1, .nilSlice, .loc 3 0, .ptr p 0, v5, v6, v7, v8, v9] l, [(3, zf)]⟩ g) ?_ fun Q tail => ?_
  · rintro x g v1 v5 v6 v7 v8 v9 l ⟨hx, b0, txt, cnt⟩
    have hb := hx.blk
    by_cases hbad : x.bad < 0
    · have hnb : ¬ 0 ≤ x.bad := by omega
      have cnt := cnt hbad
      by_cases ho : (0 : Int) < x.os.length
      · simp (maxSteps := 4000000) only [go_sem, reduceIte, reduceCtorEq, Nat.reduceAdd, Nat.reduceSub, Nat.reduceMul, Nat.reduceLeDiff, Nat.reduceLT, Nat.reduceEqDiff, Nat.reduceBEq, δS, κS, hb, hbad, ho, hx.opn.fits, hx.opn.len]
        refine callBy cb22 (c_xfail hx fun h' b' hx' c1 c2 => ?_)
        have hb' := hx'.blk
        have hp' : 0 ≤ b' := by have := c1 hbad; omega
        simp (maxSteps := 4000000) only [go_sem, reduceIte, reduceCtorEq, Nat.reduceAdd, Nat.reduceSub, Nat.reduceMul, Nat.reduceLeDiff, Nat.reduceLT, Nat.reduceEqDiff, Nat.reduceBEq, δS, κS, hb', hp']
        refine callBy cb15 (c_placed fun b e => ?_)
        simp (maxSteps := 4000000) only [go_sem, reduceIte, reduceCtorEq, Nat.reduceAdd, Nat.reduceSub, Nat.reduceMul, Nat.reduceLeDiff, Nat.reduceLT, Nat.reduceEqDiff, Nat.reduceBEq]
        exact h1 _ [] _ _ _ _ (fun e => absurd e (by decide))
      · cases hline : x.line
        · simp (maxSteps := 4000000) only [go_sem, reduceIte, reduceCtorEq, Nat.reduceAdd, Nat.reduceSub, Nat.reduceMul, Nat.reduceLeDiff, Nat.reduceLT, Nat.reduceEqDiff, Nat.reduceBEq, δS, κS, hb, hbad, ho, hx.opn.fits, hx.opn.len, hnb, hline]
          refine AWp.loop_mf 10 [true, false, true, true, true, false, false, false, false, false] [3] (fun z : SC × AHeap => ⟨(mkF 329 10 [.str s, .any, .nilSlice, .loc 3 0, .ptr p 0, .any, .any, .any, .any, .any] []), [(3, zf)]⟩) (fun z => z.2) (fun z => SX p s z.2 z.1 ∧ z.1.bs.head? = some 0 ∧ (∀ t ∈ z.1.ts, t.text.size ≤ 1000) ∧ (z.1.ts.length : Int) + z.1.bs.length ≤ 100001) (fun z => z.1.bs.length) (x, _) ?_ ?_ rfl ⟨hx, b0, txt, by dsimp only; omega⟩ ?_
          · simp (maxSteps := 4000000) only [go_sem, reduceIte, reduceCtorEq, Nat.reduceAdd, Nat.reduceSub, Nat.reduceMul, Nat.reduceLeDiff, Nat.reduceLT, Nat.reduceEqDiff, Nat.reduceBEq]
          · simp (maxSteps := 4000000) only [go_sem, reduceIte, reduceCtorEq, Nat.reduceAdd, Nat.reduceSub, Nat.reduceMul, Nat.reduceLeDiff, Nat.reduceLT, Nat.reduceEqDiff, Nat.reduceBEq]
          rintro ⟨z, g2⟩ ⟨hz, z1, z2, z3⟩
          dsimp only at hz z1 z2 z3 ⊢
          have hp0 := head_pos z1
          have hb2 := hz.blk
          refine rd_ok hMix (κ := κS) δS _ (by decide +kernel) ?_
          by_cases hl : (1 : Int) < z.bs.length
          · obtain ⟨top, β, o, r, t1, t2, t3, t4⟩ := hz.bks.top hp0 (by omega)
            obtain ⟨v', p1, p2, p3, p4, p5, p6⟩ := hz.bks.pop (by intro e; rw [e] at hp0; simp at hp0)
            simp (maxSteps := 4000000) only [go_sem, reduceIte, reduceCtorEq, Nat.reduceAdd, Nat.reduceSub, Nat.reduceMul, Nat.reduceLeDiff, Nat.reduceLT, Nat.reduceEqDiff, Nat.reduceBEq, δS, κS, hb2, hz.bks.fits, hz.bks.len, hl, t4]
            change W (aSlice 1 z.bv none (some ((z.bs.length : Int) - 1))) _
            simp (maxSteps := 4000000) only [go_sem, reduceIte, reduceCtorEq, Nat.reduceAdd, Nat.reduceSub, Nat.reduceMul, Nat.reduceLeDiff, Nat.reduceLT, Nat.reduceEqDiff, Nat.reduceBEq, ↓p1, p4, p5, p6, hb2]
            refine callBy cb21 (c_xput (hz.setBlk p2 p3) (by dsimp only; omega) fun h2 v2 hx2 => ?_)
            simp (maxSteps := 4000000) only [go_sem, reduceIte, reduceCtorEq, Nat.reduceAdd, Nat.reduceSub, Nat.reduceMul, Nat.reduceLeDiff, Nat.reduceLT, Nat.reduceEqDiff, Nat.reduceBEq]
            refine ⟨⟨_, h2⟩, rfl, ⟨hx2, ?_, ?_, ?_⟩, ?_⟩
            · dsimp only
              rw [List.dropLast_eq_take, List.head?_take, if_neg (by omega)]; exact z1
            · intro t ht
              simp only [List.mem_append, List.mem_singleton] at ht
              rcases ht with ht | rfl
              · exact z2 t ht
              · exact Nat.zero_le _
            · simp; omega
            · simp; omega
          · simp (maxSteps := 4000000) only [go_sem, reduceIte, reduceCtorEq, Nat.reduceAdd, Nat.reduceSub, Nat.reduceMul, Nat.reduceLeDiff, Nat.reduceLT, Nat.reduceEqDiff, Nat.reduceBEq, δS, κS, hb2, hz.bks.fits, hz.bks.len, hl]
            refine callBy cb21 (c_xput hz (by omega) fun h2 v2 hx2 => ?_)
            have hb3 := hx2.blk
            have hl3 : v2.isLoc = false := hx2.outLoc
            simp (maxSteps := 4000000) only [go_sem, reduceIte, reduceCtorEq, Nat.reduceAdd, Nat.reduceSub, Nat.reduceMul, Nat.reduceLeDiff, Nat.reduceLT, Nat.reduceEqDiff, Nat.reduceBEq, δS, κS, hb3, hl3]
            refine QCallK.of cb17 (fun _ _ => none_ok) ?_
            simp (maxSteps := 4000000) only [go_sem, reduceIte, reduceCtorEq, Nat.reduceAdd, Nat.reduceSub, Nat.reduceMul, Nat.reduceLeDiff, Nat.reduceLT, Nat.reduceEqDiff, Nat.reduceBEq, δS, κS, hl3]
            refine h1 _ (z.ts ++ [⟨8, .empty, s.size⟩]) _ _ _ _ fun _ => ⟨tok_end rfl (Nat.zero_le _) (by omega) z2, by simp, ?_⟩
            rcases hx2.out with ⟨_, e⟩ | ⟨ρ, e, _⟩
            · simp at e
            · exact ⟨some ρ, e⟩
        · simp (maxSteps := 4000000) only [go_sem, reduceIte, reduceCtorEq, Nat.reduceAdd, Nat.reduceSub, Nat.reduceMul, Nat.reduceLeDiff, Nat.reduceLT, Nat.reduceEqDiff, Nat.reduceBEq, δS, κS, hb, hbad, ho, hx.opn.fits, hx.opn.len, hnb, hline]
          refine callBy cb21 (c_xput hx (by omega) fun h2 v2 hx2 => ?_)
          simp (maxSteps := 4000000) only [go_sem, reduceIte, reduceCtorEq, Nat.reduceAdd, Nat.reduceSub, Nat.reduceMul, Nat.reduceLeDiff, Nat.reduceLT, Nat.reduceEqDiff, Nat.reduceBEq, δS, κS]
          refine AWp.loop_mf 10 [true, false, true, true, true, false, false, false, false, false] [3] (fun z : SC × AHeap => ⟨(mkF 329 10 [.str s, .any, .nilSlice, .loc 3 0, .ptr p 0, .any, .any, .any, .any, .any] []), [(3, zf)]⟩) (fun z => z.2) (fun z => SX p s z.2 z.1 ∧ z.1.bs.head? = some 0 ∧ (∀ t ∈ z.1.ts, t.text.size ≤ 1000) ∧ (z.1.ts.length : Int) + z.1.bs.length ≤ 100001) (fun z => z.1.bs.length) ({ x with outv := v2, ts := x.ts ++ [⟨5, .empty, s.size⟩] }, _) ?_ ?_ rfl ⟨hx2, b0, fun t ht => (List.mem_append.1 ht).elim (txt t) fun e => by simp at e; subst e; exact Nat.zero_le _, by simp; omega⟩ ?_
          · simp (maxSteps := 4000000) only [go_sem, reduceIte, reduceCtorEq, Nat.reduceAdd, Nat.reduceSub, Nat.reduceMul, Nat.reduceLeDiff, Nat.reduceLT, Nat.reduceEqDiff, Nat.reduceBEq]
          · simp (maxSteps := 4000000) only [go_sem, reduceIte, reduceCtorEq, Nat.reduceAdd, Nat.reduceSub, Nat.reduceMul, Nat.reduceLeDiff, Nat.reduceLT, Nat.reduceEqDiff, Nat.reduceBEq]
          rintro ⟨z, g2⟩ ⟨hz, z1, z2, z3⟩
          dsimp only at hz z1 z2 z3 ⊢
          have hp0 := head_pos z1
          have hb2 := hz.blk
          refine rd_ok hMix (κ := κS) δS _ (by decide +kernel) ?_
          by_cases hl : (1 : Int) < z.bs.length
          · obtain ⟨top, β, o, r, t1, t2, t3, t4⟩ := hz.bks.top hp0 (by omega)
            obtain ⟨v', p1, p2, p3, p4, p5, p6⟩ := hz.bks.pop (by intro e; rw [e] at hp0; simp at hp0)
            simp (maxSteps := 4000000) only [go_sem, reduceIte, reduceCtorEq, Nat.reduceAdd, Nat.reduceSub, Nat.reduceMul, Nat.reduceLeDiff, Nat.reduceLT, Nat.reduceEqDiff, Nat.reduceBEq, δS, κS, hb2, hz.bks.fits, hz.bks.len, hl, t4]
            change W (aSlice 1 z.bv none (some ((z.bs.length : Int) - 1))) _
            simp (maxSteps := 4000000) only [go_sem, reduceIte, reduceCtorEq, Nat.reduceAdd, Nat.reduceSub, Nat.reduceMul, Nat.reduceLeDiff, Nat.reduceLT, Nat.reduceEqDiff, Nat.reduceBEq, ↓p1, p4, p5, p6, hb2]
            refine callBy cb21 (c_xput (hz.setBlk p2 p3) (by dsimp only; omega) fun h2 v2 hx2 => ?_)
            simp (maxSteps := 4000000) only [go_sem, reduceIte, reduceCtorEq, Nat.reduceAdd, Nat.reduceSub, Nat.reduceMul, Nat.reduceLeDiff, Nat.reduceLT, Nat.reduceEqDiff, Nat.reduceBEq]
            refine ⟨⟨_, h2⟩, rfl, ⟨hx2, ?_, ?_, ?_⟩, ?_⟩
            · dsimp only
              rw [List.dropLast_eq_take, List.head?_take, if_neg (by omega)]; exact z1
            · intro t ht
              simp only [List.mem_append, List.mem_singleton] at ht
              rcases ht with ht | rfl
              · exact z2 t ht
              · exact Nat.zero_le _
            · simp; omega
            · simp; omega
          · simp (maxSteps := 4000000) only [go_sem, reduceIte, reduceCtorEq, Nat.reduceAdd, Nat.reduceSub, Nat.reduceMul, Nat.reduceLeDiff, Nat.reduceLT, Nat.reduceEqDiff, Nat.reduceBEq, δS, κS, hb2, hz.bks.fits, hz.bks.len, hl]
            refine callBy cb21 (c_xput hz (by omega) fun h2 v2 hx2 => ?_)
            have hb3 := hx2.blk
            have hl3 : v2.isLoc = false := hx2.outLoc
            simp (maxSteps := 4000000) only [go_sem, reduceIte, reduceCtorEq, Nat.reduceAdd, Nat.reduceSub, Nat.reduceMul, Nat.reduceLeDiff, Nat.reduceLT, Nat.reduceEqDiff, Nat.reduceBEq, δS, κS, hb3, hl3]
            refine QCallK.of cb17 (fun _ _ => none_ok) ?_
            simp (maxSteps := 4000000) only [go_sem, reduceIte, reduceCtorEq, Nat.reduceAdd, Nat.reduceSub, Nat.reduceMul, Nat.reduceLeDiff, Nat.reduceLT, Nat.reduceEqDiff, Nat.reduceBEq, δS, κS, hl3]
            refine h1 _ (z.ts ++ [⟨8, .empty, s.size⟩]) _ _ _ _ fun _ => ⟨tok_end rfl (Nat.zero_le _) (by omega) z2, by simp, ?_⟩
            rcases hx2.out with ⟨_, e⟩ | ⟨ρ, e, _⟩
            · simp at e
            · exact ⟨some ρ, e⟩
    · have hnb : 0 ≤ x.bad := by omega
      simp (maxSteps := 4000000) only [go_sem, reduceIte, reduceCtorEq, Nat.reduceAdd, Nat.reduceSub, Nat.reduceMul, Nat.reduceLeDiff, Nat.reduceLT, Nat.reduceEqDiff, Nat.reduceBEq, δS, κS, hb, hbad, hnb]
      refine callBy cb15 (c_placed fun b e => ?_)
      simp (maxSteps := 4000000) only [go_sem, reduceIte, reduceCtorEq, Nat.reduceAdd, Nat.reduceSub, Nat.reduceMul, Nat.reduceLeDiff, Nat.reduceLT, Nat.reduceEqDiff, Nat.reduceBEq]
      exact h1 _ [] _ _ _ _ (fun e => absurd e (by decide))
  have hx0 : SX p s ⟨upd (upd h.blk n (some [.int .i64 0])) p (some [.str s, .int .i64 0, .nilSlice, .ref n 0 1 1, .nilSlice, .bool false, .int .i64 (-1)]), h.live⟩ ⟨0, .nilSlice, [], .ref n 0 1 1, [0], .nilSlice, [], false, -1⟩ :=
    ⟨upd_same _ _ _, .inl ⟨rfl, rfl⟩, .inr ⟨n, 0, [.int .i64 0], rfl, hnp, by show upd (upd h.blk n _) p _ n = _; rw [upd_ne _ _ hnp, upd_same], by simp, by simp⟩, fun β e => (nomatch e), .inl ⟨rfl, rfl⟩⟩
  refine AWp.loop_mf 10 [true, false, true, true, true, true, true, false, false, false] [3] (fun z : SC × Int × Bool × AHeap => ⟨(mkF 329 10 [.str s, .any, .nilSlice, .loc 3 0, .ptr p 0, .int .i64 z.2.1, .bool z.2.2.1, .any, .any, .any] []), [(3, zf)]⟩) (fun z => z.2.2.2) (fun z => SX p s z.2.2.2 z.1 ∧ SG s z.1 z.2.1) (fun z => muS s z.1) (_, 0, true, _) ?_ ?_ rfl ⟨hx0, ⟨Int.le_refl _, Int.le_refl _, by dsimp only; omega, rfl, fun t ht => (nomatch ht), fun _ => ⟨by simp, by simp⟩⟩⟩ ?_
  · simp (maxSteps := 4000000) only [go_sem, reduceIte, reduceCtorEq, Nat.reduceAdd, Nat.reduceSub, Nat.reduceMul, Nat.reduceLeDiff, Nat.reduceLT, Nat.reduceEqDiff, Nat.reduceBEq]
  · simp (maxSteps := 4000000) only [go_sem, reduceIte, reduceCtorEq, Nat.reduceAdd, Nat.reduceSub, Nat.reduceMul, Nat.reduceLeDiff, Nat.reduceLT, Nat.reduceEqDiff, Nat.reduceBEq]
  rintro ⟨x, start, blank, g⟩ ⟨hx, sg⟩
  dsimp only at hx sg ⊢
  have hb := hx.blk
  refine rd_ok hMix (κ := κS) δS _ (by decide +kernel) ?_
  by_cases hlt : x.at' < s.size
  · by_cases hbad0 : x.bad < 0
    · obtain ⟨c, hc⟩ := strIndex_has (s := s) (i := x.at') (by have := sg.st0; have := sg.st1; omega) hlt
      have g0 := sg.st0
      have g1 := sg.st1
      obtain ⟨g3, g4⟩ := sg.cnt hbad0
      refine rd_deep (fun R => ∀ (x' : SC) (g : AHeap) (v1 v6 v8 v9 : AVal) (l : List (Nat × AVal)), (SX p s g x' ∧ x'.at' = x.at' ∧ x'.bs.head? = some 0 ∧ (∀ t ∈ x'.ts, t.text.size ≤ 1000) ∧ (x'.ts.length : Int) + x'.bs.length ≤ 4 * x.at' + 3 ∧ (x'.os.length : Int) ≤ x.at') →
        R ⟨mkF 329 10 [.str s, v1, .nilSlice, .loc 3 0, .ptr p 0, .int .i64 start, v6, .int .u8 c, v8, v9] l, [(3, zf)]⟩ g) ?_ fun R rest => ?_
      · rintro x' g v1 v6 v8 v9 l ⟨hx', e1, b0, txt, cnt, os⟩
        have hb := hx'.blk
        by_cases hbad : 0 ≤ x'.bad
        · simp (maxSteps := 4000000) only [go_sem, reduceIte, reduceCtorEq, Nat.reduceAdd, Nat.reduceSub, Nat.reduceMul, Nat.reduceLeDiff, Nat.reduceLT, Nat.reduceEqDiff, Nat.reduceBEq, δS, κS, hb, hbad]
          exact ⟨⟨x', start, false, g⟩, rfl, rfl, ⟨hx', ⟨sg.st0, by dsimp only; rw [e1]; exact sg.st1, by first | omega | (dsimp only; omega) | (dsimp only at *; omega), b0, txt, fun e => by first | omega | (dsimp only; omega) | (dsimp only at *; omega)⟩⟩, mu_lt hbad0 (by first | omega | (dsimp only; omega) | (dsimp only at *; omega)) (by first | omega | (dsimp only; omega) | (dsimp only at *; omega)) (fun e => by first | omega | (dsimp only; omega) | (dsimp only at *; omega))⟩
        · have f0 : 0 ≤ x'.at' := by omega
          have hlt' : x'.at' < s.size := by omega
          have hc' : aStrIndex s x'.at' = some (.int .u8 c) := by rw [e1]; exact hc
          simp (maxSteps := 4000000) only [go_sem, reduceIte, reduceCtorEq, Nat.reduceAdd, Nat.reduceSub, Nat.reduceMul, Nat.reduceLeDiff, Nat.reduceLT, Nat.reduceEqDiff, Nat.reduceBEq, δS, κS, hb, hbad]
          refine callBy cb25 (c_letter ?_)
          cases hlet : letB c <;> simp (maxSteps := 4000000) only [go_sem, reduceIte, reduceCtorEq, Nat.reduceAdd, Nat.reduceSub, Nat.reduceMul, Nat.reduceLeDiff, Nat.reduceLT, Nat.reduceEqDiff, Nat.reduceBEq, δS, κS, hb]
          · refine callBy cb26 (c_digit ?_)
            cases hdig : digB c <;> simp (maxSteps := 4000000) only [go_sem, reduceIte, reduceCtorEq, Nat.reduceAdd, Nat.reduceSub, Nat.reduceMul, Nat.reduceLeDiff, Nat.reduceLT, Nat.reduceEqDiff, Nat.reduceBEq, δS, κS, hb]
            · by_cases q1 : c = 34
              · subst q1
                simp (maxSteps := 4000000) only [go_sem, reduceIte, reduceCtorEq, Nat.reduceAdd, Nat.reduceSub, Nat.reduceMul, Nat.reduceLeDiff, Nat.reduceLT, Nat.reduceEqDiff, Nat.reduceBEq, δS, κS, hb, Int.reduceEq]
                refine callBy cb30 (c_str hx' f0 hlt' hc' (by decide) hs (by omega) fun h2 x2 hx2 adv => ?_)
                simp (maxSteps := 4000000) only [go_sem, reduceIte, reduceCtorEq, Nat.reduceAdd, Nat.reduceSub, Nat.reduceMul, Nat.reduceLeDiff, Nat.reduceLT, Nat.reduceEqDiff, Nat.reduceBEq]
                exact ⟨⟨x2, start, false, h2⟩, rfl, rfl, ⟨hx2, SG.adv sg.st0 (by rw [e1]; exact sg.st1) b0 txt (by rw [e1]; exact cnt) (by rw [e1]; exact os) adv⟩, mu_lt hbad0 (by have := adv.at0; first | omega | (dsimp only; omega) | (dsimp only at *; omega)) adv.at1 (fun e => by have := adv.go e; first | omega | (dsimp only; omega) | (dsimp only at *; omega))⟩
              · by_cases q2 : c = 39
                · subst q2
                  simp (maxSteps := 4000000) only [go_sem, reduceIte, reduceCtorEq, Nat.reduceAdd, Nat.reduceSub, Nat.reduceMul, Nat.reduceLeDiff, Nat.reduceLT, Nat.reduceEqDiff, Nat.reduceBEq, δS, κS, hb, Int.reduceEq]
                  refine callBy cb30 (c_str hx' f0 hlt' hc' (by decide) hs (by omega) fun h2 x2 hx2 adv => ?_)
                  simp (maxSteps := 4000000) only [go_sem, reduceIte, reduceCtorEq, Nat.reduceAdd, Nat.reduceSub, Nat.reduceMul, Nat.reduceLeDiff, Nat.reduceLT, Nat.reduceEqDiff, Nat.reduceBEq]
                  exact ⟨⟨x2, start, false, h2⟩, rfl, rfl, ⟨hx2, SG.adv sg.st0 (by rw [e1]; exact sg.st1) b0 txt (by rw [e1]; exact cnt) (by rw [e1]; exact os) adv⟩, mu_lt hbad0 (by have := adv.at0; first | omega | (dsimp only; omega) | (dsimp only at *; omega)) adv.at1 (fun e => by have := adv.go e; first | omega | (dsimp only; omega) | (dsimp only at *; omega))⟩
                · simp (maxSteps := 4000000) only [go_sem, reduceIte, reduceCtorEq, Nat.reduceAdd, Nat.reduceSub, Nat.reduceMul, Nat.reduceLeDiff, Nat.reduceLT, Nat.reduceEqDiff, Nat.reduceBEq, δS, κS, hb, q1, q2]
                  refine callBy cb31 (c_sign hx' f0 hlt' hs (by omega) (by omega) (fun h2 x2 hx2 adv => ?_) (fun h2 hx2 => ?_))
                  · simp (maxSteps := 4000000) only [go_sem, reduceIte, reduceCtorEq, Nat.reduceAdd, Nat.reduceSub, Nat.reduceMul, Nat.reduceLeDiff, Nat.reduceLT, Nat.reduceEqDiff, Nat.reduceBEq]
                    exact ⟨⟨x2, start, false, h2⟩, rfl, rfl, ⟨hx2, SG.adv sg.st0 (by rw [e1]; exact sg.st1) b0 txt (by rw [e1]; exact cnt) (by rw [e1]; exact os) adv⟩, mu_lt hbad0 (by have := adv.at0; first | omega | (dsimp only; omega) | (dsimp only at *; omega)) adv.at1 (fun e => by have := adv.go e; first | omega | (dsimp only; omega) | (dsimp only at *; omega))⟩
                  · have hb2 := hx2.blk
                    simp (maxSteps := 4000000) only [go_sem, reduceIte, reduceCtorEq, Nat.reduceAdd, Nat.reduceSub, Nat.reduceMul, Nat.reduceLeDiff, Nat.reduceLT, Nat.reduceEqDiff, Nat.reduceBEq, δS, κS, hb2]
                    refine callBy cb22 (c_xfail hx2 fun h3 b3 hx3 c1 c2 => ?_)
                    simp (maxSteps := 4000000) only [go_sem, reduceIte, reduceCtorEq, Nat.reduceAdd, Nat.reduceSub, Nat.reduceMul, Nat.reduceLeDiff, Nat.reduceLT, Nat.reduceEqDiff, Nat.reduceBEq]
                    have adv3 : Adv s x' { x' with bad := b3 } := ⟨Nat.le_succ _, rfl, Int.le_refl _, by dsimp only; omega, by dsimp only; omega, Nat.le_succ _, fun t ht => .inl ht⟩
                    exact ⟨⟨_, start, false, h3⟩, rfl, rfl, ⟨hx3, SG.adv sg.st0 (by rw [e1]; exact sg.st1) b0 txt (by rw [e1]; exact cnt) (by rw [e1]; exact os) adv3⟩, mu_lt hbad0 (by have := adv3.at0; first | omega | (dsimp only; omega) | (dsimp only at *; omega)) adv3.at1 (fun e => by have := adv3.go e; first | omega | (dsimp only; omega) | (dsimp only at *; omega))⟩
            · refine callBy cb29 (c_number hx' f0 hlt' hc' hdig hs (by omega) fun h2 x2 hx2 adv => ?_)
              simp (maxSteps := 4000000) only [go_sem, reduceIte, reduceCtorEq, Nat.reduceAdd, Nat.reduceSub, Nat.reduceMul, Nat.reduceLeDiff, Nat.reduceLT, Nat.reduceEqDiff, Nat.reduceBEq]
              exact ⟨⟨x2, start, false, h2⟩, rfl, rfl, ⟨hx2, SG.adv sg.st0 (by rw [e1]; exact sg.st1) b0 txt (by rw [e1]; exact cnt) (by rw [e1]; exact os) adv⟩, mu_lt hbad0 (by have := adv.at0; first | omega | (dsimp only; omega) | (dsimp only at *; omega)) adv.at1 (fun e => by have := adv.go e; first | omega | (dsimp only; omega) | (dsimp only at *; omega))⟩
          · refine AWp.loop_mf 10 [true, false, true, true, true, true, true, false, true, false] [3] (fun z : Int × AHeap => ⟨(mkF 329 10 [.str s, .any, .nilSlice, .loc 3 0, .ptr p 0, .int .i64 start, .bool false, .any, .int .i64 x'.at', .any] []), [(3, zf)]⟩) (fun z => z.2) (fun z => SX p s z.2 { x' with at' := z.1 } ∧ x'.at' ≤ z.1 ∧ z.1 ≤ s.size) (fun z => (s.size - z.1).toNat) (x'.at', g) ?_ ?_ rfl ⟨hx', Int.le_refl _, by dsimp only; omega⟩ ?_
            · simp (maxSteps := 4000000) only [go_sem, reduceIte, reduceCtorEq, Nat.reduceAdd, Nat.reduceSub, Nat.reduceMul, Nat.reduceLeDiff, Nat.reduceLT, Nat.reduceEqDiff, Nat.reduceBEq]
            · simp (maxSteps := 4000000) only [go_sem, reduceIte, reduceCtorEq, Nat.reduceAdd, Nat.reduceSub, Nat.reduceMul, Nat.reduceLeDiff, Nat.reduceLT, Nat.reduceEqDiff, Nat.reduceBEq]
            rintro ⟨a, g2⟩ ⟨hy, y1, y2⟩
            dsimp only at hy y1 y2 ⊢
            have hb2 := hy.blk
            have advw : ∀ (kd : Int) (_ : x'.at' < a) (v2 : AVal), Adv s x' { x' with at' := a, outv := v2, ts := x'.ts ++ [⟨kd, s.extract x'.at'.toNat a.toNat, x'.at'⟩] } := fun kd hxa v2 => ⟨Nat.le_succ _, rfl, y1, y2, fun _ => hxa, by simp, fun t ht => by
              simp only [List.mem_append, List.mem_singleton] at ht
              rcases ht with ht | rfl
              · exact .inl ht
              · exact .inr (by simp only [ByteArray.size_extract]; omega)⟩
            refine rd_ok hMix (κ := κS) δS _ (by decide +kernel) ?_
            by_cases ha : a < s.size
            · have w1 : IntKind.wrap .i64 (a + 1) = a + 1 := wrapS hs (by omega) (by omega)
              obtain ⟨d, hd⟩ := strIndex_has (s := s) (i := a) (by omega) ha
              simp (maxSteps := 4000000) only [go_sem, reduceIte, reduceCtorEq, Nat.reduceAdd, Nat.reduceSub, Nat.reduceMul, Nat.reduceLeDiff, Nat.reduceLT, Nat.reduceEqDiff, Nat.reduceBEq, δS, κS, hb2, ha, hd]
              refine callBy cb25 (c_letter ?_)
              cases hld : letB d <;> simp (maxSteps := 4000000) only [go_sem, reduceIte, reduceCtorEq, Nat.reduceAdd, Nat.reduceSub, Nat.reduceMul, Nat.reduceLeDiff, Nat.reduceLT, Nat.reduceEqDiff, Nat.reduceBEq, δS, κS, hb2, ha, hd, w1]
              · have hxa : x'.at' < a := by
                  rcases Int.lt_or_eq_of_le y1 with e | e
                  · exact e
                  · exfalso
                    rw [← e, hc'] at hd
                    cases hd
                    rw [hlet] at hld; cases hld
                refine callBy cb26 (c_digit ?_)
                cases hdd : digB d <;> simp (maxSteps := 4000000) only [go_sem, reduceIte, reduceCtorEq, Nat.reduceAdd, Nat.reduceSub, Nat.reduceMul, Nat.reduceLeDiff, Nat.reduceLT, Nat.reduceEqDiff, Nat.reduceBEq, δS, κS, hb2, ha, hd, w1]
                ·
                  refine QCallK.of cb28 (fun h hh => words_q _ h hh) ?_
                  simp (maxSteps := 4000000) only [go_sem, reduceIte, reduceCtorEq, Nat.reduceAdd, Nat.reduceSub, Nat.reduceMul, Nat.reduceLeDiff, Nat.reduceLT, Nat.reduceEqDiff, Nat.reduceBEq, δS, κS, hb2, f0, y1, y2]
                  refine callBy cb27 (c_among (.inr ⟨none, rfl⟩) (by simp [wordsL]) fun i _ _ => ?_)
                  simp (maxSteps := 4000000) only [go_sem, reduceIte, reduceCtorEq, Nat.reduceAdd, Nat.reduceSub, Nat.reduceMul, Nat.reduceLeDiff, Nat.reduceLT, Nat.reduceEqDiff, Nat.reduceBEq, δS, κS, hb2, f0, y1, y2]
                  refine ⟨fun _ => ?_, fun _ => ?_⟩
                  ·
                    refine callBy cb21 (c_xput hy (by dsimp only; omega) fun h2 v2 hx2 => ?_)
                    simp (maxSteps := 4000000) only [go_sem, reduceIte, reduceCtorEq, Nat.reduceAdd, Nat.reduceSub, Nat.reduceMul, Nat.reduceLeDiff, Nat.reduceLT, Nat.reduceEqDiff, Nat.reduceBEq]
                    have adv : Adv s x' _ := advw 4 hxa v2
                    exact ⟨⟨_, start, false, h2⟩, rfl, rfl, ⟨hx2, SG.adv sg.st0 (by rw [e1]; exact sg.st1) b0 txt (by rw [e1]; exact cnt) (by rw [e1]; exact os) adv⟩, mu_lt hbad0 (by have := adv.at0; first | omega | (dsimp only; omega) | (dsimp only at *; omega)) adv.at1 (fun e => by have := adv.go e; first | omega | (dsimp only; omega) | (dsimp only at *; omega))⟩
                  ·
                    refine callBy cb21 (c_xput hy (by dsimp only; omega) fun h2 v2 hx2 => ?_)
                    simp (maxSteps := 4000000) only [go_sem, reduceIte, reduceCtorEq, Nat.reduceAdd, Nat.reduceSub, Nat.reduceMul, Nat.reduceLeDiff, Nat.reduceLT, Nat.reduceEqDiff, Nat.reduceBEq]
                    have adv : Adv s x' _ := advw 1 hxa v2
                    exact ⟨⟨_, start, false, h2⟩, rfl, rfl, ⟨hx2, SG.adv sg.st0 (by rw [e1]; exact sg.st1) b0 txt (by rw [e1]; exact cnt) (by rw [e1]; exact os) adv⟩, mu_lt hbad0 (by have := adv.at0; first | omega | (dsimp only; omega) | (dsimp only at *; omega)) adv.at1 (fun e => by have := adv.go e; first | omega | (dsimp only; omega) | (dsimp only at *; omega))⟩
                · exact ⟨⟨a + 1, _⟩, rfl, ⟨hy.set (a + 1) x'.line x'.bad, by dsimp only; omega, by dsimp only; omega⟩, by dsimp only; omega⟩
              · exact ⟨⟨a + 1, _⟩, rfl, ⟨hy.set (a + 1) x'.line x'.bad, by dsimp only; omega, by dsimp only; omega⟩, by dsimp only; omega⟩
            · have hxa : x'.at' < a := by omega
              simp (maxSteps := 4000000) only [go_sem, reduceIte, reduceCtorEq, Nat.reduceAdd, Nat.reduceSub, Nat.reduceMul, Nat.reduceLeDiff, Nat.reduceLT, Nat.reduceEqDiff, Nat.reduceBEq, δS, κS, hb2, ha]
              refine QCallK.of cb28 (fun h hh => words_q _ h hh) ?_
              simp (maxSteps := 4000000) only [go_sem, reduceIte, reduceCtorEq, Nat.reduceAdd, Nat.reduceSub, Nat.reduceMul, Nat.reduceLeDiff, Nat.reduceLT, Nat.reduceEqDiff, Nat.reduceBEq, δS, κS, hb2, f0, y1, y2]
              refine callBy cb27 (c_among (.inr ⟨none, rfl⟩) (by simp [wordsL]) fun i _ _ => ?_)
              simp (maxSteps := 4000000) only [go_sem, reduceIte, reduceCtorEq, Nat.reduceAdd, Nat.reduceSub, Nat.reduceMul, Nat.reduceLeDiff, Nat.reduceLT, Nat.reduceEqDiff, Nat.reduceBEq, δS, κS, hb2, f0, y1, y2]
              refine ⟨fun _ => ?_, fun _ => ?_⟩
              ·
                refine callBy cb21 (c_xput hy (by dsimp only; omega) fun h2 v2 hx2 => ?_)
                simp (maxSteps := 4000000) only [go_sem, reduceIte, reduceCtorEq, Nat.reduceAdd, Nat.reduceSub, Nat.reduceMul, Nat.reduceLeDiff, Nat.reduceLT, Nat.reduceEqDiff, Nat.reduceBEq]
                have adv : Adv s x' _ := advw 4 hxa v2
                exact ⟨⟨_, start, false, h2⟩, rfl, rfl, ⟨hx2, SG.adv sg.st0 (by rw [e1]; exact sg.st1) b0 txt (by rw [e1]; exact cnt) (by rw [e1]; exact os) adv⟩, mu_lt hbad0 (by have := adv.at0; first | omega | (dsimp only; omega) | (dsimp only at *; omega)) adv.at1 (fun e => by have := adv.go e; first | omega | (dsimp only; omega) | (dsimp only at *; omega))⟩
              ·
                refine callBy cb21 (c_xput hy (by dsimp only; omega) fun h2 v2 hx2 => ?_)
                simp (maxSteps := 4000000) only [go_sem, reduceIte, reduceCtorEq, Nat.reduceAdd, Nat.reduceSub, Nat.reduceMul, Nat.reduceLeDiff, Nat.reduceLT, Nat.reduceEqDiff, Nat.reduceBEq]
                have adv : Adv s x' _ := advw 1 hxa v2
                exact ⟨⟨_, start, false, h2⟩, rfl, rfl, ⟨hx2, SG.adv sg.st0 (by rw [e1]; exact sg.st1) b0 txt (by rw [e1]; exact cnt) (by rw [e1]; exact os) adv⟩, mu_lt hbad0 (by have := adv.at0; first | omega | (dsimp only; omega) | (dsimp only at *; omega)) adv.at1 (fun e => by have := adv.go e; first | omega | (dsimp only; omega) | (dsimp only at *; omega))⟩
      have w1 : IntKind.wrap .i64 (x.at' + 1) = x.at' + 1 := wrapS hs (by omega) (by omega)
      by_cases k10 : c = 10
      · subst k10
        by_cases ho : (x.os.length : Int) = 0
        · cases hline : x.line
          · simp (maxSteps := 4000000) only [go_sem, reduceIte, reduceCtorEq, Nat.reduceAdd, Nat.reduceSub, Nat.reduceMul, Nat.reduceLeDiff, Nat.reduceLT, Nat.reduceEqDiff, Nat.reduceBEq, δS, κS, hb, hlt, hbad0, hc, Int.reduceEq, w1, ho, hx.opn.fits, hx.opn.len, hline]
            exact ⟨⟨_, x.at' + 1, true, _⟩, rfl, rfl, ⟨hx.set (x.at' + 1) false x.bad, ⟨by first | omega | (dsimp only; omega) | (dsimp only at *; omega), by first | omega | (dsimp only; omega) | (dsimp only at *; omega), by first | omega | (dsimp only; omega) | (dsimp only at *; omega), sg.b0, sg.txt, fun e => ⟨by first | omega | (dsimp only; omega) | (dsimp only at *; omega), by first | omega | (dsimp only; omega) | (dsimp only at *; omega)⟩⟩⟩, mu_lt hbad0 (by first | omega | (dsimp only; omega) | (dsimp only at *; omega)) (by first | omega | (dsimp only; omega) | (dsimp only at *; omega)) (fun _ => by first | omega | (dsimp only; omega) | (dsimp only at *; omega))⟩
          · simp (maxSteps := 4000000) only [go_sem, reduceIte, reduceCtorEq, Nat.reduceAdd, Nat.reduceSub, Nat.reduceMul, Nat.reduceLeDiff, Nat.reduceLT, Nat.reduceEqDiff, Nat.reduceBEq, δS, κS, hb, hlt, hbad0, hc, Int.reduceEq, w1, ho, hx.opn.fits, hx.opn.len, hline]
            refine callBy cb21 (c_xput hx (by omega) fun h2 v2 hx2 => ?_)
            have hb2 := hx2.blk
            simp (maxSteps := 4000000) only [go_sem, reduceIte, reduceCtorEq, Nat.reduceAdd, Nat.reduceSub, Nat.reduceMul, Nat.reduceLeDiff, Nat.reduceLT, Nat.reduceEqDiff, Nat.reduceBEq, δS, κS, hb2, w1]
            exact ⟨⟨_, x.at' + 1, true, _⟩, rfl, rfl, ⟨hx2.set (x.at' + 1) false x.bad, ⟨by first | omega | (dsimp only; omega) | (dsimp only at *; omega), by first | omega | (dsimp only; omega) | (dsimp only at *; omega), by first | omega | (dsimp only; omega) | (dsimp only at *; omega), sg.b0, fun t ht => (List.mem_append.1 ht).elim (sg.txt t) fun e => by simp at e; subst e; exact Nat.zero_le _, fun e => ⟨by simp; omega, by dsimp only; omega⟩⟩⟩, mu_lt hbad0 (by first | omega | (dsimp only; omega) | (dsimp only at *; omega)) (by first | omega | (dsimp only; omega) | (dsimp only at *; omega)) (fun _ => by first | omega | (dsimp only; omega) | (dsimp only at *; omega))⟩
        · simp (maxSteps := 4000000) only [go_sem, reduceIte, reduceCtorEq, Nat.reduceAdd, Nat.reduceSub, Nat.reduceMul, Nat.reduceLeDiff, Nat.reduceLT, Nat.reduceEqDiff, Nat.reduceBEq, δS, κS, hb, hlt, hbad0, hc, Int.reduceEq, w1, ho, hx.opn.fits, hx.opn.len]
          exact ⟨⟨_, x.at' + 1, true, _⟩, rfl, rfl, ⟨hx.set (x.at' + 1) x.line x.bad, ⟨by first | omega | (dsimp only; omega) | (dsimp only at *; omega), by first | omega | (dsimp only; omega) | (dsimp only at *; omega), by first | omega | (dsimp only; omega) | (dsimp only at *; omega), sg.b0, sg.txt, fun e => ⟨by first | omega | (dsimp only; omega) | (dsimp only at *; omega), by first | omega | (dsimp only; omega) | (dsimp only at *; omega)⟩⟩⟩, mu_lt hbad0 (by first | omega | (dsimp only; omega) | (dsimp only at *; omega)) (by first | omega | (dsimp only; omega) | (dsimp only at *; omega)) (fun _ => by first | omega | (dsimp only; omega) | (dsimp only at *; omega))⟩
      by_cases k32 : c = 32
      · subst k32
        simp (maxSteps := 4000000) only [go_sem, reduceIte, reduceCtorEq, Nat.reduceAdd, Nat.reduceSub, Nat.reduceMul, Nat.reduceLeDiff, Nat.reduceLT, Nat.reduceEqDiff, Nat.reduceBEq, δS, κS, hb, hlt, hbad0, hc, Int.reduceEq, w1]
        exact ⟨⟨_, start, blank, _⟩, rfl, rfl, ⟨hx.set (x.at' + 1) x.line x.bad, ⟨by first | omega | (dsimp only; omega) | (dsimp only at *; omega), by first | omega | (dsimp only; omega) | (dsimp only at *; omega), by first | omega | (dsimp only; omega) | (dsimp only at *; omega), sg.b0, sg.txt, fun e => ⟨by first | omega | (dsimp only; omega) | (dsimp only at *; omega), by first | omega | (dsimp only; omega) | (dsimp only at *; omega)⟩⟩⟩, mu_lt hbad0 (by first | omega | (dsimp only; omega) | (dsimp only at *; omega)) (by first | omega | (dsimp only; omega) | (dsimp only at *; omega)) (fun _ => by first | omega | (dsimp only; omega) | (dsimp only at *; omega))⟩
      by_cases k35 : c = 35
      · subst k35
        simp (maxSteps := 4000000) only [go_sem, reduceIte, reduceCtorEq, Nat.reduceAdd, Nat.reduceSub, Nat.reduceMul, Nat.reduceLeDiff, Nat.reduceLT, Nat.reduceEqDiff, Nat.reduceBEq, δS, κS, hb, hlt, hbad0, hc, Int.reduceEq, w1]
        refine AWp.loop_mf 10 [true, false, true, true, true, true, true, false, false, false] [3] (fun z : Int × Int × AHeap => ⟨(mkF 329 10 [.str s, .any, .nilSlice, .loc 3 0, .ptr p 0, .int .i64 start, .bool blank, .any, .any, .any] []), [(3, zf)]⟩) (fun z => z.2.2) (fun z => SX p s z.2.2 { x with at' := z.1, bad := z.2.1 } ∧ x.at' ≤ z.1 ∧ z.1 ≤ s.size ∧ (z.1 = x.at' → z.2.1 < 0)) (fun z => (s.size - z.1).toNat) (x.at', x.bad, g) ?_ ?_ rfl ⟨hx, Int.le_refl _, by dsimp only; omega, fun _ => hbad0⟩ ?_
        · simp (maxSteps := 4000000) only [go_sem, reduceIte, reduceCtorEq, Nat.reduceAdd, Nat.reduceSub, Nat.reduceMul, Nat.reduceLeDiff, Nat.reduceLT, Nat.reduceEqDiff, Nat.reduceBEq]
        · simp (maxSteps := 4000000) only [go_sem, reduceIte, reduceCtorEq, Nat.reduceAdd, Nat.reduceSub, Nat.reduceMul, Nat.reduceLeDiff, Nat.reduceLT, Nat.reduceEqDiff, Nat.reduceBEq]
        rintro ⟨a, bd, g2⟩ ⟨hy, y1, y2, y3⟩
        dsimp only at hy y1 y2 y3 ⊢
        have hb2 := hy.blk
        refine rd_ok hMix (κ := κS) δS _ (by decide +kernel) ?_
        have out : (bd < 0 → x.at' < a) → SG s { x with at' := a, bad := bd } start ∧ muS s { x with at' := a, bad := bd } < muS s x := fun ho =>
          ⟨⟨g0, by dsimp only; omega, y2, sg.b0, sg.txt, fun e => ⟨by dsimp only; omega, by dsimp only; omega⟩⟩, mu_lt hbad0 y1 y2 ho⟩
        by_cases ha : a < s.size
        · have w2 : IntKind.wrap .i64 (a + 1) = a + 1 := wrapS hs (by omega) (by omega)
          obtain ⟨d, hd⟩ := strIndex_has (s := s) (i := a) (by omega) ha
          by_cases d10 : d = 10
          · subst d10
            have hxa : x.at' < a := by
              rcases Int.lt_or_eq_of_le y1 with e | e
              · exact e
              · exfalso; rw [← e, hc] at hd; cases hd
            simp (maxSteps := 4000000) only [go_sem, reduceIte, reduceCtorEq, Nat.reduceAdd, Nat.reduceSub, Nat.reduceMul, Nat.reduceLeDiff, Nat.reduceLT, Nat.reduceEqDiff, Nat.reduceBEq, δS, κS, hb2, ha, hd, Int.reduceEq]
            exact ⟨⟨_, start, blank, g2⟩, rfl, rfl, ⟨hy, (out fun _ => hxa).1⟩, (out fun _ => hxa).2⟩
          · by_cases hbd : bd < 0
            · by_cases b1 : d < 32
              · simp (maxSteps := 4000000) only [go_sem, reduceIte, reduceCtorEq, Nat.reduceAdd, Nat.reduceSub, Nat.reduceMul, Nat.reduceLeDiff, Nat.reduceLT, Nat.reduceEqDiff, Nat.reduceBEq, δS, κS, hb2, ha, hd, d10, hbd, b1]
                refine callBy cb22 (c_xfail hy fun h3 b3 hx3 c1 c2 => ?_)
                have hb3 := hx3.blk
                simp (maxSteps := 4000000) only [go_sem, reduceIte, reduceCtorEq, Nat.reduceAdd, Nat.reduceSub, Nat.reduceMul, Nat.reduceLeDiff, Nat.reduceLT, Nat.reduceEqDiff, Nat.reduceBEq, δS, κS, hb3, w2]
                exact ⟨⟨a + 1, b3, _⟩, rfl, ⟨hx3.set (a + 1) x.line b3, by dsimp only; omega, by dsimp only; omega, fun e => by dsimp only at e; omega⟩, by dsimp only; omega⟩
              · by_cases b2 : d = 127
                · subst b2
                  simp (maxSteps := 4000000) only [go_sem, reduceIte, reduceCtorEq, Nat.reduceAdd, Nat.reduceSub, Nat.reduceMul, Nat.reduceLeDiff, Nat.reduceLT, Nat.reduceEqDiff, Nat.reduceBEq, δS, κS, hb2, ha, hd, hbd, Int.reduceEq, Int.reduceLT]
                  refine callBy cb22 (c_xfail hy fun h3 b3 hx3 c1 c2 => ?_)
                  have hb3 := hx3.blk
                  simp (maxSteps := 4000000) only [go_sem, reduceIte, reduceCtorEq, Nat.reduceAdd, Nat.reduceSub, Nat.reduceMul, Nat.reduceLeDiff, Nat.reduceLT, Nat.reduceEqDiff, Nat.reduceBEq, δS, κS, hb3, w2]
                  exact ⟨⟨a + 1, b3, _⟩, rfl, ⟨hx3.set (a + 1) x.line b3, by dsimp only; omega, by dsimp only; omega, fun e => by dsimp only at e; omega⟩, by dsimp only; omega⟩
                · simp (maxSteps := 4000000) only [go_sem, reduceIte, reduceCtorEq, Nat.reduceAdd, Nat.reduceSub, Nat.reduceMul, Nat.reduceLeDiff, Nat.reduceLT, Nat.reduceEqDiff, Nat.reduceBEq, δS, κS, hb2, ha, hd, d10, hbd, b1, b2, w2]
                  exact ⟨⟨a + 1, bd, _⟩, rfl, ⟨hy.set (a + 1) x.line bd, by dsimp only; omega, by dsimp only; omega, fun e => by dsimp only at e; omega⟩, by dsimp only; omega⟩
            · simp (maxSteps := 4000000) only [go_sem, reduceIte, reduceCtorEq, Nat.reduceAdd, Nat.reduceSub, Nat.reduceMul, Nat.reduceLeDiff, Nat.reduceLT, Nat.reduceEqDiff, Nat.reduceBEq, δS, κS, hb2, ha, hd, d10, hbd]
              exact ⟨⟨_, start, blank, g2⟩, rfl, rfl, ⟨hy, (out fun e => absurd e hbd).1⟩, (out fun e => absurd e hbd).2⟩
        · simp (maxSteps := 4000000) only [go_sem, reduceIte, reduceCtorEq, Nat.reduceAdd, Nat.reduceSub, Nat.reduceMul, Nat.reduceLeDiff, Nat.reduceLT, Nat.reduceEqDiff, Nat.reduceBEq, δS, κS, hb2, ha]
          exact ⟨⟨_, start, blank, g2⟩, rfl, rfl, ⟨hy, (out fun _ => by omega).1⟩, (out fun _ => by omega).2⟩
      cases hline : x.line
      · by_cases ho : (x.os.length : Int) = 0
        · cases blank
          · simp (maxSteps := 4000000) only [go_sem, reduceIte, reduceCtorEq, Nat.reduceAdd, Nat.reduceSub, Nat.reduceMul, Nat.reduceLeDiff, Nat.reduceLT, Nat.reduceEqDiff, Nat.reduceBEq, δS, κS, hb, hlt, hbad0, hc, Int.reduceEq, w1, k10, k32, k35, ho, hx.opn.fits, hx.opn.len, hline]
            exact rest x g _ _ _ _ _ ⟨hx, rfl, sg.b0, sg.txt, by omega, g4⟩
          · simp (maxSteps := 4000000) only [go_sem, reduceIte, reduceCtorEq, Nat.reduceAdd, Nat.reduceSub, Nat.reduceMul, Nat.reduceLeDiff, Nat.reduceLT, Nat.reduceEqDiff, Nat.reduceBEq, δS, κS, hb, hlt, hbad0, hc, Int.reduceEq, w1, k10, k32, k35, ho, hx.opn.fits, hx.opn.len, hline, g0]
            refine callBy cb23 (c_starts fun v => ?_)
            have w3 : IntKind.wrap .i64 (x.at' - start) = x.at' - start := wrapS hs (by omega) (by omega)
            cases v <;> simp (maxSteps := 4000000) only [go_sem, reduceIte, reduceCtorEq, Nat.reduceAdd, Nat.reduceSub, Nat.reduceMul, Nat.reduceLeDiff, Nat.reduceLT, Nat.reduceEqDiff, Nat.reduceBEq, δS, κS, hb, w3]
            · refine callBy cb22 (c_xfail hx fun h3 b3 hx3 c1 c2 => ?_)
              simp (maxSteps := 4000000) only [go_sem, reduceIte, reduceCtorEq, Nat.reduceAdd, Nat.reduceSub, Nat.reduceMul, Nat.reduceLeDiff, Nat.reduceLT, Nat.reduceEqDiff, Nat.reduceBEq]
              exact tail _ _ _ _ _ _ _ _ _ ⟨hx3, sg.b0, sg.txt, fun e => by dsimp only at e; omega⟩
            · refine callBy cb24 (c_begin hx (by omega) sg.b0 (by omega) fun h2 x2 hx2 e1 e2 e3 e4 e5 => ?_)
              have hb2 := hx2.blk
              simp (maxSteps := 4000000) only [go_sem, reduceIte, reduceCtorEq, Nat.reduceAdd, Nat.reduceSub, Nat.reduceMul, Nat.reduceLeDiff, Nat.reduceLT, Nat.reduceEqDiff, Nat.reduceBEq, δS, κS, hb2]
              exact rest _ _ _ _ _ _ _ ⟨hx2.set x2.at' true x2.bad, e1, e3, fun t ht => (e5 t ht).elim (sg.txt t) fun e => by rw [e]; exact Nat.zero_le _, by dsimp only; omega, by dsimp only; rw [e2]; omega⟩
        · simp (maxSteps := 4000000) only [go_sem, reduceIte, reduceCtorEq, Nat.reduceAdd, Nat.reduceSub, Nat.reduceMul, Nat.reduceLeDiff, Nat.reduceLT, Nat.reduceEqDiff, Nat.reduceBEq, δS, κS, hb, hlt, hbad0, hc, Int.reduceEq, w1, k10, k32, k35, ho, hx.opn.fits, hx.opn.len, hline]
          exact rest x g _ _ _ _ _ ⟨hx, rfl, sg.b0, sg.txt, by omega, g4⟩
      · simp (maxSteps := 4000000) only [go_sem, reduceIte, reduceCtorEq, Nat.reduceAdd, Nat.reduceSub, Nat.reduceMul, Nat.reduceLeDiff, Nat.reduceLT, Nat.reduceEqDiff, Nat.reduceBEq, δS, κS, hb, hlt, hbad0, hc, Int.reduceEq, w1, k10, k32, k35, hline]
        exact rest x g _ _ _ _ _ ⟨hx, rfl, sg.b0, sg.txt, by omega, g4⟩
    · simp (maxSteps := 4000000) only [go_sem, reduceIte, reduceCtorEq, Nat.reduceAdd, Nat.reduceSub, Nat.reduceMul, Nat.reduceLeDiff, Nat.reduceLT, Nat.reduceEqDiff, Nat.reduceBEq, δS, κS, hb, hlt, hbad0]
      exact tail x g _ _ _ _ _ _ _ ⟨hx, sg.b0, sg.txt, fun e => absurd e hbad0⟩
  · simp (maxSteps := 4000000) only [go_sem, reduceIte, reduceCtorEq, Nat.reduceAdd, Nat.reduceSub, Nat.reduceMul, Nat.reduceLeDiff, Nat.reduceLT, Nat.reduceEqDiff, Nat.reduceBEq, δS, κS, hb, hlt]
    exact tail x g _ _ _ _ _ _ _ ⟨hx, sg.b0, sg.txt, fun e => by have := sg.cnt e; have := sg.at1; omega⟩
end Go.Proofs.Ab5
end
