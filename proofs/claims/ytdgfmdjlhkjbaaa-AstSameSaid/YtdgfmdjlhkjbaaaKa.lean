/-
  The reference parser: the whole.
-/
import Derived.Test.YtdgfmdjlhkjbaaaGh
import Derived.Test.YtdgfmdjlhkjbaaaJf
set_option linter.all false
section
set_option maxRecDepth 10000
set_option maxHeartbeats 8000000
set_option linter.unusedSimpArgs false
set_option linter.unusedVariables false
namespace Go.Proofs.Ab5
open Go.Ab Go.Proofs
variable {s : ByteArray} {h : AHeap} {S : AVal → AHeap → Prop}
def δP : Nat → Nat × List (List Nat)
  | 3 => (2, [[11], []])
  | 9 => (8, [[], [], [], [], [], [], [], []])
  | 12 => (12, [[], [], [], [], [], [], [], [], [], [], [], []])
  | 13 => (5, [[], [], [], [], []])
  | _ => (0, [])
def κP : Tmp → Bool := fun t => t == 19 || t == 1000

theorem NV.loc {L : Nat → Bool} {nv : AVal} {ns : List Nd} (h : NV L nv ns) : nv.isLoc = false := by
  rcases h.val with ⟨rfl, _⟩ | ⟨ρ, rfl⟩ <;> rfl
/-- A tree's one root is its last node. -/
theorem FR.last {ns : List Nd} {r : Int} (h : FR ns [r]) : 0 < ns.length ∧ r = (ns.length : Int) - 1 := by
  have h1 := h.range (r := r) (by simp)
  have hpos : 0 < ns.length := by omega
  refine ⟨hpos, ?_⟩
  have hm : ((ns.length - 1 : Nat) : Int) ∈ ns.flatMap Nd.ks ++ [r] := h.perm.mem_iff.2 (List.mem_map.2 ⟨ns.length - 1, List.mem_range.2 (by omega), rfl⟩)
  rcases List.mem_append.1 hm with hm | hm
  · exfalso
    obtain ⟨nd, h2, h3⟩ := List.mem_flatMap.1 hm
    obtain ⟨i, hi, hnd⟩ := List.mem_iff_getElem.1 h2
    have := (h.kid i nd (by rw [List.getElem?_eq_getElem hi, hnd]) _ h3).2
    omega
  · simp at hm; omega

/-- What a parsed text's nodes are. -/
structure Nodes (v : AVal) (ns : List Nd) : Prop where
  val : ∃ ρ, v = .list ρ 5 (ns.map Nd.cells)
  kids : ∀ nd ∈ ns, Ints nd.kv nd.ks
  fr : FR ns [(ns.length : Int) - 1]
  pos : 0 < ns.length

theorem c_parse (hs : s.size ≤ 1000) (h1 : ∀ v ns code b e h', (code = 0 → Nodes v ns) → S (.tuple [v, .agg [.int .i64 code, .bool b, .int .i64 e, .bool false, .str .empty]]) h') :
    ACalls Try.prog 5 [.str s] h S := by
  refine acalls_mf 63 8 Try.func5 rfl rfl (Nat.le_of_ble_eq_true rfl) (rd_ok hMix (κ := κP) δP _ (by decide +kernel) ?_)
  simp (maxSteps := 4000000) only [go_sem, reduceIte, reduceCtorEq, Nat.reduceAdd, Nat.reduceSub, Nat.reduceMul, Nat.reduceLeDiff, Nat.reduceLT, Nat.reduceEqDiff, Nat.reduceBEq, Try.ntmps5, Try.f5, δP, κP]
  refine callBy cb11 (c_scan hs fun tv ts code b e h' ho => ?_)
  by_cases hc : code = 0
  · subst hc
    obtain ⟨tok, hpos, ρt, rfl⟩ := ho rfl
    have allS' := allS (ts := ts) (64 * ts.length + 200)
    simp (maxSteps := 4000000) only [go_sem, reduceIte, reduceCtorEq, Nat.reduceAdd, Nat.reduceSub, Nat.reduceMul, Nat.reduceLeDiff, Nat.reduceLT, Nat.reduceEqDiff, Nat.reduceBEq, δP, κP]
    intro p hp hpl
    have p0 : PI ts 0 .nilSlice [] 0 h'.live [] := ⟨tok, Int.le_refl _, by omega, ⟨.inl ⟨rfl, rfl⟩, fun _ h => (nomatch h)⟩, fun _ h => (nomatch h), fun _ => FR.nil⟩
    refine AWp.opaq (fun Q => ∀ (at1 : Int) (nv : AVal) (ns : List Nd) (deep : Int) (df lp tp : Bool) (code pos : Int) (L : Nat → Bool) (lv : AVal) (l : List Int) (v1 v4 v5 : AVal) (g : List (Nat × AVal)), (PI ts at1 nv ns code L (l ++ []) ∧ Acc L nv lv l ∧ (ns.length : Int) ≤ 2 * at1 ∧ (l.length : Int) ≤ at1 + 1) →
      Q (.exit 0) ⟨mkF 63 8 [.str s, v1, .nilSlice, .loc 3 0, v4, v5, .ptr p 0, lv] g, [(3, zf), (5, [.int .i64 0, .bool b, .int .i64 e, .bool false, .str .empty])]⟩ ⟨upd h'.blk p (some (pcells ρt ts at1 nv deep df lp tp code pos)), L⟩) ?_ fun Q tail => ?_
    · rintro at1 nv ns deep df lp tp code pos L lv l v1 v4 v5 g ⟨p1, a1, r1, l1⟩
      simp (maxSteps := 4000000) only [go_sem, reduceIte, reduceCtorEq, Nat.reduceAdd, Nat.reduceSub, Nat.reduceMul, Nat.reduceLeDiff, Nat.reduceLT, Nat.reduceEqDiff, Nat.reduceBEq, δP, κP]
      refine callBy cb12 (c_bad (fun e1 => ?_) (fun e1 => ?_)) <;> simp (maxSteps := 4000000) only [go_sem, reduceIte, reduceCtorEq, Nat.reduceAdd, Nat.reduceSub, Nat.reduceMul, Nat.reduceLeDiff, Nat.reduceLT, Nat.reduceEqDiff, Nat.reduceBEq, δP, κP, a1.ints.len, a1.ints.fits]
      · subst e1
        have g2 := p1.tok.most
        have g3 := p1.lt
        refine ⟨fun hz => ?_, fun hz => ?_⟩
        · have hl0 : l = [] := by cases l with | nil => rfl | cons _ _ => simp at hz; omega
          subst hl0
          refine callBy cb16 (c_put (ks := []) p1 (.inl ⟨rfl, rfl⟩) (by omega) fun r2 nv2 ns2 L2 p2 k2 c2 => ?_)
          simp (maxSteps := 4000000) only [go_sem, reduceIte, reduceCtorEq, Nat.reduceAdd, Nat.reduceSub, Nat.reduceMul, Nat.reduceLeDiff, Nat.reduceLT, Nat.reduceEqDiff, Nat.reduceBEq, δP, κP]
          intro n hn hL n2 hn2 hL2
          have p3 := p2.grow (Grow.upd n)
          have a3 := (a1.keep k2).grow (Grow.upd n)
          refine append_acc (ks := []) a3 p3.nodes.own hL2 [r2] (by simp) rfl (by decide) fun v4 L4 a4 k4 => ?_
          simp (maxSteps := 4000000) only [go_sem, reduceIte, reduceCtorEq, Nat.reduceAdd, Nat.reduceSub, Nat.reduceMul, Nat.reduceLeDiff, Nat.reduceLT, Nat.reduceEqDiff, Nat.reduceBEq, a4.ints.loc]
          have p4 := (p3.acc a3.ne k4).roots (R' := ([] ++ [r2]) ++ []) (by simp)
          obtain ⟨x0, xs, hx⟩ : ∃ x0 xs, (([] ++ [r2]) : List Int) = x0 :: xs := List.exists_cons_of_ne_nil (by simp)
          have rg := (p4.fr rfl).range (r := x0) (by rw [hx]; simp)
          obtain ⟨nd, hnd⟩ : ∃ nd, ns2[x0.toNat]? = some nd := ⟨_, List.getElem?_eq_getElem (by omega)⟩
          have hat0 := a4.ints.at (i := 0) (Int.le_refl 0) (k := x0) (by rw [hx]; rfl)
          have hat1 := p4.nodes.at rg.1 hnd
          simp (maxSteps := 4000000) only [go_sem, reduceIte, reduceCtorEq, Nat.reduceAdd, Nat.reduceSub, Nat.reduceMul, Nat.reduceLeDiff, Nat.reduceLT, Nat.reduceEqDiff, Nat.reduceBEq, δP, κP, hat0, hat1, Nd.cells, a4.ints.loc, a4.ints.one, p4.nodes.one, p4.nodes.loc]
          refine callBy cb16 (c_put (ks := ([] ++ [r2])) p4 a4.ints (by omega) fun r20 nv20 ns20 L20 p20 k20 c20 => ?_)
          have hl20 := p20.nodes.loc
          simp (maxSteps := 4000000) only [go_sem, reduceIte, reduceCtorEq, Nat.reduceAdd, Nat.reduceSub, Nat.reduceMul, Nat.reduceLeDiff, Nat.reduceLT, Nat.reduceEqDiff, Nat.reduceBEq, δP, κP, hl20, p20.nodes.one]
          refine QCallK.of cb17 (fun _ _ => none_ok) ?_
          simp (maxSteps := 4000000) only [go_sem, reduceIte, reduceCtorEq, Nat.reduceAdd, Nat.reduceSub, Nat.reduceMul, Nat.reduceLeDiff, Nat.reduceLT, Nat.reduceEqDiff, Nat.reduceBEq, δP, κP, hl20, p20.nodes.one]
          have hfr := p20.fr rfl
          obtain ⟨q1, q2⟩ := hfr.last
          subst q2
          exact h1 _ ns20 _ _ _ _ fun _ => ⟨p20.nodes.val.elim (fun e => by rw [e.2] at q1; exact absurd q1 (by simp)) fun ⟨ρ, e⟩ => ⟨some ρ, e⟩, p20.kids, hfr, q1⟩
        ·
          obtain ⟨x0, xs, hx⟩ : ∃ x0 xs, (l : List Int) = x0 :: xs := List.exists_cons_of_ne_nil (by intro e; rw [e] at hz; exact hz rfl)
          have rg := (p1.fr rfl).range (r := x0) (by rw [hx]; simp)
          obtain ⟨nd, hnd⟩ : ∃ nd, ns[x0.toNat]? = some nd := ⟨_, List.getElem?_eq_getElem (by omega)⟩
          have hat0 := a1.ints.at (i := 0) (Int.le_refl 0) (k := x0) (by rw [hx]; rfl)
          have hat1 := p1.nodes.at rg.1 hnd
          simp (maxSteps := 4000000) only [go_sem, reduceIte, reduceCtorEq, Nat.reduceAdd, Nat.reduceSub, Nat.reduceMul, Nat.reduceLeDiff, Nat.reduceLT, Nat.reduceEqDiff, Nat.reduceBEq, δP, κP, hat0, hat1, Nd.cells, a1.ints.loc, a1.ints.one, p1.nodes.one, p1.nodes.loc]
          refine callBy cb16 (c_put (ks := l) p1 a1.ints (by omega) fun r20 nv20 ns20 L20 p20 k20 c20 => ?_)
          have hl20 := p20.nodes.loc
          simp (maxSteps := 4000000) only [go_sem, reduceIte, reduceCtorEq, Nat.reduceAdd, Nat.reduceSub, Nat.reduceMul, Nat.reduceLeDiff, Nat.reduceLT, Nat.reduceEqDiff, Nat.reduceBEq, δP, κP, hl20, p20.nodes.one]
          refine QCallK.of cb17 (fun _ _ => none_ok) ?_
          simp (maxSteps := 4000000) only [go_sem, reduceIte, reduceCtorEq, Nat.reduceAdd, Nat.reduceSub, Nat.reduceMul, Nat.reduceLeDiff, Nat.reduceLT, Nat.reduceEqDiff, Nat.reduceBEq, δP, κP, hl20, p20.nodes.one]
          have hfr := p20.fr rfl
          obtain ⟨q1, q2⟩ := hfr.last
          subst q2
          exact h1 _ ns20 _ _ _ _ fun _ => ⟨p20.nodes.val.elim (fun e => by rw [e.2] at q1; exact absurd q1 (by simp)) fun ⟨ρ, e⟩ => ⟨some ρ, e⟩, p20.kids, hfr, q1⟩
      · refine callBy cb15 (c_placed fun b e => ?_)
        simp (maxSteps := 4000000) only [go_sem, reduceIte, reduceCtorEq, Nat.reduceAdd, Nat.reduceSub, Nat.reduceMul, Nat.reduceLeDiff, Nat.reduceLT, Nat.reduceEqDiff, Nat.reduceBEq]
        exact h1 _ [] _ _ _ _ (fun e => absurd e e1)
    refine AWp.loop_mf 8 [true, false, true, true, false, false, true, true] [3, 5] (fun x : LS => ⟨(mkF 63 8 [.str s, .any, .nilSlice, .loc 3 0, .any, .any, .ptr p 0, x.lv] []), [(3, zf), (5, [.int .i64 0, .bool b, .int .i64 e, .bool false, .str .empty])]⟩) (fun x => ⟨upd h'.blk p (some (pcells ρt ts x.at' x.nv x.deep x.df x.lp x.tp x.code x.pos)), x.L⟩)
      (fun x => PI ts x.at' x.nv x.ns x.code x.L x.l ∧ Acc x.L x.nv x.lv x.l ∧ (x.ns.length : Int) ≤ 2 * x.at' ∧ (x.l.length : Int) ≤ x.at' + 1 ∧ (x.code = 0 → (x.l.length : Int) ≤ x.at'))
      (fun x => 2 * (ts.length - x.at').toNat + (if x.code = 0 then 1 else 0)) ⟨0, 0, .nilSlice, [], 0, false, false, true, 0, 0, h'.live, .nilSlice, [], false⟩ ?_ ?_ rfl ⟨p0, Acc.nil _ _, by simp, by simp, fun _ => by simp⟩ ?_
    · simp (maxSteps := 4000000) only [go_sem, reduceIte, reduceCtorEq, Nat.reduceAdd, Nat.reduceSub, Nat.reduceMul, Nat.reduceLeDiff, Nat.reduceLT, Nat.reduceEqDiff, Nat.reduceBEq]
    · simp (maxSteps := 4000000) only [go_sem, reduceIte, reduceCtorEq, Nat.reduceAdd, Nat.reduceSub, Nat.reduceMul, Nat.reduceLeDiff, Nat.reduceLT, Nat.reduceEqDiff, Nat.reduceBEq]
    rintro ⟨a, at2, nv2, ns2, deep2, df2, lp2, tp2, code2, pos2, L2, lv2, l2, f2⟩ ⟨p2, a2, r2, l2', s2⟩
    dsimp only at p2 a2 r2 l2' s2 ⊢
    have g3 := p2.pos
    have g4 := p2.lt
    refine rd_ok hMix (κ := κP) δP _ (by decide +kernel) ?_
    simp (maxSteps := 4000000) only [go_sem, reduceIte, reduceCtorEq, Nat.reduceAdd, Nat.reduceSub, Nat.reduceMul, Nat.reduceLeDiff, Nat.reduceLT, Nat.reduceEqDiff, Nat.reduceBEq, δP, κP]
    refine callBy cb12 (c_bad (fun e2 => ?_) (fun e2 => ?_)) <;> simp (maxSteps := 4000000) only [go_sem, reduceIte, reduceCtorEq, Nat.reduceAdd, Nat.reduceSub, Nat.reduceMul, Nat.reduceLeDiff, Nat.reduceLT, Nat.reduceEqDiff, Nat.reduceBEq, δP, κP]
    · refine callBy cb13 (c_now p2 fun tok u1 u2 u3 => ?_)
      simp (maxSteps := 4000000) only [go_sem, reduceIte, reduceCtorEq, Nat.reduceAdd, Nat.reduceSub, Nat.reduceMul, Nat.reduceLeDiff, Nat.reduceLT, Nat.reduceEqDiff, Nat.reduceBEq, δP, κP]
      refine ⟨fun hk => ?_, fun hk => ?_⟩
      · refine callBy cb14 (allS'.statement p2 (by omega) (by omega) fun r8 at8 nv8 ns8 deep8 df8 lp8 tp8 code8 pos8 L8 p8 k8 m8 t8 c8 q8 => ?_)
        simp (maxSteps := 4000000) only [go_sem, reduceIte, reduceCtorEq, Nat.reduceAdd, Nat.reduceSub, Nat.reduceMul, Nat.reduceLeDiff, Nat.reduceLT, Nat.reduceEqDiff, Nat.reduceBEq, δP, κP]
        intro n hn hL n2 hn2 hL2
        have p9 := p8.grow (Grow.upd n)
        have a9 := (a2.keep k8).grow (Grow.upd n)
        refine append_acc (ks := l2) a9 p9.nodes.own hL2 [r8] (by simp; have := p2.tok.most; omega) rfl (by decide) fun v10 L10 a10 k10 => ?_
        simp (maxSteps := 4000000) only [go_sem, reduceIte, reduceCtorEq, Nat.reduceAdd, Nat.reduceSub, Nat.reduceMul, Nat.reduceLeDiff, Nat.reduceLT, Nat.reduceEqDiff, Nat.reduceBEq, a10.ints.loc]
        refine ⟨⟨0, at8, nv8, ns8, deep8, df8, lp8, tp8, code8, pos8, L10, v10, l2 ++ [r8], false⟩, rfl, rfl, ⟨(p9.acc a9.ne k10).roots (R' := l2 ++ [r8]) (List.perm_append_singleton r8 l2).symm, a10, ?_, ?_, ?_⟩, ?_⟩
        all_goals dsimp only
        · omega
        · have := s2 e2; simp; omega
        · intro e; have := s2 e2; have := q8 e; simp; omega
        · rw [if_pos e2]; split
          · rename_i h; have := q8 h; omega
          · omega
      · exact tail _ _ _ _ _ _ _ _ _ _ _ _ _ _ _ _ ⟨by rw [List.append_nil]; exact p2, a2, r2, l2'⟩
    · exact tail _ _ _ _ _ _ _ _ _ _ _ _ _ _ _ _ ⟨by rw [List.append_nil]; exact p2, a2, r2, l2'⟩
  · simp (maxSteps := 4000000) only [go_sem, reduceIte, reduceCtorEq, Nat.reduceAdd, Nat.reduceSub, Nat.reduceMul, Nat.reduceLeDiff, Nat.reduceLT, Nat.reduceEqDiff, Nat.reduceBEq, δP, κP, hc]
    exact h1 _ [] _ _ _ _ (fun e => absurd e hc)
end Go.Proofs.Ab5
end
