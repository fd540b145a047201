/-
  Small functions over nodes: bounds, a number below another, copies.
-/
import Derived.Test.YtdgfmdjlhkjbaaaKa
set_option linter.all false
section
set_option maxRecDepth 10000
set_option maxHeartbeats 8000000
set_option linter.unusedSimpArgs false
set_option linter.unusedVariables false
namespace Go.Proofs.Ab5
open Go.Ab Go.Proofs
variable {h : AHeap} {S : AVal → AHeap → Prop} {v : AVal} {ns : List Nd}

theorem wrapN {n : Nat} (hn : n ≤ 4294967296) : IntKind.wrap .i64 ((n : Int) + 1) = ((n + 1 : Nat) : Int) := by rw [wrap64] <;> omega

theorem c_tree6 {ρ : Option Nat} (hk : ∀ nd ∈ ns, Ints nd.kv nd.ks) (h1 : ∀ b, (b = true → ns.length ≤ 300 ∧ ∀ nd ∈ ns, nd.s.size ≤ 300) → S (.bool b) h) : ACalls Try.prog 6 [.list ρ 5 (ns.map Nd.cells)] h S := by
  refine acalls_mf 25 4 Try.func6 rfl rfl (Nat.le_of_ble_eq_true rfl) (rd_ok hMix (κ := fun _ => false) δ0 _ (by decide +kernel) ?_)
  simp (maxSteps := 4000000) only [go_sem, reduceIte, reduceCtorEq, Nat.reduceAdd, Nat.reduceSub, Nat.reduceMul, Nat.reduceLeDiff, Nat.reduceLT, Nat.reduceEqDiff, Nat.reduceBEq, Try.ntmps6, Try.f6, List.length_map]
  refine ⟨fun _ => h1 _ (fun e => nomatch e), fun hle => ?_⟩
  refine AWp.loop_mf 4 [true, false, false, true] [] (fun i : Nat => ⟨(mkF 25 4 [.list ρ 5 (ns.map Nd.cells), .any, .any, .int .i64 i] []), []⟩) (fun _ => h) (fun i => i ≤ ns.length ∧ ∀ (j : Nat) nd, j < i → ns[j]? = some nd → nd.s.size ≤ 300) (fun i => ns.length - i) 0 ?_ ?_ rfl ⟨Nat.zero_le _, fun j nd hj => absurd hj (by omega)⟩ ?_
  · simp (maxSteps := 4000000) only [go_sem, reduceIte, reduceCtorEq, Nat.reduceAdd, Nat.reduceSub, Nat.reduceMul, Nat.reduceLeDiff, Nat.reduceLT, Nat.reduceEqDiff, Nat.reduceBEq]
  · simp (maxSteps := 4000000) only [go_sem, reduceIte, reduceCtorEq, Nat.reduceAdd, Nat.reduceSub, Nat.reduceMul, Nat.reduceLeDiff, Nat.reduceLT, Nat.reduceEqDiff, Nat.reduceBEq]
    rfl
  rintro i ⟨hi, hs⟩
  refine rd_ok hMix (κ := fun _ => false) δ0 _ (by decide +kernel) ?_
  by_cases hlt : (i : Int) < ns.length
  · obtain ⟨nd, hnd⟩ : ∃ nd, ns[i]? = some nd := ⟨_, List.getElem?_eq_getElem (by omega)⟩
    have hm : (ns.map Nd.cells)[i]? = some nd.cells := by rw [List.getElem?_map, hnd]; rfl
    have hi0 : (0 : Int) ≤ i := Int.natCast_nonneg i
    have hk' := hk nd (List.mem_of_getElem? hnd)
    have hw := wrapN (n := i) (by omega)
    simp (maxSteps := 4000000) only [go_sem, reduceIte, reduceCtorEq, Nat.reduceAdd, Nat.reduceSub, Nat.reduceMul, Nat.reduceLeDiff, Nat.reduceLT, Nat.reduceEqDiff, Nat.reduceBEq, List.length_map, hlt, hi0, Int.toNat_natCast, hm, Nd.cells, hk'.len, hk'.fits]
    refine ⟨fun _ => h1 _ (fun e => nomatch e), fun _ => ⟨fun _ => h1 _ (fun e => nomatch e), fun hs2 => ?_⟩⟩
    simp (maxSteps := 4000000) only [go_sem, reduceIte, reduceCtorEq, Nat.reduceAdd, Nat.reduceSub, Nat.reduceMul, Nat.reduceLeDiff, Nat.reduceLT, Nat.reduceEqDiff, Nat.reduceBEq, hw]
    refine ⟨i + 1, rfl, ⟨by omega, fun j nd' hj hj' => ?_⟩, by omega⟩
    by_cases e : j = i
    · subst e; rw [hnd] at hj'; cases hj'; omega
    · exact hs j nd' (by omega) hj'
  · simp (maxSteps := 4000000) only [go_sem, reduceIte, reduceCtorEq, Nat.reduceAdd, Nat.reduceSub, Nat.reduceMul, Nat.reduceLeDiff, Nat.reduceLT, Nat.reduceEqDiff, Nat.reduceBEq, List.length_map, hlt]
    refine h1 _ fun _ => ⟨by omega, fun nd hm => ?_⟩
    obtain ⟨j, hj, rfl⟩ := List.mem_iff_getElem.1 hm
    exact hs j _ (by omega) (List.getElem?_eq_getElem hj)

theorem c_number9 {n : Int} {k : Nat} (hk : 0 < k) (hk2 : k ≤ 1000000) (h1 : ∀ i : Nat, i < k → S (.int .i64 i) h) : ACalls Try.prog 9 [.int .i64 n, .int .i64 k] h S := by
  refine acalls_mf 7 5 Try.func9 rfl rfl (Nat.le_of_ble_eq_true rfl) (rd_ok hMix (κ := fun _ => false) δ0 _ (by decide +kernel) ?_)
  have hk0 : ¬ ((k : Int) = 0) := by omega
  have b1 : -(k : Int) < n.tmod k := by
    have := Int.lt_tmod_of_pos n (show (0 : Int) < k by omega); omega
  have b2 : n.tmod k < k := Int.tmod_lt_of_pos n (by omega)
  have hw : IntKind.wrap .i64 (n.tmod k + k) = n.tmod k + k := by rw [wrap64] <;> omega
  have b3 : 0 ≤ (n.tmod k + k).tmod k := Int.tmod_nonneg _ (by omega)
  have b4 : (n.tmod k + k).tmod k < k := Int.tmod_lt_of_pos _ (by omega)
  simp (maxSteps := 4000000) only [go_sem, reduceIte, reduceCtorEq, Nat.reduceAdd, Nat.reduceSub, Nat.reduceMul, Nat.reduceLeDiff, Nat.reduceLT, Nat.reduceEqDiff, Nat.reduceBEq, Try.ntmps9, Try.f9, hk0, hw]
  have := h1 ((n.tmod k + k).tmod k).toNat (by omega)
  rwa [Int.toNat_of_nonneg b3] at this

theorem ints_q {kv : AVal} {ks : List Int} (hk : Ints kv ks) (hl : ks.length ≤ 1000000) (blk : Nat → Option (List AVal)) : QCall Try.prog 18 [kv] blk (.list none 1 (icells ks)) := by
  intro h hb
  refine ACalls.weaken (R := fun r h' => ∃ n L, r = .list (some n) 1 (icells ks) ∧ h' = ⟨h.blk, L⟩ ∧ Grow h.live L) ?_ ?_
  · refine acalls_mf 17 5 Try.func18 rfl rfl (Nat.le_of_ble_eq_true rfl) (rd_ok hMix (κ := fun _ => false) δ0 _ (by decide +kernel) ?_)
    simp (maxSteps := 4000000) only [go_sem, reduceIte, reduceCtorEq, Nat.reduceAdd, Nat.reduceSub, Nat.reduceMul, Nat.reduceLeDiff, Nat.reduceLT, Nat.reduceEqDiff, Nat.reduceBEq, Try.ntmps18, Try.f18, hk.len, hk.fits, hk.loc]
    intro n hn hL
    refine ⟨⟨Int.le_refl _, Int.natCast_nonneg _, by omega⟩, ?_⟩
    refine AWp.loop_mf 5 [true, false, false, true, true] [] (fun x : Nat × AVal × (Nat → Bool) => ⟨(mkF 17 5 [kv, .any, .any, x.2.1, .int .i64 x.1] []), []⟩) (fun x => ⟨h.blk, x.2.2⟩)
      (fun x => x.1 ≤ ks.length ∧ Acc x.2.2 .nilSlice x.2.1 (ks.take x.1) ∧ Fr h.live .nilSlice x.2.1 ∧ Keep h.live .nilSlice x.2.2 .nilSlice ∧ ∃ m, x.2.1 = .list (some m) 1 (icells (ks.take x.1))) (fun x => ks.length - x.1) (0, .list (some n) 1 [], upd h.live n true) ?_ ?_ rfl
      ⟨Nat.zero_le _, Acc.new (ks := []) (fun _ h => nomatch h) hL, Fr.new (Keep.refl _ _) hL, (Grow.upd n).keep, n, rfl⟩ ?_
    · simp (maxSteps := 4000000) only [go_sem, reduceIte, reduceCtorEq, Nat.reduceAdd, Nat.reduceSub, Nat.reduceMul, Nat.reduceLeDiff, Nat.reduceLT, Nat.reduceEqDiff, Nat.reduceBEq, hk.loc]
    · simp (maxSteps := 4000000) only [go_sem, reduceIte, reduceCtorEq, Nat.reduceAdd, Nat.reduceSub, Nat.reduceMul, Nat.reduceLeDiff, Nat.reduceLT, Nat.reduceEqDiff, Nat.reduceBEq]
      rfl
    rintro ⟨i, ov, L⟩ ⟨hi, ha, hf, hkp, m, hm⟩
    dsimp only at hi ha hf hkp hm ⊢
    refine rd_ok hMix (κ := fun _ => false) δ0 _ (by decide +kernel) ?_
    by_cases hlt : (i : Int) < ks.length
    · obtain ⟨k, hki⟩ : ∃ k, ks[i]? = some k := ⟨_, List.getElem?_eq_getElem (by omega)⟩
      have hat := hk.at (i := (i : Int)) (Int.natCast_nonneg i) (k := k) (by simpa using hki)
      have hw := wrapN (n := i) (by omega)
      simp (maxSteps := 4000000) only [go_sem, reduceIte, reduceCtorEq, Nat.reduceAdd, Nat.reduceSub, Nat.reduceMul, Nat.reduceLeDiff, Nat.reduceLT, Nat.reduceEqDiff, Nat.reduceBEq, hk.len, hk.fits, hlt, hat]
      intro n1 hn1 hL1 n2 hn2 hL2
      refine append_acc (ks := ks.take i) (ha.grow (Grow.upd n1)) (fun _ h => nomatch h) hL2 [k] (by simp; omega) rfl (by decide) fun v3 L3 a3 k3 => ?_
      simp (maxSteps := 4000000) only [go_sem, reduceIte, reduceCtorEq, Nat.reduceAdd, Nat.reduceSub, Nat.reduceMul, Nat.reduceLeDiff, Nat.reduceLT, Nat.reduceEqDiff, Nat.reduceBEq, a3.ints.loc, hk.loc, hw]
      have ht : ks.take (i + 1) = ks.take i ++ [k] := by rw [List.take_succ_eq_append_getElem (by omega)]; rw [List.getElem?_eq_getElem (by omega)] at hki; cases hki; rfl
      have kk := hkp.trans (Grow.upd n1).keep
      refine ⟨(i + 1, v3, L3), rfl, rfl, ⟨by dsimp only; omega, by dsimp only; rw [ht]; exact a3, Fr.acc kk hf k3, kk.acc hf k3, ?_⟩, by dsimp only; omega⟩
      dsimp only
      rw [ht]
      rcases a3.val with ⟨_, e⟩ | ⟨ρ, e⟩
      · simp at e
      · exact ⟨ρ, e⟩
    · subst hm
      simp (maxSteps := 4000000) only [go_sem, reduceIte, reduceCtorEq, Nat.reduceAdd, Nat.reduceSub, Nat.reduceMul, Nat.reduceLeDiff, Nat.reduceLT, Nat.reduceEqDiff, Nat.reduceBEq, hk.len, hk.fits, hlt]
      exact ⟨m, L, by rw [List.take_of_length_le (by omega)], rfl, fun ρ e => (hkp ρ e (fun e => nomatch e)).1⟩
  · rintro r h' ⟨n, L, rfl, rfl, g⟩
    exact ⟨_, h, fun G v hv => hv.forget, ⟨fun _ _ e => e, fun ρ e => g ρ e⟩, rfl, rfl⟩

/-- A node is copied. -/
theorem c_node7 {nd : Nd} (hk : Ints nd.kv nd.ks) (hl : nd.ks.length ≤ 1000000) (h1 : S (.agg (Nd.cells { nd with kv := .list none 1 (icells nd.ks) })) h) : ACalls Try.prog 7 [.agg nd.cells] h S := by
  refine acalls_mf 12 3 Try.func7 rfl rfl (Nat.le_of_ble_eq_true rfl) (rd_ok hMix (κ := fun _ => false) δ7 _ (by decide +kernel) ?_)
  simp (maxSteps := 4000000) only [go_sem, reduceIte, reduceCtorEq, Nat.reduceAdd, Nat.reduceSub, Nat.reduceMul, Nat.reduceLeDiff, Nat.reduceLT, Nat.reduceEqDiff, Nat.reduceBEq, Try.ntmps7, Try.f7, δ7, Nd.cells, hk.loc, hk.one]
  refine QCallK.of cb18 (fun _ _ => ints_q hk hl _ _ ‹_›) ?_
  simp (maxSteps := 4000000) only [go_sem, reduceIte, reduceCtorEq, Nat.reduceAdd, Nat.reduceSub, Nat.reduceMul, Nat.reduceLeDiff, Nat.reduceLT, Nat.reduceEqDiff, Nat.reduceBEq, δ7, hk.loc, hk.one]
  exact h1
end Go.Proofs.Ab5
end
/- The tree test of the program. -/
section
set_option maxRecDepth 10000
set_option maxHeartbeats 8000000
set_option linter.unusedSimpArgs false
set_option linter.unusedVariables false
namespace Go.Proofs.Ab5
open Go.Ab Go.Proofs
variable {h h' : AHeap} {S : AVal → AHeap → Prop} {v : AVal} {ns : List Nd}

/-- Which places are somebody's kid. -/
def usL (len : Nat) (M : List Int) : List AVal := (List.range len).map fun j : Nat => .bool (decide ((j : Int) ∈ M))

theorem usL_len {len : Nat} {M : List Int} : (usL len M).length = len := by simp [usL]
theorem usL_get {len : Nat} {M : List Int} {j : Nat} (hj : j < len) : (usL len M)[j]? = some (.bool (decide ((j : Int) ∈ M))) := by
  simp [usL, List.getElem?_map, List.getElem?_range hj]
theorem usL_drop {len : Nat} {M : List Int} {k : Int} (h0 : 0 ≤ k) (hk : k < len) : ∃ r, List.drop k.toNat (usL len M) = .bool (decide (k ∈ M)) :: r := by
  have hl : k.toNat < (usL len M).length := by rw [usL_len]; omega
  rw [List.drop_eq_getElem_cons hl]
  have := usL_get (len := len) (M := M) (j := k.toNat) (by omega)
  rw [List.getElem?_eq_getElem hl] at this
  rw [Int.toNat_of_nonneg h0] at this
  exact ⟨_, by rw [Option.some.inj this]⟩
theorem usL_set {len : Nat} {M : List Int} {k : Int} (h0 : 0 ≤ k) (hk : k < len) : List.take k.toNat (usL len M) ++ .bool true :: List.drop (k.toNat + 1) (usL len M) = usL len (M ++ [k]) := by
  refine List.ext_getElem? fun j => ?_
  have hl : (List.take k.toNat (usL len M)).length = k.toNat := by rw [List.length_take, usL_len]; omega
  rcases Nat.lt_trichotomy j k.toNat with e | e | e
  · rw [List.getElem?_append_left (by omega), List.getElem?_take_of_lt e, usL_get (by omega), usL_get (by omega)]
    have : ¬ (j : Int) = k := by omega
    simp [this]
  · subst e
    rw [List.getElem?_append_right (by omega), hl, Nat.sub_self, usL_get (by omega)]
    simp [Int.toNat_of_nonneg h0]
  · rw [List.getElem?_append_right (by omega), hl, show j - k.toNat = (j - k.toNat - 1) + 1 by omega, List.getElem?_cons_succ, List.getElem?_drop, show k.toNat + 1 + (j - k.toNat - 1) = j by omega]
    rcases Nat.lt_or_ge j len with h | h
    · rw [usL_get h, usL_get h]
      have : ¬ (j : Int) = k := by omega
      simp [this]
    · rw [List.getElem?_eq_none (by rw [usL_len]; exact h), List.getElem?_eq_none (by rw [usL_len]; exact h)]
theorem usL_zero {len : Nat} : (List.replicate len [AVal.bool false]).flatten = usL len [] := by
  refine List.ext_getElem? fun j => ?_
  have : (List.replicate len [AVal.bool false]).flatten = List.replicate len (.bool false) := by
    induction len with
    | zero => rfl
    | succ n ih => rw [List.replicate_succ, List.flatten_cons, ih]; rfl
  rw [this]
  rcases Nat.lt_or_ge j len with h | h
  · rw [usL_get h, List.getElem?_replicate, if_pos h]; simp
  · rw [List.getElem?_eq_none (by simpa using h), List.getElem?_eq_none (by rw [usL_len]; exact h)]

theorem upd_self {α : Type} {f : Nat → α} {n : Nat} {x : α} (h : f n = x) : upd f n x = f := by
  funext k
  simp only [upd]
  split
  · rename_i e; rw [e, h]
  · rfl

theorem c_fresh43 {kv : AVal} {n len : Nat} {M ks : List Int} {i : Int} (hk : Ints kv ks) (hb : h.blk n = some (usL len M)) (hi : i ≤ len) (hks : ∀ k ∈ ks, 0 ≤ k ∧ k < i) (hnd : (M ++ ks).Nodup) (hlen : len ≤ 1000000) (hlk : ks.length ≤ 1000000)
    (h1 : S (.bool true) ⟨upd h.blk n (some (usL len (M ++ ks))), h.live⟩) : ACalls Try.prog 43 [kv, .int .i64 i, .ref n 0 len 1] h S := by
  refine acalls_mf 20 12 Try.func43 rfl rfl (Nat.le_of_ble_eq_true rfl) (rd_ok hMix (κ := fun _ => false) δ0 _ (by decide +kernel) ?_)
  simp (maxSteps := 4000000) only [go_sem, reduceIte, reduceCtorEq, Nat.reduceAdd, Nat.reduceSub, Nat.reduceMul, Nat.reduceLeDiff, Nat.reduceLT, Nat.reduceEqDiff, Nat.reduceBEq, Try.ntmps43, Try.f43, hk.len, hk.fits, hk.loc]
  refine AWp.loop_mf 12 [false, true, true, false, false, false, false, false, false, true, true, true] [] (fun q : Nat => ⟨(mkF 20 12 [.any, .int .i64 i, .ref n 0 len 1, .any, .any, .any, .any, .any, .any, kv, .int .i64 ks.length, .int .i64 q] []), []⟩) (fun q => ⟨upd h.blk n (some (usL len (M ++ ks.take q))), h.live⟩) (fun q => q ≤ ks.length) (fun q => ks.length - q) 0 ?_ ?_
    (by rw [List.take_zero, List.append_nil, upd_self hb]) (Nat.zero_le _) ?_
  · simp (maxSteps := 4000000) only [go_sem, reduceIte, reduceCtorEq, Nat.reduceAdd, Nat.reduceSub, Nat.reduceMul, Nat.reduceLeDiff, Nat.reduceLT, Nat.reduceEqDiff, Nat.reduceBEq, hk.loc]
  · simp (maxSteps := 4000000) only [go_sem, reduceIte, reduceCtorEq, Nat.reduceAdd, Nat.reduceSub, Nat.reduceMul, Nat.reduceLeDiff, Nat.reduceLT, Nat.reduceEqDiff, Nat.reduceBEq]
    rfl
  intro q hq
  refine rd_ok hMix (κ := fun _ => false) δ0 _ (by decide +kernel) ?_
  by_cases hlt : (q : Int) < ks.length
  · have hq' : q < ks.length := by omega
    obtain ⟨k, hke⟩ : ∃ k, ks[q] = k := ⟨_, rfl⟩
    have hki : ks[q]? = some k := by rw [List.getElem?_eq_getElem hq', hke]
    have hat := hk.at (i := (q : Int)) (Int.natCast_nonneg q) (k := k) (by simpa using hki)
    obtain ⟨k0, k1⟩ := hks k (List.mem_of_getElem? hki)
    have n0 : ¬ k < 0 := by omega
    have n1 : ¬ i ≤ k := by omega
    have k2 : k < len := by omega
    have hmem : k ∉ M ++ ks.take q := by
      have hn2 := hnd
      intro hm
      rw [← List.take_append_drop q ks, ← List.append_assoc] at hn2
      have hdis := (List.nodup_append.1 hn2).2.2
      refine hdis _ hm ks[q] ?_ hke.symm
      rw [List.drop_eq_getElem_cons hq']; exact List.mem_cons_self
    obtain ⟨r, hr⟩ := usL_drop (M := M ++ ks.take q) k0 k2
    have hdec : decide (k ∈ M ++ ks.take q) = false := by simpa using hmem
    rw [hdec] at hr
    have hw := wrapN (n := q) (by omega)
    have hl1 : k.toNat + 1 ≤ len := by omega
    simp (maxSteps := 4000000) only [go_sem, reduceIte, reduceCtorEq, Nat.reduceAdd, Nat.reduceSub, Nat.reduceMul, Nat.reduceLeDiff, Nat.reduceLT, Nat.reduceEqDiff, Nat.reduceBEq, hlt, hat, n0, n1, k0, k2, Nat.mul_one, hr, usL_len, hl1, hk.loc, hw]
    have ht : ks.take (q + 1) = ks.take q ++ [k] := by rw [List.take_succ_eq_append_getElem hq', hke]
    refine ⟨q + 1, rfl, ?_, by omega, by omega⟩
    rw [usL_set k0 k2, ht, List.append_assoc]
  · simp (maxSteps := 4000000) only [go_sem, reduceIte, reduceCtorEq, Nat.reduceAdd, Nat.reduceSub, Nat.reduceMul, Nat.reduceLeDiff, Nat.reduceLT, Nat.reduceEqDiff, Nat.reduceBEq, hlt]
    rw [List.take_of_length_le (by omega)]
    exact h1

theorem c_index55 {n m : Nat} {cs : List AVal} (hb : h.blk n = some cs) (hcs : ∀ j, j < m → cs[j]? = some (.bool true)) (hm : m ≤ 1000000) (h1 : S (.int .i64 (-1)) h) : ACalls Try.prog 55 [.ref n 0 m 1, .bool false] h S := by
  refine acalls_mf 10 9 Try.func55 rfl rfl (Nat.le_of_ble_eq_true rfl) (rd_ok hMix (κ := fun _ => false) δ0 _ (by decide +kernel) ?_)
  simp (maxSteps := 4000000) only [go_sem, reduceIte, reduceCtorEq, Nat.reduceAdd, Nat.reduceSub, Nat.reduceMul, Nat.reduceLeDiff, Nat.reduceLT, Nat.reduceEqDiff, Nat.reduceBEq, Try.ntmps55, Try.f55]
  refine AWp.loop_mf 9 [true, true, false, false, false, false, false, true, true] [] (fun q : Nat => ⟨(mkF 10 9 [.ref n 0 m 1, .bool false, .any, .any, .any, .any, .any, .int .i64 m, .int .i64 q] []), []⟩) (fun _ => h) (fun q => q ≤ m) (fun q => m - q) 0 ?_ ?_ rfl (Nat.zero_le _) ?_
  · simp (maxSteps := 4000000) only [go_sem, reduceIte, reduceCtorEq, Nat.reduceAdd, Nat.reduceSub, Nat.reduceMul, Nat.reduceLeDiff, Nat.reduceLT, Nat.reduceEqDiff, Nat.reduceBEq]
  · simp (maxSteps := 4000000) only [go_sem, reduceIte, reduceCtorEq, Nat.reduceAdd, Nat.reduceSub, Nat.reduceMul, Nat.reduceLeDiff, Nat.reduceLT, Nat.reduceEqDiff, Nat.reduceBEq]
    rfl
  intro q hq
  refine rd_ok hMix (κ := fun _ => false) δ0 _ (by decide +kernel) ?_
  by_cases hlt : (q : Int) < m
  · have hq0 : (0 : Int) ≤ q := Int.natCast_nonneg q
    obtain ⟨r, hr⟩ : ∃ r, List.drop q cs = .bool true :: r := by
      have h2 := hcs q (by omega)
      obtain ⟨hl, h3⟩ := List.getElem?_eq_some_iff.1 h2
      exact ⟨_, by rw [List.drop_eq_getElem_cons hl, h3]⟩
    have hw := wrapN (n := q) (by omega)
    have hbb : (false == true) = false := rfl
    simp (maxSteps := 4000000) only [go_sem, reduceIte, reduceCtorEq, Nat.reduceAdd, Nat.reduceSub, Nat.reduceMul, Nat.reduceLeDiff, Nat.reduceLT, Nat.reduceEqDiff, Nat.reduceBEq, hlt, hq0, hb, Int.toNat_natCast, Nat.mul_one, hr, hw, hbb]
    exact ⟨q + 1, rfl, by omega, by omega⟩
  · simp (maxSteps := 4000000) only [go_sem, reduceIte, reduceCtorEq, Nat.reduceAdd, Nat.reduceSub, Nat.reduceMul, Nat.reduceLeDiff, Nat.reduceLT, Nat.reduceEqDiff, Nat.reduceBEq, hlt]
    exact h1

theorem c_contains44 {n m : Nat} {cs : List AVal} (hb : h.blk n = some cs) (hcs : ∀ j, j < m → cs[j]? = some (.bool true)) (hm : m ≤ 1000000) (h1 : S (.bool false) h) : ACalls Try.prog 44 [.ref n 0 m 1, .bool false] h S := by
  refine acalls_mf 4 5 Try.func44 rfl rfl (Nat.le_of_ble_eq_true rfl) (rd_ok hMix (κ := fun _ => false) δ0 _ (by decide +kernel) ?_)
  simp (maxSteps := 4000000) only [go_sem, reduceIte, reduceCtorEq, Nat.reduceAdd, Nat.reduceSub, Nat.reduceMul, Nat.reduceLeDiff, Nat.reduceLT, Nat.reduceEqDiff, Nat.reduceBEq, Try.ntmps44, Try.f44]
  refine callBy cb55 (c_index55 hb hcs hm ?_)
  simp (maxSteps := 4000000) only [go_sem, reduceIte, reduceCtorEq, Nat.reduceAdd, Nat.reduceSub, Nat.reduceMul, Nat.reduceLeDiff, Nat.reduceLT, Nat.reduceEqDiff, Nat.reduceBEq, Int.reduceLE, Int.reduceNeg]
  exact h1

theorem flat_drop {xs : List (List AVal)} {sz : Nat} (hsz : ∀ x ∈ xs, x.length = sz) {i : Nat} {x : List AVal} (hx : xs[i]? = some x) : ∃ r, xs.flatten.drop (i * sz) = x ++ r := by
  induction xs generalizing i with
  | nil => simp at hx
  | cons y ys ih =>
    have hy := hsz y (by simp)
    cases i with
    | zero => simp at hx; subst hx; exact ⟨ys.flatten, by simp⟩
    | succ i =>
      obtain ⟨r, hr⟩ := ih (fun z hz => hsz z (List.mem_cons_of_mem _ hz)) (i := i) (by simpa using hx)
      refine ⟨r, ?_⟩
      rw [List.flatten_cons, Nat.succ_mul, Nat.add_comm, ← hy, List.drop_append]
      rw [hy]
      have e1 : List.drop (sz + i * sz) y = [] := List.drop_of_length_le (by omega)
      rw [e1, show sz + i * sz - sz = i * sz by omega, List.nil_append]; exact hr

/-- A slice of nodes, to be read. -/
structure NVw (h : AHeap) (v : AVal) (ns : List Nd) : Prop where
  val : (∃ ρ, v = .list ρ 5 (ns.map Nd.cells)) ∨ ∃ β, v = .ref β 0 ns.length 5 ∧ h.blk β = some (ns.map Nd.cells).flatten
  kids : ∀ nd ∈ ns, Ints nd.kv nd.ks

theorem NVw.frame (w : NVw h v ns) (hb : ∀ β, blkOf v = some β → h'.blk β = h.blk β) : NVw h' v ns :=
  ⟨w.val.imp id fun ⟨β, e, hc⟩ => ⟨β, e, by rw [hb β (by rw [e]; rfl)]; exact hc⟩, w.kids⟩
theorem NVw.len (w : NVw h v ns) : aLen v = some (ns.length : Int) := by
  rcases w.val with ⟨ρ, rfl⟩ | ⟨β, rfl, _⟩
  · simp [aLen]
  · rfl
theorem NVw.loc (w : NVw h v ns) : v.isLoc = false := by rcases w.val with ⟨ρ, rfl⟩ | ⟨β, rfl, _⟩ <;> rfl
theorem NVw.fits {e : TypeId} (w : NVw h v ns) : fitsKind v (.slice e) = true := by rcases w.val with ⟨ρ, rfl⟩ | ⟨β, rfl, _⟩ <;> rfl
theorem NVw.own (w : NVw h v ns) {n : Nat} (hn : h.blk n = none) : ∀ β, blkOf v = some β → β ≠ n := by
  intro β hβ e
  rcases w.val with ⟨ρ, rfl⟩ | ⟨β', rfl, hc⟩
  · cases hβ
  · cases hβ; subst e; rw [hn] at hc; cases hc
theorem NVw.at (w : NVw h v ns) {i : Nat} {nd : Nd} (hi : ns[i]? = some nd) : ∃ a r, aIndexAddr 5 v (i : Int) = some a ∧ (∀ ls, aBehind ls h a = some (nd.cells ++ r)) ∧ a.isLoc = false := by
  have hlt := (List.getElem?_eq_some_iff.1 hi).1
  rcases w.val with ⟨ρ, rfl⟩ | ⟨β, rfl, hc⟩
  · refine ⟨.pin nd.cells, [], ?_, fun ls => by rw [List.append_nil]; rfl, rfl⟩
    rw [aIndexAddr_list, if_pos (Int.natCast_nonneg i), Int.toNat_natCast, List.getElem?_map, hi]; rfl
  · obtain ⟨r, hr⟩ := flat_drop (xs := ns.map Nd.cells) (sz := 5) (fun x hx => by obtain ⟨nd, _, rfl⟩ := List.mem_map.1 hx; rfl) (i := i) (x := nd.cells) (by rw [List.getElem?_map, hi]; rfl)
    refine ⟨.ptr β (0 + (i : Int).toNat * 5), r, ?_, fun ls => ?_, rfl⟩
    · rw [aIndexAddr_ref, if_pos ⟨Int.natCast_nonneg i, by omega⟩]
    · rw [aBehind_ptr, hc, Int.toNat_natCast, Nat.zero_add]
      exact congrArg some hr

theorem c_tree19 (w : NVw h v ns) (hfr : FR ns [(ns.length : Int) - 1]) (hl : ns.length ≤ 1000) (hp : 0 < ns.length) : ACalls Try.prog 19 [v] h fun r h' => r = .bool true ∧ h' = h := by
  refine ACalls.weaken (R := fun r h' => r = .bool true ∧ ∃ n x, h.blk n = none ∧ h' = ⟨upd h.blk n (some x), h.live⟩) ?_ ?_
  rotate_left
  · rintro r h' ⟨rfl, n, x, hn, rfl⟩
    exact ⟨_, h, fun _ _ e => e, ⟨fun β cs e => by show upd h.blk n _ β = _; rw [upd_ne _ _ (fun e' => by subst e'; rw [hn] at e; cases e)]; exact e, fun _ e => e⟩, rfl, rfl⟩
  have hnd : (ns.flatMap Nd.ks).Nodup := by
    have h1 : ((List.range ns.length).map Int.ofNat).Nodup := List.pairwise_map.2 (List.nodup_range.imp fun h e => h (Int.ofNat.inj e))
    exact (List.nodup_append.1 (hfr.perm.nodup_iff.2 h1)).1
  refine acalls_mf 23 12 Try.func19 rfl rfl (Nat.le_of_ble_eq_true rfl) (rd_ok hMix (κ := fun t => t == 8 || t == 1000) δ0 _ (by decide +kernel) ?_)
  simp (maxSteps := 4000000) only [go_sem, reduceIte, reduceCtorEq, Nat.reduceAdd, Nat.reduceSub, Nat.reduceMul, Nat.reduceLeDiff, Nat.reduceLT, Nat.reduceEqDiff, Nat.reduceBEq, Try.ntmps19, Try.f19, w.len, w.fits, w.loc]
  intro n hn hL
  have hl0 : (0 : Int) ≤ ns.length := Int.natCast_nonneg _
  have hl4 : (ns.length : Int) ≤ 4294967296 := by omega
  refine ⟨⟨hl0, Int.le_refl _, hl4⟩, ?_⟩
  have hown := w.own hn
  refine AWp.loop_mf 12 [true, false, false, true, false, false, false, false, false, true, true, true] [] (fun i : Nat => ⟨(mkF 23 12 [v, .any, .any, .ref n 0 ns.length 1, .any, .any, .any, .any, .any, v, .int .i64 ns.length, .int .i64 i] []), []⟩) (fun i => ⟨upd h.blk n (some (usL ns.length ((ns.take i).flatMap Nd.ks))), h.live⟩) (fun i => i ≤ ns.length) (fun i => ns.length - i) 0 ?_ ?_
    (by rw [List.take_zero, List.flatMap_nil, ← usL_zero, Int.toNat_natCast]) (Nat.zero_le _) ?_
  · simp (maxSteps := 4000000) only [go_sem, reduceIte, reduceCtorEq, Nat.reduceAdd, Nat.reduceSub, Nat.reduceMul, Nat.reduceLeDiff, Nat.reduceLT, Nat.reduceEqDiff, Nat.reduceBEq, w.loc]
  · simp (maxSteps := 4000000) only [go_sem, reduceIte, reduceCtorEq, Nat.reduceAdd, Nat.reduceSub, Nat.reduceMul, Nat.reduceLeDiff, Nat.reduceLT, Nat.reduceEqDiff, Nat.reduceBEq]
    rfl
  intro i hi
  have w' : NVw ⟨upd h.blk n (some (usL ns.length ((ns.take i).flatMap Nd.ks))), h.live⟩ v ns := w.frame fun β hβ => upd_ne _ _ (hown β hβ)
  refine rd_ok hMix (κ := fun t => t == 8 || t == 1000) δ0 _ (by decide +kernel) ?_
  by_cases hlt : (i : Int) < ns.length
  · have hi' : i < ns.length := by omega
    obtain ⟨nd, hnd1⟩ : ∃ nd, ns[i] = nd := ⟨_, rfl⟩
    have hnd2 : ns[i]? = some nd := by rw [List.getElem?_eq_getElem hi', hnd1]
    obtain ⟨a, r, a1, a2, a3⟩ := w'.at hnd2
    have hk := w.kids nd (List.mem_of_getElem? hnd2)
    have ht : (ns.take (i + 1)).flatMap Nd.ks = (ns.take i).flatMap Nd.ks ++ nd.ks := by rw [List.take_succ_eq_append_getElem hi', hnd1, List.flatMap_append]; simp
    have hn2 : ((ns.take i).flatMap Nd.ks ++ nd.ks).Nodup := by
      rw [← ht]
      have h2 := hnd
      rw [← List.take_append_drop (i + 1) ns, List.flatMap_append] at h2
      exact (List.nodup_append.1 h2).1
    have hkl : nd.ks.length ≤ ns.length := by
      have h2 := hfr.perm.length_eq
      have h3 := congrArg List.length ht
      rw [← List.take_append_drop (i + 1) ns, List.flatMap_append] at h2
      simp at h2 h3
      omega
    have hw := wrapN (n := i) (by omega)
    simp (maxSteps := 4000000) only [go_sem, reduceIte, reduceCtorEq, Nat.reduceAdd, Nat.reduceSub, Nat.reduceMul, Nat.reduceLeDiff, Nat.reduceLT, Nat.reduceEqDiff, Nat.reduceBEq, hlt, a1, a2, a3, Nd.cells, hk.loc, hk.one, w.loc]
    refine callBy cb43 (c_fresh43 hk (upd_same _ _ _) (by omega) (hfr.kid i nd hnd2) hn2 (by omega) (by omega) ?_)
    simp (maxSteps := 4000000) only [go_sem, reduceIte, reduceCtorEq, Nat.reduceAdd, Nat.reduceSub, Nat.reduceMul, Nat.reduceLeDiff, Nat.reduceLT, Nat.reduceEqDiff, Nat.reduceBEq, w.loc, hw]
    exact ⟨i + 1, rfl, by rw [ht], by omega, by omega⟩
  · have hpl : (0 : Int) < ns.length := by omega
    have hw : IntKind.wrap .i64 ((ns.length : Int) - 1) = ns.length - 1 := by rw [wrap64] <;> omega
    have hz1 : (0 : Int) ≤ ns.length - 1 := by omega
    have hz2 : (ns.length : Int) - 1 ≤ ns.length := by omega
    have hz3 : ((ns.length : Int) - 1).toNat = ns.length - 1 := by omega
    simp (maxSteps := 4000000) only [go_sem, reduceIte, reduceCtorEq, Nat.reduceAdd, Nat.reduceSub, Nat.reduceMul, Nat.reduceLeDiff, Nat.reduceLT, Nat.reduceEqDiff, Nat.reduceBEq, hlt, w.len, w.fits, w.loc, hpl, hw, hz1, hz2, hz3]
    refine callBy cb44 (c_contains44 (upd_same _ _ _) (fun j hj => ?_) (by omega) ?_)
    · rw [usL_get (by omega), List.take_of_length_le (by omega)]
      have hm : (j : Int) ∈ ns.flatMap Nd.ks ++ [(ns.length : Int) - 1] := hfr.perm.mem_iff.2 (List.mem_map.2 ⟨j, List.mem_range.2 (by omega), rfl⟩)
      rcases List.mem_append.1 hm with hm | hm
      · simp [hm]
      · simp at hm; omega
    · simp (maxSteps := 4000000) only [go_sem, reduceIte, reduceCtorEq, Nat.reduceAdd, Nat.reduceSub, Nat.reduceMul, Nat.reduceLeDiff, Nat.reduceLT, Nat.reduceEqDiff, Nat.reduceBEq]
      exact ⟨n, _, hn, rfl⟩
end Go.Proofs.Ab5
end
/- The chapter's example. -/
section
set_option maxRecDepth 10000
set_option maxHeartbeats 8000000
set_option linter.unusedSimpArgs false
set_option linter.unusedVariables false
namespace Go.Proofs.Ab5
open Go.Ab Go.Proofs
variable {h : AHeap} {S : AVal → AHeap → Prop}

def ex3 (a b : Nat) : List Nd := [⟨6, 0, { data := #[120] }, .nilSlice, []⟩, ⟨35, 0, .empty, .list (some a) 1 [[.int .i64 0]], [0]⟩, ⟨47, 0, .empty, .list (some b) 1 [[.int .i64 1]], [1]⟩]

def D3 (i : Int) : List AVal := if i = 0 then [.int .i64 0, .int .i64 0, .int .i64 0] else if i = 1 then [.int .i64 1, .int .i64 0, .int .i64 0] else if i = 2 then [.int .i64 1, .int .i64 2, .int .i64 0] else [.int .i64 1, .int .i64 2, .int .i64 3]

theorem c_deep3 {a b : Nat} {ρ : Option Nat} (h1 : ∀ h', S (.int .i64 3) h') : ACalls Try.prog 10 [.list ρ 5 ((ex3 a b).map Nd.cells)] h S := by
  have w : NVw h (.list ρ 5 ((ex3 a b).map Nd.cells)) (ex3 a b) := ⟨.inl ⟨ρ, rfl⟩, fun nd hm => by
    simp only [ex3, List.mem_cons, List.not_mem_nil, or_false] at hm
    rcases hm with rfl | rfl | rfl
    · exact .inl ⟨rfl, rfl⟩
    · exact .inr ⟨_, rfl⟩
    · exact .inr ⟨_, rfl⟩⟩
  have hfr : FR (ex3 a b) [(((ex3 a b).length : Nat) : Int) - 1] := by
    refine ⟨.refl _, fun i nd hi k hk => ?_⟩
    match i, hi with
    | 0, hi => simp [ex3] at hi; subst hi; simp at hk
    | 1, hi => simp [ex3] at hi; subst hi; simp at hk; subst hk; decide
    | 2, hi => simp [ex3] at hi; subst hi; simp at hk; subst hk; decide
    | i + 3, hi => simp [ex3] at hi
  have v1 : IntKind.wrap .i64 1 = 1 := by decide
  have v2 : IntKind.wrap .i64 2 = 2 := by decide
  have v3 : IntKind.wrap .i64 3 = 3 := by decide
  refine acalls_mf 29 25 Try.func10 rfl rfl (Nat.le_of_ble_eq_true rfl) (rd_ok hMix (κ := fun t => t == 13 || t == 1000) δ10 _ (by decide +kernel) ?_)
  simp (maxSteps := 4000000) only [go_sem, reduceIte, reduceCtorEq, Nat.reduceAdd, Nat.reduceSub, Nat.reduceMul, Nat.reduceLeDiff, Nat.reduceLT, Nat.reduceEqDiff, Nat.reduceBEq, Try.ntmps10, Try.f10]
  refine callBy cb19 ((c_tree19 w hfr (by simp [ex3]) (by simp [ex3])).mono ?_)
  rintro r g ⟨rfl, hg⟩
  rw [hg]
  clear hg
  simp (maxSteps := 4000000) only [go_sem, reduceIte, reduceCtorEq, Nat.reduceAdd, Nat.reduceSub, Nat.reduceMul, Nat.reduceLeDiff, Nat.reduceLT, Nat.reduceEqDiff, Nat.reduceBEq, w.len, ex3, Int.cast_ofNat_Int, Int.reduceToNat, Int.reduceLT, Int.reduceEq, Int.reduceLE, Int.reduceAdd, Int.reduceSub, Int.reduceNeg, Int.reduceGT, Nat.mul_one, Nat.zero_mul, v1, v2, v3, D3, List.flatten_cons, List.flatten_nil, Int.natCast_zero, Int.natCast_one, Int.toNat_zero, Int.toNat_one]
  intro n hn hL
  refine AWp.loop_mf 25 [true, false, false, true, false, false, false, false, false, false, false, false, false, false, true, true, true, false, false, false, false, false, false, false, false] [] (fun i : Int => ⟨(mkF 29 25 [.list ρ 5 ((ex3 a b).map Nd.cells), .any, .any, .ref n 0 3 1, .any, .any, .any, .any, .any, .any, .any, .any, .any, .any, .list ρ 5 ((ex3 a b).map Nd.cells), .int .i64 3, .int .i64 i, .any, .any, .any, .any, .any, .any, .any, .any] []), []⟩) (fun i => ⟨upd h.blk n (some (D3 i)), h.live⟩) (fun i => i = 0 ∨ i = 1 ∨ i = 2 ∨ i = 3) (fun i => (3 - i).toNat) 0 ?_ ?_ rfl (.inl rfl) ?_
  · simp (maxSteps := 4000000) only [go_sem, reduceIte, reduceCtorEq, Nat.reduceAdd, Nat.reduceSub, Nat.reduceMul, Nat.reduceLeDiff, Nat.reduceLT, Nat.reduceEqDiff, Nat.reduceBEq]
  · simp (maxSteps := 4000000) only [go_sem, reduceIte, reduceCtorEq, Nat.reduceAdd, Nat.reduceSub, Nat.reduceMul, Nat.reduceLeDiff, Nat.reduceLT, Nat.reduceEqDiff, Nat.reduceBEq, ex3]
  intro i hi
  refine rd_ok hMix (κ := fun t => t == 13 || t == 1000) δ10 _ (by decide +kernel) ?_
  rcases hi with hi | hi | hi | hi
  · subst hi
    simp (maxSteps := 4000000) only [go_sem, reduceIte, reduceCtorEq, Nat.reduceAdd, Nat.reduceSub, Nat.reduceMul, Nat.reduceLeDiff, Nat.reduceLT, Nat.reduceEqDiff, Nat.reduceBEq, δ10, Int.cast_ofNat_Int, Int.reduceToNat, Int.reduceLT, Int.reduceEq, Int.reduceLE, Int.reduceAdd, Int.reduceSub, Int.reduceNeg, Int.reduceGT, Nat.mul_one, Nat.zero_mul, v1, v2, v3, D3, List.flatten_cons, List.flatten_nil, Int.natCast_zero, Int.natCast_one, Int.toNat_zero, Int.toNat_one, ex3, Nd.cells]
    refine AWp.loop_mf 25 [true, false, false, true, true, false, false, false, false, false, false, false, false, false, true, true, true, false, false, false, false, false, true, true, true] [] (fun q : Int => ⟨(mkF 29 25 [.list ρ 5 ((ex3 a b).map Nd.cells), .any, .any, .ref n 0 3 1, .int .i64 0, .any, .any, .any, .any, .any, .any, .any, .any, .any, .list ρ 5 ((ex3 a b).map Nd.cells), .int .i64 3, .int .i64 0, .any, .any, .any, .any, .any, .nilSlice, .int .i64 0, .int .i64 q] []), []⟩) (fun q => ⟨upd h.blk n (some (if q = 0 then D3 0 else D3 0)), h.live⟩) (fun q => q = 0) (fun q => (0 - q).toNat) 0 ?_ ?_ rfl (rfl) ?_
    · simp (maxSteps := 4000000) only [go_sem, reduceIte, reduceCtorEq, Nat.reduceAdd, Nat.reduceSub, Nat.reduceMul, Nat.reduceLeDiff, Nat.reduceLT, Nat.reduceEqDiff, Nat.reduceBEq]
    · simp (maxSteps := 4000000) only [go_sem, reduceIte, reduceCtorEq, Nat.reduceAdd, Nat.reduceSub, Nat.reduceMul, Nat.reduceLeDiff, Nat.reduceLT, Nat.reduceEqDiff, Nat.reduceBEq, ex3, Nd.cells, Int.cast_ofNat_Int, Int.reduceToNat, Int.reduceLT, Int.reduceEq, Int.reduceLE, Int.reduceAdd, Int.reduceSub, Int.reduceNeg, Int.reduceGT, Nat.mul_one, Nat.zero_mul, v1, v2, v3, D3, List.flatten_cons, List.flatten_nil, Int.natCast_zero, Int.natCast_one, Int.toNat_zero, Int.toNat_one]
    intro q hq
    refine rd_ok hMix (κ := fun t => t == 13 || t == 1000) δ10 _ (by decide +kernel) ?_
    subst hq
    simp (maxSteps := 4000000) only [go_sem, reduceIte, reduceCtorEq, Nat.reduceAdd, Nat.reduceSub, Nat.reduceMul, Nat.reduceLeDiff, Nat.reduceLT, Nat.reduceEqDiff, Nat.reduceBEq, δ10, Int.cast_ofNat_Int, Int.reduceToNat, Int.reduceLT, Int.reduceEq, Int.reduceLE, Int.reduceAdd, Int.reduceSub, Int.reduceNeg, Int.reduceGT, Nat.mul_one, Nat.zero_mul, v1, v2, v3, D3, List.flatten_cons, List.flatten_nil, Int.natCast_zero, Int.natCast_one, Int.toNat_zero, Int.toNat_one, ex3, Nd.cells]
    exact ⟨1, rfl, rfl, by decide, by decide⟩
  · subst hi
    simp (maxSteps := 4000000) only [go_sem, reduceIte, reduceCtorEq, Nat.reduceAdd, Nat.reduceSub, Nat.reduceMul, Nat.reduceLeDiff, Nat.reduceLT, Nat.reduceEqDiff, Nat.reduceBEq, δ10, Int.cast_ofNat_Int, Int.reduceToNat, Int.reduceLT, Int.reduceEq, Int.reduceLE, Int.reduceAdd, Int.reduceSub, Int.reduceNeg, Int.reduceGT, Nat.mul_one, Nat.zero_mul, v1, v2, v3, D3, List.flatten_cons, List.flatten_nil, Int.natCast_zero, Int.natCast_one, Int.toNat_zero, Int.toNat_one, ex3, Nd.cells]
    refine AWp.loop_mf 25 [true, false, false, true, true, false, false, false, false, false, false, false, false, false, true, true, true, false, false, false, false, false, true, true, true] [] (fun q : Int => ⟨(mkF 29 25 [.list ρ 5 ((ex3 a b).map Nd.cells), .any, .any, .ref n 0 3 1, .int .i64 1, .any, .any, .any, .any, .any, .any, .any, .any, .any, .list ρ 5 ((ex3 a b).map Nd.cells), .int .i64 3, .int .i64 1, .any, .any, .any, .any, .any, .list (some a) 1 [[.int .i64 0]], .int .i64 1, .int .i64 q] []), []⟩) (fun q => ⟨upd h.blk n (some (if q = 0 then D3 1 else [.int .i64 1, .int .i64 1, .int .i64 0])), h.live⟩) (fun q => q = 0 ∨ q = 1) (fun q => (1 - q).toNat) 0 ?_ ?_ rfl (.inl rfl) ?_
    · simp (maxSteps := 4000000) only [go_sem, reduceIte, reduceCtorEq, Nat.reduceAdd, Nat.reduceSub, Nat.reduceMul, Nat.reduceLeDiff, Nat.reduceLT, Nat.reduceEqDiff, Nat.reduceBEq]
    · simp (maxSteps := 4000000) only [go_sem, reduceIte, reduceCtorEq, Nat.reduceAdd, Nat.reduceSub, Nat.reduceMul, Nat.reduceLeDiff, Nat.reduceLT, Nat.reduceEqDiff, Nat.reduceBEq, ex3, Nd.cells, Int.cast_ofNat_Int, Int.reduceToNat, Int.reduceLT, Int.reduceEq, Int.reduceLE, Int.reduceAdd, Int.reduceSub, Int.reduceNeg, Int.reduceGT, Nat.mul_one, Nat.zero_mul, v1, v2, v3, D3, List.flatten_cons, List.flatten_nil, Int.natCast_zero, Int.natCast_one, Int.toNat_zero, Int.toNat_one]
    intro q hq
    refine rd_ok hMix (κ := fun t => t == 13 || t == 1000) δ10 _ (by decide +kernel) ?_
    rcases hq with hq | hq
    · subst hq
      simp (maxSteps := 4000000) only [go_sem, reduceIte, reduceCtorEq, Nat.reduceAdd, Nat.reduceSub, Nat.reduceMul, Nat.reduceLeDiff, Nat.reduceLT, Nat.reduceEqDiff, Nat.reduceBEq, δ10, Int.cast_ofNat_Int, Int.reduceToNat, Int.reduceLT, Int.reduceEq, Int.reduceLE, Int.reduceAdd, Int.reduceSub, Int.reduceNeg, Int.reduceGT, Nat.mul_one, Nat.zero_mul, v1, v2, v3, D3, List.flatten_cons, List.flatten_nil, Int.natCast_zero, Int.natCast_one, Int.toNat_zero, Int.toNat_one, ex3, Nd.cells]
      exact ⟨1, rfl, rfl, .inr rfl, by decide⟩
    · subst hq
      simp (maxSteps := 4000000) only [go_sem, reduceIte, reduceCtorEq, Nat.reduceAdd, Nat.reduceSub, Nat.reduceMul, Nat.reduceLeDiff, Nat.reduceLT, Nat.reduceEqDiff, Nat.reduceBEq, δ10, Int.cast_ofNat_Int, Int.reduceToNat, Int.reduceLT, Int.reduceEq, Int.reduceLE, Int.reduceAdd, Int.reduceSub, Int.reduceNeg, Int.reduceGT, Nat.mul_one, Nat.zero_mul, v1, v2, v3, D3, List.flatten_cons, List.flatten_nil, Int.natCast_zero, Int.natCast_one, Int.toNat_zero, Int.toNat_one, ex3, Nd.cells]
      exact ⟨2, rfl, rfl, by decide, by decide⟩
  · subst hi
    simp (maxSteps := 4000000) only [go_sem, reduceIte, reduceCtorEq, Nat.reduceAdd, Nat.reduceSub, Nat.reduceMul, Nat.reduceLeDiff, Nat.reduceLT, Nat.reduceEqDiff, Nat.reduceBEq, δ10, Int.cast_ofNat_Int, Int.reduceToNat, Int.reduceLT, Int.reduceEq, Int.reduceLE, Int.reduceAdd, Int.reduceSub, Int.reduceNeg, Int.reduceGT, Nat.mul_one, Nat.zero_mul, v1, v2, v3, D3, List.flatten_cons, List.flatten_nil, Int.natCast_zero, Int.natCast_one, Int.toNat_zero, Int.toNat_one, ex3, Nd.cells]
    refine AWp.loop_mf 25 [true, false, false, true, true, false, false, false, false, false, false, false, false, false, true, true, true, false, false, false, false, false, true, true, true] [] (fun q : Int => ⟨(mkF 29 25 [.list ρ 5 ((ex3 a b).map Nd.cells), .any, .any, .ref n 0 3 1, .int .i64 2, .any, .any, .any, .any, .any, .any, .any, .any, .any, .list ρ 5 ((ex3 a b).map Nd.cells), .int .i64 3, .int .i64 2, .any, .any, .any, .any, .any, .list (some b) 1 [[.int .i64 1]], .int .i64 1, .int .i64 q] []), []⟩) (fun q => ⟨upd h.blk n (some (if q = 0 then D3 2 else [.int .i64 1, .int .i64 2, .int .i64 2])), h.live⟩) (fun q => q = 0 ∨ q = 1) (fun q => (1 - q).toNat) 0 ?_ ?_ rfl (.inl rfl) ?_
    · simp (maxSteps := 4000000) only [go_sem, reduceIte, reduceCtorEq, Nat.reduceAdd, Nat.reduceSub, Nat.reduceMul, Nat.reduceLeDiff, Nat.reduceLT, Nat.reduceEqDiff, Nat.reduceBEq]
    · simp (maxSteps := 4000000) only [go_sem, reduceIte, reduceCtorEq, Nat.reduceAdd, Nat.reduceSub, Nat.reduceMul, Nat.reduceLeDiff, Nat.reduceLT, Nat.reduceEqDiff, Nat.reduceBEq, ex3, Nd.cells, Int.cast_ofNat_Int, Int.reduceToNat, Int.reduceLT, Int.reduceEq, Int.reduceLE, Int.reduceAdd, Int.reduceSub, Int.reduceNeg, Int.reduceGT, Nat.mul_one, Nat.zero_mul, v1, v2, v3, D3, List.flatten_cons, List.flatten_nil, Int.natCast_zero, Int.natCast_one, Int.toNat_zero, Int.toNat_one]
    intro q hq
    refine rd_ok hMix (κ := fun t => t == 13 || t == 1000) δ10 _ (by decide +kernel) ?_
    rcases hq with hq | hq
    · subst hq
      simp (maxSteps := 4000000) only [go_sem, reduceIte, reduceCtorEq, Nat.reduceAdd, Nat.reduceSub, Nat.reduceMul, Nat.reduceLeDiff, Nat.reduceLT, Nat.reduceEqDiff, Nat.reduceBEq, δ10, Int.cast_ofNat_Int, Int.reduceToNat, Int.reduceLT, Int.reduceEq, Int.reduceLE, Int.reduceAdd, Int.reduceSub, Int.reduceNeg, Int.reduceGT, Nat.mul_one, Nat.zero_mul, v1, v2, v3, D3, List.flatten_cons, List.flatten_nil, Int.natCast_zero, Int.natCast_one, Int.toNat_zero, Int.toNat_one, ex3, Nd.cells]
      exact ⟨1, rfl, rfl, .inr rfl, by decide⟩
    · subst hq
      simp (maxSteps := 4000000) only [go_sem, reduceIte, reduceCtorEq, Nat.reduceAdd, Nat.reduceSub, Nat.reduceMul, Nat.reduceLeDiff, Nat.reduceLT, Nat.reduceEqDiff, Nat.reduceBEq, δ10, Int.cast_ofNat_Int, Int.reduceToNat, Int.reduceLT, Int.reduceEq, Int.reduceLE, Int.reduceAdd, Int.reduceSub, Int.reduceNeg, Int.reduceGT, Nat.mul_one, Nat.zero_mul, v1, v2, v3, D3, List.flatten_cons, List.flatten_nil, Int.natCast_zero, Int.natCast_one, Int.toNat_zero, Int.toNat_one, ex3, Nd.cells]
      exact ⟨3, rfl, rfl, by decide, by decide⟩
  · subst hi
    simp (maxSteps := 4000000) only [go_sem, reduceIte, reduceCtorEq, Nat.reduceAdd, Nat.reduceSub, Nat.reduceMul, Nat.reduceLeDiff, Nat.reduceLT, Nat.reduceEqDiff, Nat.reduceBEq, δ10, Int.cast_ofNat_Int, Int.reduceToNat, Int.reduceLT, Int.reduceEq, Int.reduceLE, Int.reduceAdd, Int.reduceSub, Int.reduceNeg, Int.reduceGT, Nat.mul_one, Nat.zero_mul, v1, v2, v3, D3, List.flatten_cons, List.flatten_nil, Int.natCast_zero, Int.natCast_one, Int.toNat_zero, Int.toNat_one, ex3, Nd.cells]
    exact h1 _

theorem c_first4 (h1 : ∀ h', S (.bool true) h') : ACalls Try.prog 4 [] h S := by
  refine acalls_mf 8 1 Try.func4 rfl rfl (Nat.le_of_ble_eq_true rfl) (rd_ok hMix (κ := fun _ => false) δ0 _ (by decide +kernel) ?_)
  simp (maxSteps := 4000000) only [go_sem, reduceIte, reduceCtorEq, Nat.reduceAdd, Nat.reduceSub, Nat.reduceMul, Nat.reduceLeDiff, Nat.reduceLT, Nat.reduceEqDiff, Nat.reduceBEq, Try.ntmps4, Try.f4]
  intro a ha hLa b hb hLb c hc hLc
  refine callBy cb10 (c_deep3 (a := a) (b := b) fun h' => ?_)
  simp (maxSteps := 4000000) only [go_sem, reduceIte, reduceCtorEq, Nat.reduceAdd, Nat.reduceSub, Nat.reduceMul, Nat.reduceLeDiff, Nat.reduceLT, Nat.reduceEqDiff, Nat.reduceBEq, Int.reduceEq]
  exact h1 _
end Go.Proofs.Ab5
end
