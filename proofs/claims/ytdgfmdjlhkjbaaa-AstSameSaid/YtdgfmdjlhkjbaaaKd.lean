/-
  The statement's own function: it returns true.
-/
import Derived.Test.YtdgfmdjlhkjbaaaKc
set_option linter.all false
section
set_option maxRecDepth 10000
set_option maxHeartbeats 8000000
set_option linter.unusedSimpArgs false
set_option linter.unusedVariables false
namespace Go.Proofs.Ab5
open Go.Ab Go.Proofs
variable {h g : AHeap} {S : AVal → AHeap → Prop} {v : AVal} {ns ms : List Nd}
def κ3 : Tmp → Bool := fun t => t == 58 || t == 1000

/-- A copy, as far as it goes. -/
structure Cp (g : AHeap) (ns : List Nd) (v : AVal) (ms : List Nd) : Prop where
  val : (v = .nilSlice ∧ ms = []) ∨ ∃ β, v = .ref β 0 ms.length 5 ∧ g.blk β = some (ms.map Nd.cells).flatten
  le : ms.length ≤ ns.length
  same : ∀ (i : Nat) (nd nd' : Nd), ns[i]? = some nd → ms[i]? = some nd' → nd'.op = nd.op ∧ nd'.s = nd.s ∧ nd'.ks = nd.ks ∧ Ints nd'.kv nd.ks

theorem Cp.loc (c : Cp g ns v ms) : v.isLoc = false := by rcases c.val with ⟨rfl, _⟩ | ⟨β, rfl, _⟩ <;> rfl
theorem flat5 (ms : List Nd) : (ms.map Nd.cells).flatten.length = ms.length * 5 := by
  induction ms with
  | nil => rfl
  | cons n ms ih => rw [List.map_cons, List.flatten_cons, List.length_append, ih]; simp [Nd.cells]; omega

theorem Cp.live {g' : AHeap} (c : Cp g ns v ms) (e : g'.blk = g.blk) : Cp g' ns v ms := ⟨c.val.imp id fun ⟨β, h1, h2⟩ => ⟨β, h1, by rw [e]; exact h2⟩, c.le, c.same⟩
theorem Cp.push (c : Cp g ns v ms) {nd nd' : Nd} (hnd : ns[ms.length]? = some nd) (hs : nd'.op = nd.op ∧ nd'.s = nd.s ∧ nd'.ks = nd.ks ∧ Ints nd'.kv nd.ks) {n : Nat} (hn : g.blk n = none) (hlen : ms.length + 1 ≤ 4294967296) {te : TI} (hs5 : te.size = 5) (hb : te.bytes ≤ 4096) {K : AVal × AHeap → Prop}
    (h1 : ∀ v' g', Cp g' ns v' (ms ++ [nd']) → K (v', g')) : Go.Ab.W (aAppend te true g n v [nd'.cells]) K := by
  have hle : (ms ++ [nd']).length ≤ ns.length := by have := (List.getElem?_eq_some_iff.1 hnd).1; simp; omega
  have hsame : ∀ (i : Nat) (a b : Nd), ns[i]? = some a → (ms ++ [nd'])[i]? = some b → b.op = a.op ∧ b.s = a.s ∧ b.ks = a.ks ∧ Ints b.kv a.ks := fun i a b ha hb => by
    rcases Nat.lt_trichotomy i ms.length with e | e | e
    · rw [List.getElem?_append_left e] at hb; exact c.same i a b ha hb
    · subst e
      rw [List.getElem?_append_right (Nat.le_refl _)] at hb
      simp at hb; subst hb
      rw [hnd] at ha; cases ha; exact hs
    · rw [List.getElem?_eq_none (by simp; omega)] at hb; cases hb
  rcases c.val with ⟨rfl, e⟩ | ⟨β, rfl, hc⟩
  · subst e
    refine ⟨(.ref n 0 1 5, { g with blk := upd g.blk n (some [nd'.cells].flatten) }), ?_, h1 _ _ ⟨.inr ⟨n, rfl, by show upd g.blk n _ n = _; rw [upd_same]; rfl⟩, hle, hsame⟩⟩
    simp only [aAppend]
    rw [if_pos (by simp [aFits, hb]), hs5]; simp
  · refine ⟨(.ref n 0 (ms.length + 1) 5, { g with blk := upd (upd g.blk β none) n (some ((((ms.map Nd.cells).flatten).drop 0).take (ms.length * 5) ++ [nd'.cells].flatten)) }), ?_, h1 _ _ ⟨.inr ⟨n, by simp, ?_⟩, hle, hsame⟩⟩
    · simp only [aAppend, hc]
      rw [if_pos ⟨hs5.symm, by rw [hs5, flat5]; omega, by simpa [aFits, hb] using hlen⟩, hs5]; simp
    · show upd (upd g.blk β none) n _ n = _
      rw [upd_same, List.drop_zero, List.take_of_length_le (by rw [flat5]; omega), List.map_append, List.flatten_append]; rfl

theorem Cp.view (c : Cp g ns v ms) (hl : ms.length = ns.length) (hp : 0 < ns.length) : NVw g v ms := by
  refine ⟨.inr (c.val.elim (fun e => by rw [e.2] at hl; simp at hl; omega) id), fun nd hm => ?_⟩
  obtain ⟨i, hi, rfl⟩ := List.mem_iff_getElem.1 hm
  have h2 := c.same i ns[i] ms[i] (List.getElem?_eq_getElem (by omega)) (List.getElem?_eq_getElem hi)
  rw [h2.2.2.1]; exact h2.2.2.2

theorem FR.congr {R : List Int} (h : FR ns R) (hl : ms.length = ns.length) (hk : ∀ (i : Nat) (nd nd' : Nd), ns[i]? = some nd → ms[i]? = some nd' → nd'.ks = nd.ks) : FR ms R := by
  have e : ms.map Nd.ks = ns.map Nd.ks := by
    refine List.ext_getElem? fun i => ?_
    rw [List.getElem?_map, List.getElem?_map]
    rcases Nat.lt_or_ge i ns.length with hi | hi
    · rw [List.getElem?_eq_getElem hi, List.getElem?_eq_getElem (by omega)]
      exact congrArg some (hk i _ _ (List.getElem?_eq_getElem hi) (List.getElem?_eq_getElem (by omega)))
    · rw [List.getElem?_eq_none hi, List.getElem?_eq_none (by omega)]
  refine ⟨?_, fun i nd hi k hkk => ?_⟩
  · rw [List.flatMap_def, e, ← List.flatMap_def, hl]; exact h.perm
  · have hi' := (List.getElem?_eq_some_iff.1 hi).1
    have h2 : ns[i]? = some ns[i] := List.getElem?_eq_getElem (by omega)
    exact h.kid i _ h2 k (by rw [← hk i _ _ h2 hi]; exact hkk)

theorem c_astSame {s : ByteArray} {at' by' : Int} : ACalls Try.prog 3 [.str s, .int .i64 at', .int .i64 by'] h fun r _ => r = .bool true := by
  refine acalls_mf 95 14 Try.func3 rfl rfl (Nat.le_of_ble_eq_true rfl) (rd_ok hMix (κ := κ3) δ0 _ (by decide +kernel) ?_)
  simp (maxSteps := 4000000) only [go_sem, reduceIte, reduceCtorEq, Nat.reduceAdd, Nat.reduceSub, Nat.reduceMul, Nat.reduceLeDiff, Nat.reduceLT, Nat.reduceEqDiff, Nat.reduceBEq, Try.ntmps3, Try.f3, κ3]
  refine callBy cb4 (c_first4 fun h2 => ?_)
  by_cases hs : (1000 : Int) < s.size
  · simp (maxSteps := 4000000) only [go_sem, reduceIte, reduceCtorEq, Nat.reduceAdd, Nat.reduceSub, Nat.reduceMul, Nat.reduceLeDiff, Nat.reduceLT, Nat.reduceEqDiff, Nat.reduceBEq, κ3, hs]
  · simp (maxSteps := 4000000) only [go_sem, reduceIte, reduceCtorEq, Nat.reduceAdd, Nat.reduceSub, Nat.reduceMul, Nat.reduceLeDiff, Nat.reduceLT, Nat.reduceEqDiff, Nat.reduceBEq, κ3, hs]
    refine callBy cb5 (c_parse (by omega) fun v ns code b e h' hn => ?_)
    by_cases hc : code = 0
    · subst hc
      obtain ⟨⟨ρ, hv⟩, hkids, hfr, hpos⟩ := hn rfl
      subst hv
      simp (maxSteps := 4000000) only [go_sem, reduceIte, reduceCtorEq, Nat.reduceAdd, Nat.reduceSub, Nat.reduceMul, Nat.reduceLeDiff, Nat.reduceLT, Nat.reduceEqDiff, Nat.reduceBEq, κ3]
      refine callBy cb6 (c_tree6 hkids fun b2 hb2 => ?_)
      cases b2 <;> simp (maxSteps := 4000000) only [go_sem, reduceIte, reduceCtorEq, Nat.reduceAdd, Nat.reduceSub, Nat.reduceMul, Nat.reduceLeDiff, Nat.reduceLT, Nat.reduceEqDiff, Nat.reduceBEq, κ3]
      obtain ⟨hl3, hs3⟩ := hb2 rfl
      refine AWp.loop_mf 14 [false, true, true, false, false, false, false, false, true, false, true, true, false, false] [] (fun z : Nat × AVal × List Nd × AHeap => ⟨(mkF 95 14 [.any, .int .i64 at', .int .i64 by', .any, .any, .any, .any, .any, .list ρ 5 (ns.map Nd.cells), .any, z.2.1, .int .i64 z.1, .any, .any] []), []⟩) (fun z => z.2.2.2) (fun z => Cp z.2.2.2 ns z.2.1 z.2.2.1 ∧ z.2.2.1.length = z.1) (fun z => ns.length - z.1) (0, .nilSlice, [], h') ?_ ?_ rfl
        ⟨⟨.inl ⟨rfl, rfl⟩, Nat.zero_le _, fun _ _ _ _ h => by simp at h⟩, rfl⟩ ?_
      · simp (maxSteps := 4000000) only [go_sem, reduceIte, reduceCtorEq, Nat.reduceAdd, Nat.reduceSub, Nat.reduceMul, Nat.reduceLeDiff, Nat.reduceLT, Nat.reduceEqDiff, Nat.reduceBEq]
      · simp (maxSteps := 4000000) only [go_sem, reduceIte, reduceCtorEq, Nat.reduceAdd, Nat.reduceSub, Nat.reduceMul, Nat.reduceLeDiff, Nat.reduceLT, Nat.reduceEqDiff, Nat.reduceBEq]
        rfl
      rintro ⟨i, mv, ms, g⟩ ⟨hcp, hmi⟩
      dsimp only at hcp hmi ⊢
      have hcl := hcp.loc
      refine rd_ok hMix (κ := κ3) δ0 _ (by decide +kernel) ?_
      by_cases hlt : (i : Int) < ns.length
      · obtain ⟨nd, hnd⟩ : ∃ nd, ns[i]? = some nd := ⟨_, List.getElem?_eq_getElem (by omega)⟩
        have hm : (ns.map Nd.cells)[i]? = some nd.cells := by rw [List.getElem?_map, hnd]; rfl
        have hi0 : (0 : Int) ≤ i := Int.natCast_nonneg i
        have hk := hkids nd (List.mem_of_getElem? hnd)
        have hw := wrapN (n := i) (by omega)
        have hkl : nd.ks.length ≤ 1000000 := by
          have h2 : (ns.flatMap Nd.ks).length + 1 = ns.length := by
            have := hfr.perm.length_eq
            rwa [List.length_append, List.length_map, List.length_range] at this
          have h3 := (List.sublist_flatten_of_mem (List.mem_map.2 ⟨nd, List.mem_of_getElem? hnd, rfl⟩ : nd.ks ∈ ns.map Nd.ks)).length_le
          rw [← List.flatMap_def] at h3
          omega
        simp (maxSteps := 4000000) only [go_sem, reduceIte, reduceCtorEq, Nat.reduceAdd, Nat.reduceSub, Nat.reduceMul, Nat.reduceLeDiff, Nat.reduceLT, Nat.reduceEqDiff, Nat.reduceBEq, κ3, List.length_map, hlt, hi0, Int.toNat_natCast, hm, Nd.cells]
        refine callBy cb7 (c_node7 (nd := nd) hk hkl ?_)
        simp (maxSteps := 4000000) only [go_sem, reduceIte, reduceCtorEq, Nat.reduceAdd, Nat.reduceSub, Nat.reduceMul, Nat.reduceLeDiff, Nat.reduceLT, Nat.reduceEqDiff, Nat.reduceBEq, κ3, Nd.cells, Int.reduceEq]
        intro n1 hn1 hL1 n2 hn2 hL2
        refine (hcp.live (g' := ⟨g.blk, upd g.live n1 true⟩) rfl).push (nd := nd) (nd' := { nd with kv := .list none 1 (icells nd.ks), pos := _ }) (by rw [hmi]; exact hnd) ⟨rfl, rfl, rfl, .inr ⟨none, rfl⟩⟩ hn2 (by omega) rfl (by decide) fun v' g' hc' => ?_
        simp (maxSteps := 4000000) only [go_sem, reduceIte, reduceCtorEq, Nat.reduceAdd, Nat.reduceSub, Nat.reduceMul, Nat.reduceLeDiff, Nat.reduceLT, Nat.reduceEqDiff, Nat.reduceBEq, hc'.loc, hw]
        exact ⟨(i + 1, v', ms ++ [_], g'), rfl, rfl, ⟨hc', by simp [hmi]⟩, by dsimp only; omega⟩
      · have hml : ms.length = ns.length := by have := hcp.le; omega
        have wl : NVw g (.list ρ 5 (ns.map Nd.cells)) ns := ⟨.inl ⟨ρ, rfl⟩, hkids⟩
        have wm := hcp.view hml hpos
        have hksm : ∀ (i : Nat) (nd nd' : Nd), ns[i]? = some nd → ms[i]? = some nd' → nd'.ks = nd.ks := fun i a b ha hb => (hcp.same i a b ha hb).2.2.1
        have hfm : FR ms [(ms.length : Int) - 1] := by rw [hml]; exact hfr.congr hml hksm
        simp (maxSteps := 4000000) only [go_sem, reduceIte, reduceCtorEq, Nat.reduceAdd, Nat.reduceSub, Nat.reduceMul, Nat.reduceLeDiff, Nat.reduceLT, Nat.reduceEqDiff, Nat.reduceBEq, κ3, List.length_map, hlt, hcl]
        refine callBy cb8 (c_same8 wl wm hfr hfm hml.symm (fun i a b ha hb => (hksm i a b ha hb).symm) hpos (by omega) fun b b1 b2 => ?_)
        have hT : b = true := by
          cases b with
          | true => rfl
          | false => obtain ⟨i, x, y, e1, e2, e3⟩ := b2 rfl; exact absurd ⟨(hcp.same i x y e1 e2).1.symm, (hcp.same i x y e1 e2).2.1.symm⟩ e3
        subst hT
        clear b1 b2
        simp (maxSteps := 4000000) only [go_sem, reduceIte, reduceCtorEq, Nat.reduceAdd, Nat.reduceSub, Nat.reduceMul, Nat.reduceLeDiff, Nat.reduceLT, Nat.reduceEqDiff, Nat.reduceBEq, κ3, hcl]
        refine callBy cb8 (c_same8 wm wl hfm hfr hml (fun i a b ha hb => hksm i b a hb ha) (by omega) (by omega) fun b b1 b2 => ?_)
        have hT : b = true := by
          cases b with
          | true => rfl
          | false => obtain ⟨i, x, y, e1, e2, e3⟩ := b2 rfl; exact absurd ⟨(hcp.same i y x e2 e1).1, (hcp.same i y x e2 e1).2.1⟩ e3
        subst hT
        clear b1 b2
        simp (maxSteps := 4000000) only [go_sem, reduceIte, reduceCtorEq, Nat.reduceAdd, Nat.reduceSub, Nat.reduceMul, Nat.reduceLeDiff, Nat.reduceLT, Nat.reduceEqDiff, Nat.reduceBEq, κ3, hcl, wm.len, wm.fits]
        refine callBy cb9 (c_number9 (by omega) (by omega) fun k hk => ?_)
        obtain ⟨β, hv, hblk⟩ : ∃ β, mv = .ref β 0 ms.length 5 ∧ g.blk β = some (ms.map Nd.cells).flatten := hcp.val.elim (fun e => by rw [e.2] at hml; simp at hml; omega) id
        subst hv
        have hk0 : (0 : Int) ≤ k := Int.natCast_nonneg k
        have hk1 : (k : Int) < ms.length := by omega
        obtain ⟨nd, hnd⟩ : ∃ nd, ns[k]? = some nd := ⟨_, List.getElem?_eq_getElem (by omega)⟩
        obtain ⟨md, hmd⟩ : ∃ md, ms[k] = md := ⟨_, rfl⟩
        have hmd2 : ms[k]? = some md := by rw [List.getElem?_eq_getElem hk, hmd]
        obtain ⟨q1, q2, q3, q4⟩ := hcp.same k nd md hnd hmd2
        have dec : ms = ms.take k ++ md :: ms.drop (k + 1) := by rw [← hmd, ← List.drop_eq_getElem_cons hk, List.take_append_drop]
        have hA : ((ms.take k).map Nd.cells).flatten.length = k * 5 := by rw [flat5, List.length_take]; omega
        have flat : (ms.map Nd.cells).flatten = ((ms.take k).map Nd.cells).flatten ++ (md.cells ++ ((ms.drop (k + 1)).map Nd.cells).flatten) := by
          conv => lhs; rw [dec]
          rw [List.map_append, List.flatten_append]; rfl
        generalize hGA : ((ms.take k).map Nd.cells).flatten = GA at flat hA
        generalize hGB : ((ms.drop (k + 1)).map Nd.cells).flatten = GB at flat
        have d0 : List.drop (k * 5) (GA ++ (.int .i64 md.op :: .int .i64 0 :: .int .i64 md.pos :: .str md.s :: md.kv :: GB)) = .int .i64 md.op :: .int .i64 0 :: .int .i64 md.pos :: .str md.s :: md.kv :: GB := by rw [← hA, List.drop_left]
        have d3 : List.drop (k * 5 + 3) (GA ++ (.int .i64 md.op :: .int .i64 0 :: .int .i64 md.pos :: .str md.s :: md.kv :: GB)) = .str md.s :: md.kv :: GB := by rw [← List.drop_drop, d0]; rfl
        rw [flat] at hblk
        simp only [Nd.cells, List.cons_append, List.nil_append] at hblk
        have d4 : List.drop (k * 5 + 3 + 1) (GA ++ (.int .i64 md.op :: .int .i64 0 :: .int .i64 md.pos :: .str md.s :: md.kv :: GB)) = md.kv :: GB := by rw [← List.drop_drop, d3]; rfl
        have t3 : List.take (k * 5 + 3) (GA ++ (.int .i64 md.op :: .int .i64 0 :: .int .i64 md.pos :: .str md.s :: md.kv :: GB)) = GA ++ [.int .i64 md.op, .int .i64 0, .int .i64 md.pos] := by
          rw [← hA, List.take_append, List.take_of_length_le (by omega), Nat.add_sub_cancel_left]; rfl
        have hsz : md.s.size ≤ 300 := by rw [q2]; exact hs3 nd (List.mem_of_getElem? hnd)
        let m2 : List Nd := ms.set k { md with s := md.s ++ { data := #[120] } }
        have hm2 : m2.length = ms.length := List.length_set
        have hflat2 : (m2.map Nd.cells).flatten = GA ++ (.int .i64 md.op :: .int .i64 0 :: .int .i64 md.pos :: .str (md.s ++ { data := #[120] }) :: md.kv :: GB) := by
          show ((ms.set k _).map Nd.cells).flatten = _
          rw [List.set_eq_take_append_cons_drop, if_pos hk, List.map_append, List.flatten_append, hGA, List.map_cons, List.flatten_cons, hGB]; rfl
        have hget : ∀ (i : Nat) (a b : Nd), ms[i]? = some a → m2[i]? = some b → b.ks = a.ks ∧ b.kv = a.kv := fun i a b ha hb => by
          rw [List.getElem?_set] at hb
          split at hb
          · rename_i e
            subst e
            rw [hmd2] at ha; cases ha
            simp [hk] at hb
            subst hb; exact ⟨rfl, rfl⟩
          · rw [ha] at hb; cases hb; exact ⟨rfl, rfl⟩
        have w2 : ∀ g' : AHeap, g'.blk β = some (GA ++ (.int .i64 md.op :: .int .i64 0 :: .int .i64 md.pos :: .str (md.s ++ { data := #[120] }) :: md.kv :: GB)) → NVw g' (.ref β 0 ms.length 5) m2 := fun g' hg' =>
          ⟨.inr ⟨β, by rw [hm2], by rw [hflat2]; exact hg'⟩, fun y hy => by
            obtain ⟨j, hj, rfl⟩ := List.mem_iff_getElem.1 hy
            have h2 := hget j ms[j] m2[j] (List.getElem?_eq_getElem (by omega)) (List.getElem?_eq_getElem hj)
            rw [h2.1, h2.2]; exact wm.kids _ (List.getElem_mem _)⟩
        have f2 : FR m2 [(m2.length : Int) - 1] := by
          rw [hm2]
          exact hfm.congr hm2 fun j a b ha hb => (hget j a b ha hb).1
        have ks2 : ∀ (j : Nat) (a b : Nd), ns[j]? = some a → m2[j]? = some b → a.ks = b.ks := fun j a b ha hb => by
          have hj : j < ms.length := by rw [← hm2]; exact (List.getElem?_eq_some_iff.1 hb).1
          rw [(hget j ms[j] b (List.getElem?_eq_getElem hj) hb).1]
          exact (hksm j a _ ha (List.getElem?_eq_getElem hj)).symm
        have bad : ∀ b : Bool, (b = true → ∀ (i : Nat) (x y : Nd), ns[i]? = some x → m2[i]? = some y → EqN x y) → b = false := fun b hb => by
          cases b with
          | false => rfl
          | true =>
            have h2 := hb rfl k nd _ hnd (show m2[k]? = some _ by show (ms.set k _)[k]? = _; rw [List.getElem?_set_self hk])
            have h3 := congrArg ByteArray.size h2.2
            rw [← q2] at h3
            have h4 : (md.s ++ { data := #[120] } : ByteArray).size = md.s.size + 1 := ByteArray.size_append
            have h5 : md.s.size = (md.s ++ { data := #[120] } : ByteArray).size := h3
            omega
        simp (maxSteps := 4000000) only [go_sem, reduceIte, reduceCtorEq, Nat.reduceAdd, Nat.reduceSub, Nat.reduceMul, Nat.reduceLeDiff, Nat.reduceLT, Nat.reduceEqDiff, Nat.reduceBEq, κ3, hk0, hk1, Int.toNat_natCast, hblk, d0, d3, d4, t3]
        refine ⟨fun _ => ⟨fun _ _ => ?_, fun _ => ?_⟩, fun _ => ?_⟩
        all_goals
          refine ⟨by omega, ?_, ?_⟩
          · rw [List.length_append, hA]; simp; omega
          refine callBy cb8 (c_same8 ⟨.inl ⟨ρ, rfl⟩, hkids⟩ (w2 _ (by simp [upd_same])) hfr f2 (by rw [hm2]; exact hml.symm) ks2 hpos (by omega) fun b b1 b2 => ?_)
          have hF := bad b b1
          subst hF
          simp (maxSteps := 4000000) only [go_sem, reduceIte, reduceCtorEq, Nat.reduceAdd, Nat.reduceSub, Nat.reduceMul, Nat.reduceLeDiff, Nat.reduceLT, Nat.reduceEqDiff, Nat.reduceBEq, κ3]
    · simp (maxSteps := 4000000) only [go_sem, reduceIte, reduceCtorEq, Nat.reduceAdd, Nat.reduceSub, Nat.reduceMul, Nat.reduceLeDiff, Nat.reduceLT, Nat.reduceEqDiff, Nat.reduceBEq, κ3, hc]
end Go.Proofs.Ab5
end
