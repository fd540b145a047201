/-
  Going over a tree from its root: the plain law.
-/
import Derived.Test.YtdgfmdjlhkjbaaaKb
set_option linter.all false
section
namespace Go.Proofs.Ab5
open Go.Ab Go.Proofs
variable {ns ns' : List Nd}

def EqN (nd nd' : Nd) : Prop := nd.op = nd'.op ∧ nd.s = nd'.s

/-- What holds where a node is taken: W waits, P is done. -/
structure Go8 (ns ns' : List Nd) (W P : List Nat) : Prop where
  nodup : (W ++ P).Nodup
  range : ∀ i ∈ W ++ P, i < ns.length
  closed : ∀ i ∈ P, ∀ nd, ns[i]? = some nd → ∀ k ∈ nd.ks, k.toNat ∈ W ++ P
  root : ns.length - 1 ∈ W ++ P
  parent : ∀ j ∈ W ++ P, j = ns.length - 1 ∨ ∃ i ∈ P, ∃ nd, ns[i]? = some nd ∧ (j : Int) ∈ nd.ks
  eqs : ∀ i ∈ P, ∀ nd nd', ns[i]? = some nd → ns'[i]? = some nd' → EqN nd nd'

theorem FR.nodup {r : Int} (h : FR ns [r]) : (ns.flatMap Nd.ks).Nodup := by
  have h1 : ((List.range ns.length).map Int.ofNat).Nodup := List.pairwise_map.2 (List.nodup_range.imp fun h e => h (Int.ofNat.inj e))
  exact (List.nodup_append.1 (h.perm.nodup_iff.2 h1)).1

theorem kid_lt : ∀ {ns : List Nd}, (ns.flatMap Nd.ks).Nodup → ∀ {i j : Nat} {a b : Nd} {k : Int}, i < j → ns[i]? = some a → ns[j]? = some b → k ∈ a.ks → k ∈ b.ks → False
  | [], _, i, j, a, b, k, _, h, _, _, _ => by simp at h
  | n :: ns, hn, 0, j + 1, a, b, k, _, h1, h2, ha, hb => by
    simp at h1; subst h1
    rw [List.flatMap_cons] at hn
    exact (List.nodup_append.1 hn).2.2 k ha k (List.mem_flatMap.2 ⟨b, List.mem_of_getElem? (by simpa using h2), hb⟩) rfl
  | n :: ns, hn, i + 1, j + 1, a, b, k, hij, h1, h2, ha, hb => by
    rw [List.flatMap_cons] at hn
    exact kid_lt (i := i) (j := j) (List.nodup_append.1 hn).2.1 (by omega) (by simpa using h1) (by simpa using h2) ha hb

theorem kid_one (hn : (ns.flatMap Nd.ks).Nodup) {i j : Nat} {a b : Nd} {k : Int} (h1 : ns[i]? = some a) (h2 : ns[j]? = some b) (ha : k ∈ a.ks) (hb : k ∈ b.ks) : i = j := by
  rcases Nat.lt_trichotomy i j with e | e | e
  · exact (kid_lt hn e h1 h2 ha hb).elim
  · exact e
  · exact (kid_lt hn e h2 h1 hb ha).elim

theorem ks_nodup (hn : (ns.flatMap Nd.ks).Nodup) {i : Nat} {nd : Nd} (h : ns[i]? = some nd) : nd.ks.Nodup := by
  induction ns generalizing i with
  | nil => simp at h
  | cons n ns ih =>
    rw [List.flatMap_cons] at hn
    cases i with
    | zero => simp at h; subst h; exact (List.nodup_append.1 hn).1
    | succ i => exact ih (List.nodup_append.1 hn).2.1 (by simpa using h)

theorem Go8.start (hp : 0 < ns.length) : Go8 ns ns' [ns.length - 1] [] :=
  ⟨by simp, fun i hi => by simp at hi; omega, fun i hi => (nomatch hi), by simp, fun j hj => .inl (by simpa using hj), fun i hi => (nomatch hi)⟩

theorem toNat_nodup {l : List Int} (hn : l.Nodup) (h0 : ∀ k ∈ l, 0 ≤ k) : (l.map Int.toNat).Nodup := by
  induction l with
  | nil => simp
  | cons k l ih =>
    rw [List.nodup_cons] at hn
    rw [List.map_cons, List.nodup_cons]
    refine ⟨fun hm => ?_, ih hn.2 fun k hk => h0 k (List.mem_cons_of_mem _ hk)⟩
    obtain ⟨k', hk', e⟩ := List.mem_map.1 hm
    have h1 := h0 k List.mem_cons_self
    have h2 := h0 k' (List.mem_cons_of_mem _ hk')
    have : k' = k := by omega
    subst this
    exact hn.1 hk'

theorem Go8.step {W P : List Nat} {i : Nat} {nd nd' : Nd} (hfr : FR ns [(ns.length : Int) - 1]) (g : Go8 ns ns' (W ++ [i]) P) (h1 : ns[i]? = some nd) (h2 : ns'[i]? = some nd') (he : EqN nd nd') :
    Go8 ns ns' (W ++ nd.ks.map Int.toNat) (i :: P) := by
  have hn := hfr.nodup
  have hkid := hfr.kid i nd h1
  have hperm : (W ++ nd.ks.map Int.toNat ++ i :: P).Perm (nd.ks.map Int.toNat ++ (W ++ [i] ++ P)) := by
    rw [List.append_assoc, List.append_assoc]
    refine (List.perm_append_comm_assoc _ _ _).trans ?_
    refine List.Perm.append_left _ ?_
    rw [List.singleton_append]
  have hmem : ∀ x, x ∈ W ++ [i] ++ P → x ∈ W ++ nd.ks.map Int.toNat ++ i :: P := fun x hx => hperm.mem_iff.2 (List.mem_append.2 (.inr hx))
  have hiW : i ∉ P := by
    intro hi
    have := g.nodup
    rw [List.append_assoc] at this
    exact (List.nodup_append.1 (List.nodup_append.1 this).2.1).2.2 i (by simp) i hi rfl
  refine ⟨?_, fun x hx => ?_, fun x hx nd2 hnd2 k hk => ?_, hmem _ g.root, fun x hx => ?_, fun x hx a b ha hb => ?_⟩
  · rw [hperm.nodup_iff, List.nodup_append]
    refine ⟨toNat_nodup (ks_nodup hn h1) fun k hk => (hkid k hk).1, g.nodup, fun a ha b hb e => ?_⟩
    subst e
    obtain ⟨k, hk, e⟩ := List.mem_map.1 ha
    have hk' := hkid k hk
    have hil : i < ns.length := (List.getElem?_eq_some_iff.1 h1).1
    rcases g.parent a hb with e2 | ⟨j, hj, ndj, hndj, hkj⟩
    · omega
    · have : (a : Int) = k := by omega
      rw [this] at hkj
      have := kid_one hn h1 hndj hk hkj
      subst this
      exact hiW hj
  · rcases List.mem_append.1 (hperm.mem_iff.1 hx) with hx | hx
    · obtain ⟨k, hk, e⟩ := List.mem_map.1 hx
      have hk' := hkid k hk
      have hil : i < ns.length := (List.getElem?_eq_some_iff.1 h1).1
      omega
    · exact g.range x hx
  · rcases List.mem_cons.1 hx with e | hx
    · subst e
      rw [h1] at hnd2; cases hnd2
      exact hperm.mem_iff.2 (List.mem_append.2 (.inl (List.mem_map.2 ⟨k, hk, rfl⟩)))
    · exact hmem _ (g.closed x hx nd2 hnd2 k hk)
  · rcases List.mem_append.1 (hperm.mem_iff.1 hx) with hx | hx
    · obtain ⟨k, hk, e⟩ := List.mem_map.1 hx
      have hk' := hkid k hk
      refine .inr ⟨i, List.mem_cons_self, nd, h1, ?_⟩
      have : (x : Int) = k := by omega
      rw [this]; exact hk
    · rcases g.parent x hx with e | ⟨j, hj, r⟩
      · exact .inl e
      · exact .inr ⟨j, List.mem_cons_of_mem _ hj, r⟩
  · rcases List.mem_cons.1 hx with e | hx
    · subst e
      rw [h1] at ha; rw [h2] at hb; cases ha; cases hb; exact he
    · exact g.eqs x hx a b ha hb

theorem Go8.all {P : List Nat} (hfr : FR ns [(ns.length : Int) - 1]) (g : Go8 ns ns' [] P) : ∀ (i : Nat) (nd nd' : Nd), ns[i]? = some nd → ns'[i]? = some nd' → EqN nd nd' := by
  have key : ∀ d j, j + d + 1 = ns.length → j ∈ P := by
    intro d
    induction d using Nat.strongRecOn with
    | _ d ih =>
      intro j hj
      cases d with
      | zero => have := g.root; rw [List.nil_append] at this; rwa [show j = ns.length - 1 by omega]
      | succ d =>
        have hm : (j : Int) ∈ ns.flatMap Nd.ks ++ [(ns.length : Int) - 1] := hfr.perm.mem_iff.2 (List.mem_map.2 ⟨j, List.mem_range.2 (by omega), rfl⟩)
        rcases List.mem_append.1 hm with hm | hm
        · obtain ⟨nd, h1, h2⟩ := List.mem_flatMap.1 hm
          obtain ⟨i, hi, e⟩ := List.mem_iff_getElem.1 h1
          have h3 : ns[i]? = some nd := by rw [List.getElem?_eq_getElem hi, e]
          have h4 := hfr.kid i nd h3 _ h2
          have hiP := ih (ns.length - 1 - i) (by omega) i (by omega)
          have := g.closed i hiP nd h3 _ h2
          simpa using this
        · simp at hm; omega
  intro i nd nd' h1 h2
  have hi := (List.getElem?_eq_some_iff.1 h1).1
  exact g.eqs i (key (ns.length - 1 - i) i (by omega)) nd nd' h1 h2

theorem nodup_len : ∀ (n : Nat) (l : List Nat), l.Nodup → (∀ i ∈ l, i < n) → l.length ≤ n
  | 0, l, _, h => by cases l with
    | nil => simp
    | cons a l => exact absurd (h a List.mem_cons_self) (by omega)
  | n + 1, l, hn, h => by
    by_cases hm : n ∈ l
    · have h1 := nodup_len n (l.erase n) (hn.erase n) fun i hi => by
        have h2 := (hn.mem_erase_iff).1 hi
        have h3 := h i h2.2
        have := h2.1
        omega
      rw [List.length_erase_of_mem hm] at h1
      omega
    · have := nodup_len n l hn fun i hi => by
        have h3 := h i hi
        have : i ≠ n := fun e => hm (e ▸ hi)
        omega
      omega

theorem Go8.plen {W P : List Nat} (g : Go8 ns ns' W P) : (W ++ P).length ≤ ns.length := nodup_len _ _ g.nodup g.range
end Go.Proofs.Ab5
end
/- Whether two trees are the same: the walk. -/
section
set_option maxRecDepth 10000
set_option maxHeartbeats 8000000
set_option linter.unusedSimpArgs false
set_option linter.unusedVariables false
namespace Go.Proofs.Ab5
open Go.Ab Go.Proofs
variable {h g : AHeap} {S : AVal → AHeap → Prop} {v va vb : AVal} {ns ns' : List Nd}

def wcells (W : List Nat) : List AVal := W.flatMap fun i : Nat => [.int .i64 i, .int .i64 i]
theorem wcells_len {W : List Nat} : (wcells W).length = W.length * 2 := by
  induction W with
  | nil => rfl
  | cons i W ih => simp only [wcells, List.flatMap_cons, List.length_append, List.length_cons, List.length_nil] at ih ⊢; omega
theorem wcells_snoc {W : List Nat} {i : Nat} : wcells (W ++ [i]) = wcells W ++ [.int .i64 i, .int .i64 i] := by simp [wcells]

/-- A stack of pairs, in a block of its own. -/
def Wk (h g : AHeap) (v : AVal) (W : List Nat) : Prop :=
  ∃ β off cs, v = .ref β off W.length 2 ∧ h.blk β = none ∧ g.blk β = some cs ∧ off + W.length * 2 ≤ cs.length ∧ (cs.drop off).take (W.length * 2) = wcells W

theorem Wk.loc {W : List Nat} (k : Wk h g v W) : v.isLoc = false := by obtain ⟨β, off, cs, rfl, _⟩ := k; rfl
theorem Wk.len {W : List Nat} (k : Wk h g v W) : aLen v = some (W.length : Int) := by obtain ⟨β, off, cs, rfl, _⟩ := k; rfl
theorem Wk.fits {W : List Nat} {e : TypeId} (k : Wk h g v W) : fitsKind v (.slice e) = true := by obtain ⟨β, off, cs, rfl, _⟩ := k; rfl

theorem Wk.parts {Ws : List Nat} {i : Nat} {cs : List AVal} {off : Nat} (h4 : (cs.drop off).take ((Ws ++ [i]).length * 2) = wcells (Ws ++ [i])) : ∃ R, cs.drop off = wcells Ws ++ ([.int .i64 i, .int .i64 i] ++ R) := by
  have e := (List.take_append_drop ((Ws ++ [i]).length * 2) (cs.drop off)).symm
  rw [h4, wcells_snoc, List.append_assoc] at e
  exact ⟨_, e⟩

theorem Wk.top {Ws : List Nat} {i : Nat} (k : Wk h g v (Ws ++ [i])) : ∃ β o r, aIndexAddr 2 v (Ws.length : Int) = some (.ptr β o) ∧ (g.blk β).map (·.drop o) = some (.int .i64 i :: .int .i64 i :: r) := by
  obtain ⟨β, off, cs, rfl, h1, h2, h3, h4⟩ := k
  obtain ⟨R, e⟩ := Wk.parts h4
  refine ⟨β, off + (Ws.length : Int).toNat * 2, R, ?_, ?_⟩
  · rw [aIndexAddr_ref, if_pos ⟨Int.natCast_nonneg _, by simp; omega⟩]
  · rw [h2, Int.toNat_natCast]
    refine congrArg some ?_
    show cs.drop (off + Ws.length * 2) = _
    rw [← List.drop_drop, e, List.drop_append, wcells_len, Nat.sub_self, List.drop_of_length_le (by rw [wcells_len]; omega)]
    rfl

theorem Wk.pop {Ws : List Nat} {i : Nat} (k : Wk h g v (Ws ++ [i])) : ∃ v', aSlice 2 v none (some (Ws.length : Int)) = some v' ∧ Wk h g v' Ws ∧ v'.isLoc = false := by
  obtain ⟨β, off, cs, rfl, h1, h2, h3, h4⟩ := k
  obtain ⟨R, e⟩ := Wk.parts h4
  refine ⟨.ref β off Ws.length 2, ?_, ⟨β, off, cs, rfl, h1, h2, by simp at h3; omega, ?_⟩, rfl⟩
  · simp only [aSlice, if_true, Option.getD_some]
    rw [if_pos ⟨Int.natCast_nonneg _, by simp; omega⟩, Int.toNat_natCast]
  · rw [e, List.take_append_of_le_length (by rw [wcells_len]; omega), List.take_of_length_le (by rw [wcells_len]; omega)]

theorem Wk.push {Ws : List Nat} (k : Wk h g v Ws) (hle : g.Le h) {n : Nat} (hn : g.blk n = none) (x : Nat) (hlen : Ws.length + 1 ≤ 4294967296) {te : TI} (hs : te.size = 2) (hb : te.bytes ≤ 4096) {K : AVal × AHeap → Prop}
    (h1 : ∀ v' g', Wk h g' v' (Ws ++ [x]) → g'.Le h → v'.isLoc = false → K (v', g')) : Go.Ab.W (aAppend te true g n v [[.int .i64 x, .int .i64 x]]) K := by
  obtain ⟨β, off, cs, rfl, k1, k2, k3, k4⟩ := k
  have hnβ : n ≠ β := fun e => by rw [e, k2] at hn; cases hn
  have hnh : h.blk n = none := by
    cases e : h.blk n with
    | none => rfl
    | some cs => rw [hle.1 n cs e] at hn; cases hn
  refine ⟨(.ref n 0 (Ws.length + 1) 2, { g with blk := upd (upd g.blk β none) n (some ((cs.drop off).take (Ws.length * 2) ++ [.int .i64 x, .int .i64 x])) }), ?_, h1 _ _ ⟨n, 0, _, by simp, hnh, upd_same _ _ _, ?_, ?_⟩ ⟨fun γ ds e => ?_, hle.2⟩ rfl⟩
  · simp only [aAppend, k2]
    rw [if_pos ⟨hs.symm, by rw [hs]; omega, by simpa [aFits, hb] using hlen⟩, hs]; simp
  · rw [k4]; simp [wcells_len]; omega
  · rw [k4, wcells_snoc, List.drop_zero, List.take_of_length_le (by simp [wcells_len]; omega)]
  · show upd (upd g.blk β none) n _ γ = _
    rw [upd_ne _ _ (fun e' => by subst e'; rw [hnh] at e; cases e), upd_ne _ _ (fun e' => by subst e'; rw [k1] at e; cases e)]
    exact hle.1 γ ds e
end Go.Proofs.Ab5
end
/- Whether two trees are the same: the program's answer. -/
section
set_option maxRecDepth 10000
set_option maxHeartbeats 8000000
set_option linter.unusedSimpArgs false
set_option linter.unusedVariables false
namespace Go.Proofs.Ab5
open Go.Ab Go.Proofs
variable {h g : AHeap} {S : AVal → AHeap → Prop} {v va vb : AVal} {ns ns' : List Nd}
def κ8 : Tmp → Bool := fun t => t == 32 || t == 104

theorem NVw.le (w : NVw h v ns) (hle : g.Le h) : NVw g v ns := ⟨w.val.imp id fun ⟨β, e, hc⟩ => ⟨β, e, hle.1 β _ hc⟩, w.kids⟩
theorem locN_not {a : AVal} (h : a.isLoc = false) : locN a = [] := by cases a <;> first | rfl | (simp [AVal.isLoc] at h)

theorem c_same8 (wa : NVw h va ns) (wb : NVw h vb ns') (fa : FR ns [(ns.length : Int) - 1]) (fb : FR ns' [(ns'.length : Int) - 1]) (hl : ns.length = ns'.length)
    (hks : ∀ (i : Nat) (nd nd' : Nd), ns[i]? = some nd → ns'[i]? = some nd' → nd.ks = nd'.ks) (hp : 0 < ns.length) (hm : ns.length ≤ 1000)
    (h1 : ∀ b, (b = true → ∀ (i : Nat) (nd nd' : Nd), ns[i]? = some nd → ns'[i]? = some nd' → EqN nd nd') → (b = false → ∃ (i : Nat) (nd nd' : Nd), ns[i]? = some nd ∧ ns'[i]? = some nd' ∧ ¬ EqN nd nd') → S (.bool b) h) :
    ACalls Try.prog 8 [va, vb] h S := by
  refine ACalls.weaken (R := fun r h' => ∃ b, r = .bool b ∧ (b = true → ∀ (i : Nat) (nd nd' : Nd), ns[i]? = some nd → ns'[i]? = some nd' → EqN nd nd') ∧ (b = false → ∃ (i : Nat) (nd nd' : Nd), ns[i]? = some nd ∧ ns'[i]? = some nd' ∧ ¬ EqN nd nd') ∧ h'.Le h) ?_ ?_
  rotate_left
  · rintro r h' ⟨b, rfl, e1, e2, hle⟩
    exact ⟨_, h, fun _ _ e => e, hle, h1 b e1 e2⟩
  refine acalls_mf 17 89 Try.func8 rfl rfl (Nat.le_of_ble_eq_true rfl) (rd_ok hMix (κ := κ8) δ8 _ (by decide +kernel) ?_)
  have hw0 : IntKind.wrap .i64 ((ns.length : Int) - 1) = ((ns.length - 1 : Nat) : Int) := by rw [wrap64] <;> omega
  have hw1 : IntKind.wrap .i64 ((ns'.length : Int) - 1) = ((ns.length - 1 : Nat) : Int) := by rw [wrap64] <;> omega
  have hl' : (ns.length : Int) = ns'.length := by omega
  simp (maxSteps := 4000000) only [go_sem, reduceIte, reduceCtorEq, Nat.reduceAdd, Nat.reduceSub, Nat.reduceMul, Nat.reduceLeDiff, Nat.reduceLT, Nat.reduceEqDiff, Nat.reduceBEq, Try.ntmps8, Try.f8, δ8, κ8, wa.loc, wb.loc]
  refine callBy cb19 ((c_tree19 wa fa hm hp).mono ?_)
  rintro r g ⟨rfl, hg⟩
  rw [hg]
  clear hg
  simp (maxSteps := 4000000) only [go_sem, reduceIte, reduceCtorEq, Nat.reduceAdd, Nat.reduceSub, Nat.reduceMul, Nat.reduceLeDiff, Nat.reduceLT, Nat.reduceEqDiff, Nat.reduceBEq, δ8, κ8, wa.loc, wb.loc]
  refine callBy cb19 ((c_tree19 wb fb (by omega) (by omega)).mono ?_)
  rintro r g ⟨rfl, hg⟩
  rw [hg]
  clear hg
  have hne : ((ns'.length : Nat) : Int) = ns'.length := rfl
  simp (maxSteps := 4000000) only [go_sem, reduceIte, reduceCtorEq, Nat.reduceAdd, Nat.reduceSub, Nat.reduceMul, Nat.reduceLeDiff, Nat.reduceLT, Nat.reduceEqDiff, Nat.reduceBEq, δ8, κ8, wa.loc, wb.loc, wa.len, wa.fits, wb.len, wb.fits, hw0, hw1, hl']
  intro n hn hL
  have wk0 : Wk h ⟨upd h.blk n (some [.int .i64 ((ns.length - 1 : Nat) : Int), .int .i64 ((ns.length - 1 : Nat) : Int)]), h.live⟩ (.ref n 0 1 2) [ns.length - 1] := ⟨n, 0, _, rfl, hn, upd_same _ _ _, by simp, rfl⟩
  have le0 : AHeap.Le ⟨upd h.blk n (some [.int .i64 ((ns.length - 1 : Nat) : Int), .int .i64 ((ns.length - 1 : Nat) : Int)]), h.live⟩ h := ⟨fun β cs e => by show upd h.blk n _ β = _; rw [upd_ne _ _ (fun e' => by subst e'; rw [hn] at e; cases e)]; exact e, fun _ e => e⟩
  refine AWp.loop_mf 89 [true, true, false, false, false, true, false, false, false, false, false, false, false, false, false, false, false, false, false, false, false, false, false, false, false, false, false, false, false, false, false, false, false, false, false, false, false, false, false, false, false, false, false, false, false, false, false, false, false, false, false, false, false, false, false, false, false, false, false, false, false, false, false, false, false, false, false, false, false, false, false, false, false, false, false, false, false, false, false, false, false, false, false, false, false, false, false, false, false] [] (fun z : AVal × List Nat × List Nat × AHeap => ⟨(mkF 17 89 [va, vb, .any, .any, .any, z.1, .any, .any, .any, .any, .any, .any, .any, .any, .any, .any, .any, .any, .any, .any, .any, .any, .any, .any, .any, .any, .any, .any, .any, .any, .any, .any, .any, .any, .any, .any, .any, .any, .any, .any, .any, .any, .any, .any, .any, .any, .any, .any, .any, .any, .any, .any, .any, .any, .any, .any, .any, .any, .any, .any, .any, .any, .any, .any, .any, .any, .any, .any, .any, .any, .any, .any, .any, .any, .any, .any, .any, .any, .any, .any, .any, .any, .any, .any, .any, .any, .any, .any, .any] []), []⟩) (fun z => z.2.2.2) (fun z => Wk h z.2.2.2 z.1 z.2.1 ∧ z.2.2.2.Le h ∧ Go8 ns ns' z.2.1 z.2.2.1) (fun z => ns.length - z.2.2.1.length) (_, [ns.length - 1], [], _) ?_ ?_ rfl ⟨wk0, le0, Go8.start hp⟩ ?_
  · simp (maxSteps := 4000000) only [go_sem, reduceIte, reduceCtorEq, Nat.reduceAdd, Nat.reduceSub, Nat.reduceMul, Nat.reduceLeDiff, Nat.reduceLT, Nat.reduceEqDiff, Nat.reduceBEq, wa.loc, wb.loc]
  · simp (maxSteps := 4000000) only [go_sem, reduceIte, reduceCtorEq, Nat.reduceAdd, Nat.reduceSub, Nat.reduceMul, Nat.reduceLeDiff, Nat.reduceLT, Nat.reduceEqDiff, Nat.reduceBEq]
  rintro ⟨wv, Ws, P, g⟩ ⟨hwk, hle, hgo⟩
  dsimp only at hwk hle hgo ⊢
  refine rd_ok hMix (κ := κ8) δ8 _ (by decide +kernel) ?_
  rcases List.eq_nil_or_concat Ws with e | ⟨W', i, e⟩
  · subst e
    have h0 : ¬ (0 : Int) < ((0 : Nat) : Int) := by simp
    simp (maxSteps := 4000000) only [go_sem, reduceIte, reduceCtorEq, Nat.reduceAdd, Nat.reduceSub, Nat.reduceMul, Nat.reduceLeDiff, Nat.reduceLT, Nat.reduceEqDiff, Nat.reduceBEq, δ8, κ8, hwk.len, hwk.fits, hwk.loc, h0]
    exact ⟨true, rfl, fun _ => hgo.all fa, fun e => (nomatch e), hle⟩
  · rw [List.concat_eq_append] at e
    subst e
    have hplen := hgo.plen
    have hl1 : (W' ++ [i]).length = W'.length + 1 := by simp
    have hpos : (0 : Int) < ((W' ++ [i]).length : Int) := by omega
    have hw : IntKind.wrap .i64 (((W' ++ [i]).length : Int) - 1) = W'.length := by
      rw [List.length_append] at hplen
      rw [wrap64] <;> omega
    have hlenW := hwk.len
    have hfitW : ∀ e, fitsKind wv (.slice e) = true := fun e => hwk.fits
    have hlocW := hwk.loc
    obtain ⟨β, o, rt, t1, t2⟩ := hwk.top
    obtain ⟨wv', p1, p2, p3⟩ := hwk.pop
    have hi : i < ns.length := hgo.range i (by simp)
    obtain ⟨nd, hnd⟩ : ∃ nd, ns[i]? = some nd := ⟨_, List.getElem?_eq_getElem hi⟩
    obtain ⟨nd', hnd'⟩ : ∃ nd', ns'[i]? = some nd' := ⟨_, List.getElem?_eq_getElem (by omega)⟩
    obtain ⟨a, ra, a1, a2, a3⟩ := (wa.le hle).at hnd
    obtain ⟨b, rb, b1, b2, b3⟩ := (wb.le hle).at hnd'
    have a4 := locN_not a3
    have b4 := locN_not b3
    have hk := wa.kids nd (List.mem_of_getElem? hnd)
    have hk' := wb.kids nd' (List.mem_of_getElem? hnd')
    have hke := hks i nd nd' hnd hnd'
    generalize hN : ((W' ++ [i]).length : Int) = N at hlenW hpos hw
    simp (maxSteps := 4000000) only [go_sem, reduceIte, reduceCtorEq, Nat.reduceAdd, Nat.reduceSub, Nat.reduceMul, Nat.reduceLeDiff, Nat.reduceLT, Nat.reduceEqDiff, Nat.reduceBEq, δ8, κ8, hlenW, hfitW, hlocW, hpos, hw, t1, t2]
    change Go.Ab.W (aSlice 2 wv none (some (W'.length : Int))) _
    have hk2 : Ints nd'.kv nd.ks := by rw [hke]; exact hk'
    simp (maxSteps := 4000000) only [go_sem, reduceIte, reduceCtorEq, Nat.reduceAdd, Nat.reduceSub, Nat.reduceMul, Nat.reduceLeDiff, Nat.reduceLT, Nat.reduceEqDiff, Nat.reduceBEq, δ8, κ8, ↓p1, p3, a1, a2, a4, b1, b2, b4, Nd.cells, hk.loc, hk'.loc, hk.one, hk'.one, hk.len, hk.fits, hk2.len, hk2.fits]
    refine ⟨fun ho => ⟨false, rfl, fun e => (nomatch e), fun _ => ⟨i, nd, nd', hnd, hnd', fun e => ho e.1⟩, hle⟩, fun ho => ⟨fun hs => ⟨false, rfl, fun e => (nomatch e), fun _ => ⟨i, nd, nd', hnd, hnd', fun e => hs e.2⟩, hle⟩, fun hs => ?_⟩⟩
    refine AWp.loop_mf 89 [true, true, false, false, false, true, false, true, true, false, false, false, false, false, false, false, false, false, false, false, false, false, false, false, false, false, false, false, false, false, false, false, false, false, false, false, false, false, false, false, false, false, false, false, false, false, false, false, false, false, false, false, false, false, false, false, false, false, false, false, false, false, false, false, false, false, false, false, false, false, false, false, false, false, false, false, false, false, false, false, false, false, false, false, false, false, false, true, true] [7, 8] (fun z : Nat × AVal × AHeap => ⟨(mkF 17 89 [va, vb, .any, .any, .any, z.2.1, .any, .loc 7 0, .loc 8 0, .any, .any, .any, .any, .any, .any, .any, .any, .any, .any, .any, .any, .any, .any, .any, .any, .any, .any, .any, .any, .any, .any, .any, .any, .any, .any, .any, .any, .any, .any, .any, .any, .any, .any, .any, .any, .any, .any, .any, .any, .any, .any, .any, .any, .any, .any, .any, .any, .any, .any, .any, .any, .any, .any, .any, .any, .any, .any, .any, .any, .any, .any, .any, .any, .any, .any, .any, .any, .any, .any, .any, .any, .any, .any, .any, .any, .any, .any, .int .i64 nd.ks.length, .int .i64 z.1] []), [(7, [.int .i64 nd.op, .int .i64 0, .int .i64 nd.pos, .str nd.s, nd.kv]), (8, [.int .i64 nd'.op, .int .i64 0, .int .i64 nd'.pos, .str nd'.s, nd'.kv])]⟩) (fun z => z.2.2) (fun z => z.1 ≤ nd.ks.length ∧ Wk h z.2.2 z.2.1 (W' ++ (nd.ks.take z.1).map Int.toNat) ∧ z.2.2.Le h) (fun z => nd.ks.length - z.1) (0, wv', g) ?_ ?_ rfl ⟨Nat.zero_le _, by simpa using p2, hle⟩ ?_
    · simp (maxSteps := 4000000) only [go_sem, reduceIte, reduceCtorEq, Nat.reduceAdd, Nat.reduceSub, Nat.reduceMul, Nat.reduceLeDiff, Nat.reduceLT, Nat.reduceEqDiff, Nat.reduceBEq, wa.loc, wb.loc, p3]
    · simp (maxSteps := 4000000) only [go_sem, reduceIte, reduceCtorEq, Nat.reduceAdd, Nat.reduceSub, Nat.reduceMul, Nat.reduceLeDiff, Nat.reduceLT, Nat.reduceEqDiff, Nat.reduceBEq]
      rfl
    rintro ⟨q, wv2, g2⟩ ⟨hq, hwk2, hle2⟩
    dsimp only at hq hwk2 hle2 ⊢
    refine rd_ok hMix (κ := κ8) δ8 _ (by decide +kernel) ?_
    have hkl : nd.ks.length ≤ 1000 := by
      have h2 := (hgo.step fa hnd hnd' ⟨ho, hs⟩).plen
      simp at h2; omega
    have hWl : W'.length ≤ 1000 := by rw [List.length_append] at hplen; omega
    by_cases hlt : (q : Int) < nd.ks.length
    · have hq' : q < nd.ks.length := by omega
      obtain ⟨k, hke2⟩ : ∃ k, nd.ks[q] = k := ⟨_, rfl⟩
      have hki : nd.ks[q]? = some k := by rw [List.getElem?_eq_getElem hq', hke2]
      obtain ⟨y, hy⟩ : ∃ y : Nat, k = y := ⟨k.toNat, by have := (fa.kid i nd hnd k (List.mem_of_getElem? hki)).1; omega⟩
      subst hy
      have hat := hk.at (i := (q : Int)) (Int.natCast_nonneg q) (k := (y : Int)) (by simpa using hki)
      have hat2 := hk2.at (i := (q : Int)) (Int.natCast_nonneg q) (k := (y : Int)) (by simpa using hki)
      have hwq := wrapN (n := q) (by omega)
      simp (maxSteps := 4000000) only [go_sem, reduceIte, reduceCtorEq, Nat.reduceAdd, Nat.reduceSub, Nat.reduceMul, Nat.reduceLeDiff, Nat.reduceLT, Nat.reduceEqDiff, Nat.reduceBEq, δ8, κ8, hlt, hat, hat2, hwk2.loc, hk.loc, hk'.loc]
      intro n2 hn2 hL2
      refine hwk2.push hle2 hn2 y (by simp; omega) rfl (by decide) fun v' g' w1 w2 w3 => ?_
      simp (maxSteps := 4000000) only [go_sem, reduceIte, reduceCtorEq, Nat.reduceAdd, Nat.reduceSub, Nat.reduceMul, Nat.reduceLeDiff, Nat.reduceLT, Nat.reduceEqDiff, Nat.reduceBEq, w3, wa.loc, wb.loc, hwq]
      have ht : nd.ks.take (q + 1) = nd.ks.take q ++ [(y : Int)] := by rw [List.take_succ_eq_append_getElem hq', hke2]
      refine ⟨(q + 1, v', g'), rfl, rfl, ⟨by dsimp only; omega, ?_, w2⟩, by dsimp only; omega⟩
      dsimp only
      rw [ht, List.map_append, ← List.append_assoc]
      exact w1
    · simp (maxSteps := 4000000) only [go_sem, reduceIte, reduceCtorEq, Nat.reduceAdd, Nat.reduceSub, Nat.reduceMul, Nat.reduceLeDiff, Nat.reduceLT, Nat.reduceEqDiff, Nat.reduceBEq, δ8, κ8, hlt, wa.loc, wb.loc, hwk2.loc]
      rw [List.take_of_length_le (by omega)] at hwk2
      refine ⟨(wv2, W' ++ nd.ks.map Int.toNat, i :: P, g2), rfl, rfl, ⟨hwk2, hle2, hgo.step fa hnd hnd' ⟨ho, hs⟩⟩, ?_⟩
      rw [List.length_append, hl1] at hplen
      dsimp only
      simp
      omega
end Go.Proofs.Ab5
end
