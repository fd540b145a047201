/-
  The reference parser: nodes laid; what looks at the nodes.
-/
import Derived.Test.YtdgfmdjlhkjbaaaDa
set_option linter.all false
section
set_option maxRecDepth 10000
set_option linter.unusedSimpArgs false
set_option linter.unusedVariables false
namespace Go.Proofs.Ab5
open Go.Ab Go.Proofs

theorem append_nodes {L : Nat → Bool} {nv : AVal} {ns : List Nd} (hn : NV L nv ns) {b : Nat → Option (List AVal)} {n : Nat} (hL : L n = false) (hlen : ns.length < 4294967296) {nd : Nd} {te : TI} (hs : te.size = 5) (hb : te.bytes ≤ 4096)
    {k : AVal × AHeap → Prop} (h1 : ∀ nv1 L1, NV L1 nv1 (ns ++ [nd]) → Keep L nv L1 nv1 → aLen nv1 = some ((ns.length : Int) + 1) → k (nv1, ⟨b, L1⟩)) : W (aAppend te false ⟨b, L⟩ n nv [nd.cells]) k := by
  rcases hn.val with ⟨rfl, rfl⟩ | ⟨ρ, rfl⟩
  · refine ⟨(.list (some n) 5 [nd.cells], ⟨b, upd L n true⟩), ?_, h1 _ _ ⟨.inr ⟨n, rfl⟩, fun ρ h => ?_⟩ (fun ρ h _ => ?_) ?_⟩
    · simp only [aAppend]
      rw [if_pos (by simp [aFits]; omega), hs]; simp
    · simp [rowOf] at h; subst h; simp [upd]
    · refine ⟨Grow.upd n ρ h, fun e => ?_⟩
      simp [rowOf] at e; subst e; rw [hL] at h; cases h
    · rfl
  · have hρ := hn.own ρ rfl
    refine ⟨(.list (some n) 5 ((ns ++ [nd]).map Nd.cells), ⟨b, upd (upd L ρ false) n true⟩), ?_, h1 _ _ ⟨.inr ⟨n, rfl⟩, fun ρ h => ?_⟩ (fun ρ' h hne => ?_) ?_⟩
    · simp only [aAppend]
      rw [if_pos ⟨hs.symm, hρ, by simp [aFits]; omega⟩, hs]; simp
    · simp [rowOf] at h; subst h; simp [upd]
    · refine ⟨?_, fun e => ?_⟩
      · have : ρ' ≠ ρ := fun e => hne (by rw [e]; rfl)
        simp only [upd]; split
        · rfl
        · exact h
      · simp [rowOf] at e; subst e; rw [hL] at h; cases h
    · simp [aLen]

section
variable {p : Nat} {b : Nat → Option (List AVal)} {L : Nat → Bool} {ρt : Option Nat} {ts : List Tok} {at' : Int} {nv : AVal} {deep : Int} {df lp tp : Bool} {code pos : Int} {ns : List Nd} {R : List Int}
variable {S : AVal → AHeap → Prop}

theorem Keep.trans' {L L1 L2 : Nat → Bool} {nv nv2 : AVal} (g : Grow L L1) (k : Keep L1 nv L2 nv2) : Keep L nv L2 nv2 := Keep.trans g.keep k

theorem Ints.cells {kv : AVal} {ks : List Int} (h : Ints kv ks) : kv.cells = some [kv] := by
  rcases h with ⟨rfl, rfl⟩ | ⟨ρ, rfl⟩ <;> rfl
theorem Ints.loc {kv : AVal} {ks : List Int} (h : Ints kv ks) : kv.isLoc = false := by
  rcases h with ⟨rfl, rfl⟩ | ⟨ρ, rfl⟩ <;> rfl
theorem Ints.one {kv : AVal} {ks : List Int} (h : Ints kv ks) : kv.one = true := by
  rcases h with ⟨rfl, rfl⟩ | ⟨ρ, rfl⟩ <;> rfl
theorem NV.cells (h : NV L nv ns) : nv.cells = some [nv] := by
  rcases h.val with ⟨rfl, rfl⟩ | ⟨ρ, rfl⟩ <;> rfl
theorem NV.one (h : NV L nv ns) : nv.one = true := by
  rcases h.val with ⟨rfl, rfl⟩ | ⟨ρ, rfl⟩ <;> rfl
theorem NV.fits {e : TypeId} (h : NV L nv ns) : fitsKind nv (.slice e) = true := by
  rcases h.val with ⟨rfl, rfl⟩ | ⟨ρ, rfl⟩ <;> rfl
theorem Ints.fits {kv : AVal} {ks : List Int} {e : TypeId} (h : Ints kv ks) : fitsKind kv (.slice e) = true := by
  rcases h with ⟨rfl, rfl⟩ | ⟨ρ, rfl⟩ <;> rfl
theorem Ints.len {kv : AVal} {ks : List Int} (h : Ints kv ks) : aLen kv = some (ks.length : Int) := by
  rcases h with ⟨rfl, rfl⟩ | ⟨ρ, rfl⟩
  · rfl
  · simp [aLen, icells]
theorem Ints.at {kv : AVal} {ks : List Int} (h : Ints kv ks) {i : Int} (h0 : 0 ≤ i) {k : Int} (hi : ks[i.toNat]? = some k) : aIndexAddr 1 kv i = some (.pin [.int .i64 k]) := by
  rcases h with ⟨rfl, rfl⟩ | ⟨ρ, rfl⟩
  · simp at hi
  · rw [aIndexAddr_list, if_pos h0, icells, List.getElem?_map, hi]; rfl
theorem NV.at (h : NV L nv ns) {i : Int} (h0 : 0 ≤ i) {nd : Nd} (hi : ns[i.toNat]? = some nd) : aIndexAddr 5 nv i = some (.pin nd.cells) := by
  rcases h.val with ⟨rfl, rfl⟩ | ⟨ρ, rfl⟩
  · simp at hi
  · rw [aIndexAddr_list, if_pos h0, List.getElem?_map, hi]; rfl

theorem PI.put {ks : List Int} (h : PI ts at' nv ns code L (ks ++ R)) {nd : Nd} (hk : Ints nd.kv nd.ks) (hks : nd.ks = ks) {nv1 : AVal} {L1 : Nat → Bool} (hn : NV L1 nv1 (ns ++ [nd])) : PI ts at' nv1 (ns ++ [nd]) code L1 ((ns.length : Int) :: R) :=
  ⟨h.tok, h.pos, h.lt, hn, fun n hm => by rcases List.mem_append.1 hm with hm | hm; exact h.kids n hm; simp at hm; subst hm; exact hk, fun e => FR.put (by rw [hks]; exact h.fr e)⟩

theorem c_put {ks : List Int} {op po : Int} {s : ByteArray} {kv : AVal} (h : PI ts at' nv ns code L (ks ++ R)) (hk : Ints kv ks) (hlen : ns.length < 4294967296)
    (h1 : ∀ r nv1 ns1 L1, PI ts at' nv1 ns1 code L1 (r :: R) → Keep L nv L1 nv1 → (ns1.length ≤ ns.length + 1 ∧ (code ≠ 0 → ns1.length = ns.length)) → S (.int .i64 r) ⟨upd b p (some (pcells ρt ts at' nv1 deep df lp tp code pos)), L1⟩) :
    ACalls Try.prog 16 [.ptr p 0, .int .i64 op, .int .i64 po, .str s, kv] ⟨upd b p (some (pcells ρt ts at' nv deep df lp tp code pos)), L⟩ S := by
  refine acalls_of Try.func16 rfl (rd_ok hMix (κ := fun _ => false) δ0 _ rfl ?_)
  simp (maxSteps := 4000000) only [go_sem, reduceIte, reduceCtorEq, Nat.reduceAdd, Nat.reduceSub, Nat.reduceMul, Nat.reduceLeDiff, Nat.reduceLT, Nat.reduceEqDiff, Nat.reduceBEq, Try.ntmps16, Try.f16]
  refine callBy cb12 (c_bad (fun e => ?_) (fun e => ?_)) <;> simp (maxSteps := 4000000) only [go_sem, reduceIte, reduceCtorEq, Nat.reduceAdd, Nat.reduceSub, Nat.reduceMul, Nat.reduceLeDiff, Nat.reduceLT, Nat.reduceEqDiff, Nat.reduceBEq, hk.cells, hk.one]
  · intro n1 hb1 hl1
    intro n2 hb2 hl2
    refine append_nodes (nd := ⟨op, po, s, kv, ks⟩) ((h.grow (Grow.upd n1)).nodes) hl2 hlen rfl (by decide) fun nv1 L1 hn hkeep hln => ?_
    simp (maxSteps := 4000000) only [go_sem, reduceIte, reduceCtorEq, Nat.reduceAdd, Nat.reduceSub, Nat.reduceMul, Nat.reduceLeDiff, Nat.reduceLT, Nat.reduceEqDiff, Nat.reduceBEq, hn.cells, hn.one, hn.fits, hln]
    have hw : IntKind.wrap .i64 ((ns.length : Int) + 1 - 1) = ns.length := by rw [wrap64] <;> omega
    rw [hw]
    exact h1 _ nv1 _ L1 (h.put hk rfl hn) (Keep.trans' (Grow.upd n1) hkeep) ⟨by simp, fun e' => absurd e e'⟩
  · exact h1 _ _ ns _ ⟨h.tok, h.pos, h.lt, h.nodes, h.kids, fun e' => absurd e' e⟩ (Keep.refl L nv) ⟨by omega, fun _ => rfl⟩

theorem c_relation (h : PI ts at' nv ns code L R) (h1 : ∀ op L1, Grow L L1 → (op ≠ 0 → at' + 1 < ts.length) → S (.int .i64 op) ⟨upd b p (some (pcells ρt ts at' nv deep df lp tp code pos)), L1⟩) :
    ACalls Try.prog 71 [.ptr p 0] ⟨upd b p (some (pcells ρt ts at' nv deep df lp tp code pos)), L⟩ S := by
  refine acalls_of Try.func71 rfl (rd_ok hMix (κ := fun _ => false) δ0 _ rfl ?_)
  simp (maxSteps := 4000000) only [go_sem, reduceIte, reduceCtorEq, Nat.reduceAdd, Nat.reduceSub, Nat.reduceMul, Nat.reduceLeDiff, Nat.reduceLT, Nat.reduceEqDiff, Nat.reduceBEq, Try.ntmps71, Try.f71]
  refine callBy cb13 (c_now h fun tok e1 e2 e3 => ?_)
  simp (maxSteps := 4000000) only [go_sem, reduceIte, reduceCtorEq, Nat.reduceAdd, Nat.reduceSub, Nat.reduceMul, Nat.reduceLeDiff, Nat.reduceLT, Nat.reduceEqDiff, Nat.reduceBEq]
  refine ⟨fun e => h1 _ _ (Grow.refl L) (by simp), fun e n hn hL => ?_⟩
  have hlt := e2 (by rw [e]; decide)
  refine callBy cb27 (c_among (l := [_, _, _, _, _, _, _]) (.inr ⟨some n, rfl⟩) (by decide) fun i _ _ => ?_)
  simp (maxSteps := 4000000) only [go_sem, reduceIte, reduceCtorEq, Nat.reduceAdd, Nat.reduceSub, Nat.reduceMul, Nat.reduceLeDiff, Nat.reduceLT, Nat.reduceEqDiff, Nat.reduceBEq]
  exact ⟨fun _ => h1 _ _ (Grow.upd n) (fun _ => hlt), fun _ => ⟨fun _ => h1 _ _ (Grow.upd n) (fun _ => hlt), fun _ => h1 _ _ (Grow.upd n) (fun _ => hlt)⟩⟩

theorem c_named (h : PI ts at' nv ns code L R) (h1 : ∀ v, (v = true → at' + 2 < ts.length) → S (.bool v) ⟨upd b p (some (pcells ρt ts at' nv deep df lp tp code pos)), L⟩) :
    ACalls Try.prog 52 [.ptr p 0] ⟨upd b p (some (pcells ρt ts at' nv deep df lp tp code pos)), L⟩ S := by
  have hp := h.pos
  have hl := h.lt
  have hm := h.tok.most
  have hw : IntKind.wrap .i64 ((ts.length : Int) - 1) = ts.length - 1 := by rw [wrap64] <;> omega
  obtain ⟨q, hq, hq'⟩ : ∃ q, (if (ts.length : Int) - 1 < at' + 1 then (ts.length : Int) - 1 else at' + 1) = q ∧ 0 ≤ q ∧ q < ts.length ∧ (at' + 1 < ts.length → q = at' + 1) := by split <;> exact ⟨_, rfl, by omega⟩
  obtain ⟨tok, htok⟩ : ∃ tok, ts[q.toNat]? = some tok := ⟨_, List.getElem?_eq_getElem (by omega)⟩
  have h2 : (ts.map Tok.cells)[q.toNat]? = some tok.cells := by rw [List.getElem?_map, htok]; rfl
  refine acalls_of Try.func52 rfl (rd_ok hMix (κ := fun _ => false) δ52 _ (by decide +kernel) ?_)
  simp (maxSteps := 4000000) only [go_sem, reduceIte, reduceCtorEq, Nat.reduceAdd, Nat.reduceSub, Nat.reduceMul, Nat.reduceLeDiff, Nat.reduceLT, Nat.reduceEqDiff, Nat.reduceBEq, Try.ntmps52, Try.f52, δ52, h.wrap1, hw, hq, h2, List.length_map, Tok.cells, hq'.1]
  refine callBy cb13 (c_now h fun tok1 e1 e2 e3 => ?_)
  simp (maxSteps := 4000000) only [go_sem, reduceIte, reduceCtorEq, Nat.reduceAdd, Nat.reduceSub, Nat.reduceMul, Nat.reduceLeDiff, Nat.reduceLT, Nat.reduceEqDiff, Nat.reduceBEq]
  refine ⟨fun k1 => ⟨fun k2 => ⟨fun _ => h1 _ fun _ => ?_, fun _ => h1 _ (by simp)⟩, fun _ => h1 _ (by simp)⟩, fun _ => h1 _ (by simp)⟩
  have h3 := e2 (by rw [k1]; decide)
  have h4 := hq'.2.2 h3
  rcases (by omega : at' + 2 < ts.length ∨ (ts.length : Int) ≤ at' + 2) with h5 | h5
  · exact h5
  · have := h.tok.last q.toNat tok htok (by omega)
    rw [k2] at this; cases this

theorem fits_ok (h : NV L nv ns) (hk : ∀ nd ∈ ns, Ints nd.kv nd.ks) (hkid : ∀ (i : Nat) nd, ns[i]? = some nd → ∀ k ∈ nd.ks, 0 ≤ k ∧ k < i) (hlen : ns.length < 4294967296) (hks : ∀ nd ∈ ns, nd.ks.length < 4294967296) :
    ∀ (n : Nat) (i : Int), i < n → i < ns.length → ∀ {S : AVal → AHeap → Prop}, (∀ v, S (.bool v) ⟨upd b p (some (pcells ρt ts at' nv deep df lp tp code pos)), L⟩) → ACalls Try.prog 54 [.ptr p 0, .int .i64 i] ⟨upd b p (some (pcells ρt ts at' nv deep df lp tp code pos)), L⟩ S := by
  intro n
  induction n with
  | zero =>
    intro i hi hi2 S h1
    refine acalls_of Try.func54 rfl (rd_ok hMix (κ := fun _ => false) δ0 _ rfl ?_)
    simp (maxSteps := 4000000) only [go_sem, reduceIte, reduceCtorEq, Nat.reduceAdd, Nat.reduceSub, Nat.reduceMul, Nat.reduceLeDiff, Nat.reduceLT, Nat.reduceEqDiff, Nat.reduceBEq, Try.ntmps54, Try.f54]
    refine ⟨fun _ => h1 _, fun hge => ?_⟩
    omega
  | succ n ih =>
    intro i hi hi2 S h1
    refine acalls_of Try.func54 rfl (rd_ok hMix (κ := fun _ => false) δ0 _ rfl ?_)
    simp (maxSteps := 4000000) only [go_sem, reduceIte, reduceCtorEq, Nat.reduceAdd, Nat.reduceSub, Nat.reduceMul, Nat.reduceLeDiff, Nat.reduceLT, Nat.reduceEqDiff, Nat.reduceBEq, Try.ntmps54, Try.f54]
    refine ⟨fun _ => h1 _, fun hge => ?_⟩
    have hi0 : 0 ≤ i := by omega
    obtain ⟨nd, hnd⟩ : ∃ nd, ns[i.toNat]? = some nd := ⟨_, List.getElem?_eq_getElem (by omega)⟩
    have hmem := List.mem_of_getElem? hnd
    have hI := hk nd hmem
    have hkn := hks nd hmem
    simp (maxSteps := 4000000) only [go_sem, reduceIte, reduceCtorEq, Nat.reduceAdd, Nat.reduceSub, Nat.reduceMul, Nat.reduceLeDiff, Nat.reduceLT, Nat.reduceEqDiff, Nat.reduceBEq, h.at hi0 hnd, Nd.cells, hI.cells, hI.one]
    refine ⟨fun h8 => ?_, fun h8 => ?_⟩
    · refine AWp.loop_st [true, true, false, false, false, true, true, false, false, false, false, false, false, false, false, false, false, false, false, false, false, false, false, false, false, false, false, false, false, false, false, false, false, false, false, false, false, false, false, false, false, false, false, false, false, false] [5] (fun j : Nat => ⟨[.ptr p 0, .int .i64 i, .any, .any, .any, .loc 5 0, .int .i64 j, .any, .any, .any, .any, .any, .any, .any, .any, .any, .any, .any, .any, .any, .any, .any, .any, .any, .any, .any, .any, .any, .any, .any, .any, .any, .any, .any, .any, .any, .any, .any, .any, .any, .any, .any, .any, .any, .any, .any], [(5, [.int .i64 nd.op, .int .i64 0, .int .i64 nd.pos, .str nd.s, nd.kv])]⟩) (fun _ => ⟨upd b p (some (pcells ρt ts at' nv deep df lp tp code pos)), L⟩) (fun j => j ≤ nd.ks.length) (fun j => nd.ks.length - j) 0 ?_ ?_ rfl (by omega) ?_
      · simp (maxSteps := 4000000) only [go_sem, reduceIte, reduceCtorEq, Nat.reduceAdd, Nat.reduceSub, Nat.reduceMul, Nat.reduceLeDiff, Nat.reduceLT, Nat.reduceEqDiff, Nat.reduceBEq]
      · simp (maxSteps := 4000000) only [go_sem, reduceIte, reduceCtorEq, Nat.reduceAdd, Nat.reduceSub, Nat.reduceMul, Nat.reduceLeDiff, Nat.reduceLT, Nat.reduceEqDiff, Nat.reduceBEq]
        rfl
      intro j hj
      refine rd_ok hMix (κ := fun _ => false) δ0 _ rfl ?_
      simp (maxSteps := 4000000) only [go_sem, reduceIte, reduceCtorEq, Nat.reduceAdd, Nat.reduceSub, Nat.reduceMul, Nat.reduceLeDiff, Nat.reduceLT, Nat.reduceEqDiff, Nat.reduceBEq, hI.len, hI.fits]
      have hw : IntKind.wrap .i64 ((j : Int) + 1) = ((j + 1 : Nat) : Int) := by rw [wrap64] <;> omega
      refine ⟨fun hlt => ?_, fun hge => ⟨fun _ => h1 _, fun _ => h1 _⟩⟩
      obtain ⟨kk, hkk⟩ : ∃ kk, nd.ks[j]? = some kk := ⟨_, List.getElem?_eq_getElem (by omega)⟩
      have hrng := hkid i.toNat nd hnd kk (List.mem_of_getElem? hkk)
      simp (maxSteps := 4000000) only [go_sem, reduceIte, reduceCtorEq, Nat.reduceAdd, Nat.reduceSub, Nat.reduceMul, Nat.reduceLeDiff, Nat.reduceLT, Nat.reduceEqDiff, Nat.reduceBEq, hI.at (i := j) (by omega) (by simpa using hkk)]
      refine callBy cb54 (ih kk (by omega) (by omega) fun v => ?_)
      cases v
      · simp (maxSteps := 4000000) only [go_sem, reduceIte, reduceCtorEq, Nat.reduceAdd, Nat.reduceSub, Nat.reduceMul, Nat.reduceLeDiff, Nat.reduceLT, Nat.reduceEqDiff, Nat.reduceBEq]
        exact h1 _
      · simp (maxSteps := 4000000) only [go_sem, reduceIte, reduceCtorEq, Nat.reduceAdd, Nat.reduceSub, Nat.reduceMul, Nat.reduceLeDiff, Nat.reduceLT, Nat.reduceEqDiff, Nat.reduceBEq, hw]
        exact ⟨j + 1, rfl, by omega, by omega⟩
    · exact ⟨fun _ => h1 _, fun _ => ⟨fun _ => h1 _, fun _ => h1 _⟩⟩

theorem FR.kids_len (h : FR ns R) {nd : Nd} (hm : nd ∈ ns) : nd.ks.length ≤ ns.length := by
  have h1 := h.perm.length_eq
  simp only [List.length_append, List.length_map, List.length_range] at h1
  have h2 : nd.ks.length ≤ (ns.flatMap Nd.ks).length := by
    obtain ⟨a, b, rfl⟩ := List.append_of_mem hm
    simp only [List.flatMap_append, List.flatMap_cons, List.length_append]
    omega
  omega

theorem c_fits (h : PI ts at' nv ns code L R) (hc : code = 0) (hlen : ns.length < 4294967296) {i : Int} (hi : i < ns.length) (h1 : ∀ v, S (.bool v) ⟨upd b p (some (pcells ρt ts at' nv deep df lp tp code pos)), L⟩) : ACalls Try.prog 54 [.ptr p 0, .int .i64 i] ⟨upd b p (some (pcells ρt ts at' nv deep df lp tp code pos)), L⟩ S := by
  have hF := h.fr hc
  exact fits_ok h.nodes h.kids hF.kid hlen (fun nd hm => by have := hF.kids_len hm; omega) (i.toNat + 1) i (by omega) hi h1

end
end Go.Proofs.Ab5
end
/- The reference parser's contracts. -/
section
set_option linter.unusedVariables false
namespace Go.Proofs.Ab5
open Go.Ab Go.Proofs

theorem PI.fail {ts : List Tok} {at' : Int} {nv : AVal} {ns : List Nd} {code code1 : Int} {L : Nat → Bool} {R : List Int} (h : PI ts at' nv ns code L R) {at1 : Int} (h1 : at' ≤ at1) (h2 : at1 < ts.length) (hc : code1 ≠ 0) (R' : List Int) : PI ts at1 nv ns code1 L R' :=
  ⟨h.tok, by have := h.pos; omega, h2, h.nodes, h.kids, fun e => absurd e hc⟩
theorem PI.bad {ts : List Tok} {at' : Int} {nv : AVal} {ns : List Nd} {code : Int} {L : Nat → Bool} {R : List Int} (h : PI ts at' nv ns code L R) (hc : code ≠ 0) (R' : List Int) : PI ts at' nv ns code L R' :=
  ⟨h.tok, h.pos, h.lt, h.nodes, h.kids, fun e => absurd e hc⟩

/-- A function that reads an expression. -/
def CE (ts : List Tok) (N rank : Nat) (f : FuncId) : Prop := ∀ {p : Nat} {b : Nat → Option (List AVal)} {L : Nat → Bool} {ρt : Option Nat} {at' : Int} {nv : AVal} {deep : Int} {df lp tp : Bool} {code pos : Int} {ns : List Nd} {R : List Int} {S : AVal → AHeap → Prop},
  PI ts at' nv ns code L R → (ns.length : Int) ≤ 2 * at' + 2 → 64 * ((ts.length : Int) - at') + rank ≤ N →
  (∀ (r : Int) (at1 : Int) (nv1 : AVal) (ns1 : List Nd) (deep1 : Int) (df1 lp1 tp1 : Bool) (code1 pos1 : Int) (L1 : Nat → Bool), PI ts at1 nv1 ns1 code1 L1 (r :: R) → Keep L nv L1 nv1 → at' ≤ at1 → at1 < ts.length → (ns1.length : Int) + at' ≤ ns.length + at1 → (code1 = 0 → code = 0 ∧ at' < at1) → S (.int .i64 r) ⟨upd b p (some (pcells ρt ts at1 nv1 deep1 df1 lp1 tp1 code1 pos1)), L1⟩) →
  ACalls Try.prog f [.ptr p 0] ⟨upd b p (some (pcells ρt ts at' nv deep df lp tp code pos)), L⟩ S

/-- A function that reads what stands in brackets. -/
def CB (ts : List Tok) (N rank : Nat) (f : FuncId) : Prop := ∀ {p : Nat} {b : Nat → Option (List AVal)} {L : Nat → Bool} {ρt : Option Nat} {at' : Int} {nv : AVal} {deep : Int} {df lp tp : Bool} {code pos : Int} {ns : List Nd} {R : List Int} {S : AVal → AHeap → Prop} {po : Int},
  PI ts at' nv ns code L R → (ns.length : Int) ≤ 2 * at' + 2 → 64 * ((ts.length : Int) - at') + rank ≤ N → at' + 1 < ts.length →
  (∀ (r : Int) (at1 : Int) (nv1 : AVal) (ns1 : List Nd) (deep1 : Int) (df1 lp1 tp1 : Bool) (code1 pos1 : Int) (L1 : Nat → Bool), PI ts at1 nv1 ns1 code1 L1 (r :: R) → Keep L nv L1 nv1 → at' ≤ at1 → at1 < ts.length → (ns1.length : Int) + at' ≤ ns.length + at1 → (code1 = 0 → code = 0 ∧ at' < at1) → S (.int .i64 r) ⟨upd b p (some (pcells ρt ts at1 nv1 deep1 df1 lp1 tp1 code1 pos1)), L1⟩) →
  ACalls Try.prog f [.ptr p 0, .int .i64 po] ⟨upd b p (some (pcells ρt ts at' nv deep df lp tp code pos)), L⟩ S

/-- An index or a slice. -/
def CI (ts : List Tok) (N rank : Nat) (f : FuncId) : Prop := ∀ {p : Nat} {b : Nat → Option (List AVal)} {L : Nat → Bool} {ρt : Option Nat} {at' : Int} {nv : AVal} {deep : Int} {df lp tp : Bool} {code pos : Int} {ns : List Nd} {R : List Int} {S : AVal → AHeap → Prop} {a po : Int},
  PI ts at' nv ns code L (a :: R) → (ns.length : Int) ≤ 2 * at' + 2 → 64 * ((ts.length : Int) - at') + rank ≤ N → at' + 1 < ts.length →
  (∀ (r : Int) (at1 : Int) (nv1 : AVal) (ns1 : List Nd) (deep1 : Int) (df1 lp1 tp1 : Bool) (code1 pos1 : Int) (L1 : Nat → Bool), PI ts at1 nv1 ns1 code1 L1 (r :: R) → Keep L nv L1 nv1 → at' ≤ at1 → at1 < ts.length → (ns1.length : Int) + at' ≤ ns.length + at1 → (code1 = 0 → code = 0 ∧ at' < at1) → S (.int .i64 r) ⟨upd b p (some (pcells ρt ts at1 nv1 deep1 df1 lp1 tp1 code1 pos1)), L1⟩) →
  ACalls Try.prog f [.ptr p 0, .int .i64 a, .int .i64 po] ⟨upd b p (some (pcells ρt ts at' nv deep df lp tp code pos)), L⟩ S

/-- What stands with commas between, behind a first one. -/
def CR (ts : List Tok) (N rank : Nat) (f : FuncId) : Prop := ∀ {p : Nat} {b : Nat → Option (List AVal)} {L : Nat → Bool} {ρt : Option Nat} {at' : Int} {nv : AVal} {deep : Int} {df lp tp : Bool} {code pos : Int} {ns : List Nd} {R : List Int} {S : AVal → AHeap → Prop} {a : Int},
  PI ts at' nv ns code L (a :: R) → (ns.length : Int) ≤ 2 * at' + 2 → 64 * ((ts.length : Int) - at') + rank ≤ N →
  (∀ (lv : AVal) (l : List Int) (comma : Bool) (at1 : Int) (nv1 : AVal) (ns1 : List Nd) (deep1 : Int) (df1 lp1 tp1 : Bool) (code1 pos1 : Int) (L1 : Nat → Bool), Ints lv l → (comma = false → l = [a]) → PI ts at1 nv1 ns1 code1 L1 (l ++ R) → Keep L nv L1 nv1 → at' ≤ at1 → at1 < ts.length → (ns1.length : Int) + at' ≤ ns.length + at1 → (comma = true → (ns1.length : Int) + at' + 1 ≤ ns.length + at1) → (code1 = 0 → code = 0) →
    S (.tuple [lv, .bool comma]) ⟨upd b p (some (pcells ρt ts at1 nv1 deep1 df1 lp1 tp1 code1 pos1)), L1⟩) →
  ACalls Try.prog f [.ptr p 0, .int .i64 a] ⟨upd b p (some (pcells ρt ts at' nv deep df lp tp code pos)), L⟩ S

/-- Targets with commas between. -/
def CV (ts : List Tok) (N rank : Nat) (f : FuncId) : Prop := ∀ {p : Nat} {b : Nat → Option (List AVal)} {L : Nat → Bool} {ρt : Option Nat} {at' : Int} {nv : AVal} {deep : Int} {df lp tp : Bool} {code pos : Int} {ns : List Nd} {R : List Int} {S : AVal → AHeap → Prop},
  PI ts at' nv ns code L R → (ns.length : Int) ≤ 2 * at' + 2 → 64 * ((ts.length : Int) - at') + rank ≤ N →
  (∀ (lv : AVal) (a : Int) (l : List Int) (comma : Bool) (at1 : Int) (nv1 : AVal) (ns1 : List Nd) (deep1 : Int) (df1 lp1 tp1 : Bool) (code1 pos1 : Int) (L1 : Nat → Bool), Ints lv (a :: l) → (comma = false → l = []) → PI ts at1 nv1 ns1 code1 L1 (a :: l ++ R) → Keep L nv L1 nv1 → at' ≤ at1 → at1 < ts.length → (ns1.length : Int) + at' ≤ ns.length + at1 → (comma = true → (ns1.length : Int) + at' + 1 ≤ ns.length + at1) → (code1 = 0 → code = 0 ∧ at' < at1) →
    S (.tuple [lv, .bool comma]) ⟨upd b p (some (pcells ρt ts at1 nv1 deep1 df1 lp1 tp1 code1 pos1)), L1⟩) →
  ACalls Try.prog f [.ptr p 0] ⟨upd b p (some (pcells ρt ts at' nv deep df lp tp code pos)), L⟩ S

/-- A call's arguments. -/
def CA (ts : List Tok) (N rank : Nat) (f : FuncId) : Prop := ∀ {p : Nat} {b : Nat → Option (List AVal)} {L : Nat → Bool} {ρt : Option Nat} {at' : Int} {nv : AVal} {deep : Int} {df lp tp : Bool} {code pos : Int} {ns : List Nd} {R : List Int} {S : AVal → AHeap → Prop},
  PI ts at' nv ns code L R → (ns.length : Int) ≤ 2 * at' + 2 → 64 * ((ts.length : Int) - at') + rank ≤ N →
  (∀ (lv : AVal) (l : List Int) (at1 : Int) (nv1 : AVal) (ns1 : List Nd) (deep1 : Int) (df1 lp1 tp1 : Bool) (code1 pos1 : Int) (L1 : Nat → Bool), Ints lv l → (l.length : Int) + at' ≤ at1 + 1 → PI ts at1 nv1 ns1 code1 L1 (l ++ R) → Keep L nv L1 nv1 → at' ≤ at1 → at1 < ts.length → (ns1.length : Int) + at' ≤ ns.length + at1 → (code1 = 0 → code = 0) → S lv ⟨upd b p (some (pcells ρt ts at1 nv1 deep1 df1 lp1 tp1 code1 pos1)), L1⟩) →
  ACalls Try.prog f [.ptr p 0] ⟨upd b p (some (pcells ρt ts at' nv deep df lp tp code pos)), L⟩ S

structure AllE (ts : List Tok) (N : Nat) : Prop where
  test : CE ts N 24 47
  or : CE ts N 23 56
  and : CE ts N 22 59
  not : CE ts N 21 62
  compare : CE ts N 20 66
  sum : CE ts N 19 70
  product : CE ts N 18 72
  targets : CE ts N 18 34
  several : CV ts N 17 49
  target : CE ts N 16 57
  unary : CE ts N 15 73
  primary : CE ts N 14 60
  atom : CE ts N 13 63
  index : CI ts N 12 65
  arguments : CA ts N 30 64
  rest : CR ts N 12 51
  round : CB ts N 12 67
  square : CB ts N 12 68
  curly : CB ts N 12 69

/-- What is kept from round to round. -/
structure LS where
  a : Int
  at' : Int
  nv : AVal
  ns : List Nd
  deep : Int
  df : Bool
  lp : Bool
  tp : Bool
  code : Int
  pos : Int
  L : Nat → Bool
  lv : AVal
  l : List Int
  f : Bool

end Go.Proofs.Ab5
end
/- Slices that a function gathers. -/
section
namespace Go.Proofs.Ab5
open Go.Ab Go.Proofs

/-- What was alive at first is not this one's row. -/
def Fr (L0 : Nat → Bool) (nv0 v : AVal) : Prop := ∀ ρ, L0 ρ = true → rowOf nv0 ≠ some ρ → rowOf v ≠ some ρ

theorem Fr.nil (L0 : Nat → Bool) (nv0 : AVal) : Fr L0 nv0 .nilSlice := fun _ _ _ h => nomatch h
theorem Fr.new {L0 L : Nat → Bool} {nv0 nv : AVal} (k : Keep L0 nv0 L nv) {n sz : Nat} {xs : List (List AVal)} (hL : L n = false) : Fr L0 nv0 (.list (some n) sz xs) := fun ρ h1 h2 h3 => by
  simp [rowOf] at h3
  subst h3
  rw [(k _ h1 h2).1] at hL; cases hL

theorem Keep.acc {L0 L L1 : Nat → Bool} {nv0 nv v v1 : AVal} (k : Keep L0 nv0 L nv) (f : Fr L0 nv0 v) (k1 : Keep L v L1 v1) : Keep L0 nv0 L1 nv := fun ρ h1 h2 =>
  ⟨(k1 ρ (k ρ h1 h2).1 (f ρ h1 h2)).1, (k ρ h1 h2).2⟩
theorem Fr.acc {L0 L L1 : Nat → Bool} {nv0 nv v v1 : AVal} (k : Keep L0 nv0 L nv) (f : Fr L0 nv0 v) (k1 : Keep L v L1 v1) : Fr L0 nv0 v1 := fun ρ h1 h2 => (k1 ρ (k ρ h1 h2).1 (f ρ h1 h2)).2

theorem Acc.new {L : Nat → Bool} {nv : AVal} {n : Nat} {ks : List Int} (hn : Own L nv) (hL : L n = false) : Acc (upd L n true) nv (.list (some n) 1 (icells ks)) ks :=
  ⟨.inr ⟨n, rfl⟩, fun ρ h => by simp [rowOf] at h; subst h; simp [upd], fun ρ h h2 => by simp [rowOf] at h; subst h; rw [hn _ h2] at hL; cases hL⟩
theorem Acc.grow {L L1 : Nat → Bool} {nv v : AVal} {ks : List Int} (a : Acc L nv v ks) (g : Grow L L1) : Acc L1 nv v ks := ⟨a.val, fun ρ h => g ρ (a.own ρ h), a.ne⟩

section
variable {ts : List Tok} {at' : Int} {nv : AVal} {ns : List Nd} {code : Int} {L : Nat → Bool} {R : List Int}
theorem PI.acc (h : PI ts at' nv ns code L R) {v v1 : AVal} {L1 : Nat → Bool} (hne : ∀ ρ, rowOf v = some ρ → rowOf nv ≠ some ρ) (k : Keep L v L1 v1) : PI ts at' nv ns code L1 R :=
  ⟨h.tok, h.pos, h.lt, ⟨h.nodes.val, fun ρ hr => (k ρ (h.nodes.own ρ hr) (fun e => hne ρ e hr)).1⟩, h.kids, h.fr⟩
end

theorem Ints.news {kv : AVal} {ks : List Int} (h : Ints kv ks) : aNews 1 kv = some (icells ks) := by
  rcases h with ⟨rfl, rfl⟩ | ⟨ρ, rfl⟩
  · rfl
  · exact aNews_list
/-- In roots that hold together there are no more than nodes. -/
theorem FR.len_le {ns : List Nd} {R R' : List Int} (h : FR ns (R ++ R')) : R.length ≤ ns.length := by
  have := h.perm.length_eq
  simp at this
  omega

theorem append_acc {L : Nat → Bool} {nv v : AVal} {ks : List Int} (ha : Acc L nv v ks) (hn : Own L nv) {b : Nat → Option (List AVal)} {n : Nat} (hL : L n = false) (ys : List Int) (hlen : ks.length + ys.length ≤ 4294967296) {te : TI} (hs : te.size = 1) (hb : te.bytes ≤ 4096)
    {k : AVal × AHeap → Prop} (h1 : ∀ v1 L1, Acc L1 nv v1 (ks ++ ys) → Keep L v L1 v1 → k (v1, ⟨b, L1⟩)) : W (aAppend te false ⟨b, L⟩ n v (icells ys)) k := by
  have hnn : rowOf nv ≠ some n := fun e => by rw [hn n e] at hL; cases hL
  rcases ha.val with ⟨rfl, rfl⟩ | ⟨ρ, rfl⟩
  · cases ys with
    | nil => exact ⟨(.nilSlice, ⟨b, L⟩), rfl, h1 _ _ (Acc.nil L nv) (Keep.refl _ _)⟩
    | cons y ys =>
      refine ⟨(.list (some n) 1 (icells (y :: ys)), ⟨b, upd L n true⟩), ?_, h1 _ _ (by simpa using Acc.new hn hL) (fun ρ h _ => ?_)⟩
      · simp only [aAppend, icells, List.map_cons]
        rw [if_pos (by simp [aFits] at hlen ⊢; omega), hs]; simp
      · refine ⟨Grow.upd n ρ h, fun e => ?_⟩
        simp [rowOf] at e; subst e; rw [hL] at h; cases h
  · have hρ := ha.own ρ rfl
    refine ⟨(.list (some n) 1 (icells (ks ++ ys)), ⟨b, upd (upd L ρ false) n true⟩), ?_, h1 _ _ ⟨.inr ⟨n, rfl⟩, fun ρ' h => ?_, fun ρ' h => ?_⟩ (fun ρ' h hne => ?_)⟩
    · simp only [aAppend]
      rw [if_pos ⟨hs.symm, hρ, by simp [aFits, icells]; omega⟩, hs]; simp [icells]
    · simp [rowOf] at h; subst h; simp [upd]
    · simp [rowOf] at h; subst h; exact hnn
    · refine ⟨?_, fun e => ?_⟩
      · have : ρ' ≠ ρ := fun e => hne (by rw [e]; rfl)
        simp only [upd]; split
        · rfl
        · exact h
      · simp [rowOf] at e; subst e; rw [hL] at h; cases h


/-- A slice of one-cell values of the caller's own that may be appended to. -/
structure GAcc (L : Nat → Bool) (nv v : AVal) (xs : List (List AVal)) : Prop where
  val : (v = .nilSlice ∧ xs = []) ∨ ∃ ρ, v = .list (some ρ) 1 xs
  own : Own L v
  ne : ∀ ρ, rowOf v = some ρ → rowOf nv ≠ some ρ

theorem GAcc.nil (L : Nat → Bool) (nv : AVal) : GAcc L nv .nilSlice [] := ⟨.inl ⟨rfl, rfl⟩, fun _ h => (nomatch h), fun _ h => (nomatch h)⟩
theorem GAcc.keep {L nv L' nv' v xs} (a : GAcc L nv v xs) (k : Keep L nv L' nv') : GAcc L' nv' v xs :=
  ⟨a.val, fun ρ h => (k ρ (a.own ρ h) (a.ne ρ h)).1, fun ρ h => (k ρ (a.own ρ h) (a.ne ρ h)).2⟩
theorem GAcc.grow {L L1 : Nat → Bool} {nv v : AVal} {xs} (a : GAcc L nv v xs) (g : Grow L L1) : GAcc L1 nv v xs := ⟨a.val, fun ρ h => g ρ (a.own ρ h), a.ne⟩
/-- Another slice was appended to. -/
theorem GAcc.other {L L1 : Nat → Bool} {nv v w w1 : AVal} {xs} (a : GAcc L nv v xs) (hne : ∀ ρ, rowOf v = some ρ → rowOf w ≠ some ρ) (k : Keep L w L1 w1) : GAcc L1 nv v xs ∧ ∀ ρ, rowOf v = some ρ → rowOf w1 ≠ some ρ :=
  ⟨⟨a.val, fun ρ h => (k ρ (a.own ρ h) (hne ρ h)).1, a.ne⟩, fun ρ h => (k ρ (a.own ρ h) (hne ρ h)).2⟩
theorem Acc.other {L L1 : Nat → Bool} {nv v w w1 : AVal} {ks : List Int} (a : Acc L nv v ks) (hne : ∀ ρ, rowOf v = some ρ → rowOf w ≠ some ρ) (k : Keep L w L1 w1) : Acc L1 nv v ks ∧ ∀ ρ, rowOf v = some ρ → rowOf w1 ≠ some ρ :=
  ⟨⟨a.val, fun ρ h => (k ρ (a.own ρ h) (hne ρ h)).1, a.ne⟩, fun ρ h => (k ρ (a.own ρ h) (hne ρ h)).2⟩
theorem ne_symm {v w : AVal} (h : ∀ ρ, rowOf v = some ρ → rowOf w ≠ some ρ) : ∀ ρ, rowOf w = some ρ → rowOf v ≠ some ρ := fun ρ h1 h2 => h ρ h2 h1

theorem append_g {L : Nat → Bool} {nv v : AVal} {xs : List (List AVal)} (ha : GAcc L nv v xs) (hn : Own L nv) {b : Nat → Option (List AVal)} {n : Nat} (hL : L n = false) (y : List AVal) (hlen : xs.length + 1 ≤ 4294967296) {te : TI} (hs : te.size = 1) (hb : te.bytes ≤ 4096)
    {k : AVal × AHeap → Prop} (h1 : ∀ v1 L1, GAcc L1 nv v1 (xs ++ [y]) → Keep L v L1 v1 → k (v1, ⟨b, L1⟩)) : W (aAppend te false ⟨b, L⟩ n v [y]) k := by
  have hnn : rowOf nv ≠ some n := fun e => by rw [hn n e] at hL; cases hL
  rcases ha.val with ⟨rfl, rfl⟩ | ⟨ρ, rfl⟩
  · refine ⟨(.list (some n) 1 [y], ⟨b, upd L n true⟩), ?_, h1 _ _ ⟨.inr ⟨n, rfl⟩, fun ρ h => by simp [rowOf] at h; subst h; simp [upd], fun ρ h => by simp [rowOf] at h; subst h; exact hnn⟩ (fun ρ h _ => ?_)⟩
    · simp only [aAppend]
      rw [if_pos (by simp [aFits, hb]), hs]; simp
    · refine ⟨Grow.upd n ρ h, fun e => ?_⟩
      simp [rowOf] at e; subst e; rw [hL] at h; cases h
  · have hρ := ha.own ρ rfl
    refine ⟨(.list (some n) 1 (xs ++ [y]), ⟨b, upd (upd L ρ false) n true⟩), ?_, h1 _ _ ⟨.inr ⟨n, rfl⟩, fun ρ' h => ?_, fun ρ' h => ?_⟩ (fun ρ' h hne => ?_)⟩
    · simp only [aAppend]
      rw [if_pos ⟨hs.symm, hρ, by simp [aFits, hb]; omega⟩, hs]
    · simp [rowOf] at h; subst h; simp [upd]
    · simp [rowOf] at h; subst h; exact hnn
    · refine ⟨?_, fun e => ?_⟩
      · have : ρ' ≠ ρ := fun e => hne (by rw [e]; rfl)
        simp only [upd]; split
        · rfl
        · exact h
      · simp [rowOf] at e; subst e; rw [hL] at h; cases h

def scells (l : List ByteArray) : List (List AVal) := l.map fun s => [.str s]
theorem GAcc.strs {L nv v} {l : List ByteArray} (a : GAcc L nv v (scells l)) : Strs v l := by
  rcases a.val with ⟨h1, h2⟩ | ⟨ρ, h⟩
  · left; refine ⟨h1, ?_⟩
    cases l with
    | nil => rfl
    | cons _ _ => simp [scells] at h2
  · exact .inr ⟨some ρ, h⟩
theorem Strs.loc {v : AVal} {l : List ByteArray} (h : Strs v l) : v.isLoc = false := by rcases h with ⟨rfl, rfl⟩ | ⟨ρ, rfl⟩ <;> rfl
theorem Strs.fits {v : AVal} {l : List ByteArray} {e : TypeId} (h : Strs v l) : fitsKind v (.slice e) = true := by rcases h with ⟨rfl, rfl⟩ | ⟨ρ, rfl⟩ <;> rfl
theorem Strs.len {v : AVal} {l : List ByteArray} (h : Strs v l) : aLen v = some (l.length : Int) := by
  rcases h with ⟨rfl, rfl⟩ | ⟨ρ, rfl⟩
  · rfl
  · simp [aLen]

/-- What is kept from round to round, with names. -/
structure LS2 extends LS where
  sv : AVal
  sl : List ByteArray

end Go.Proofs.Ab5
end
