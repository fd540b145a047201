/-
  The reference parser: what its state is, and what holds of it.
-/
import Derived.Test.YtdgfmdjlhkjbaaaSa
set_option linter.all false
section
namespace Go.Proofs.Ab5
open Go.Ab Go.Proofs

structure Tok where
  kind : Int
  text : ByteArray
  pos : Int

def Tok.cells (t : Tok) : List AVal := [.int .i64 t.kind, .str t.text, .int .i64 t.pos]

/-- A node; its kids are what its last cell holds. -/
structure Nd where
  op : Int
  pos : Int
  s : ByteArray
  kv : AVal
  ks : List Int

def Nd.cells (n : Nd) : List AVal := [.int .i64 n.op, .int .i64 0, .int .i64 n.pos, .str n.s, n.kv]

def icells (ks : List Int) : List (List AVal) := ks.map fun k => [.int .i64 k]

/-- A value that is a slice of ints. -/
def Ints (v : AVal) (ks : List Int) : Prop := (v = .nilSlice ∧ ks = []) ∨ ∃ ρ, v = .list ρ 1 (icells ks)

def rowOf : AVal → Option Nat
  | .list (some ρ) _ _ => some ρ
  | _ => none

/-- A slice that may be appended to. -/
def Own (L : Nat → Bool) (v : AVal) : Prop := ∀ ρ, rowOf v = some ρ → L ρ = true

/-- A slice of ints of the caller's own that may be appended to. -/
structure Acc (L : Nat → Bool) (nv v : AVal) (ks : List Int) : Prop where
  val : (v = .nilSlice ∧ ks = []) ∨ ∃ ρ, v = .list (some ρ) 1 (icells ks)
  own : Own L v
  ne : ∀ ρ, rowOf v = some ρ → rowOf nv ≠ some ρ

/-- The nodes. -/
structure NV (L : Nat → Bool) (nv : AVal) (ns : List Nd) : Prop where
  val : (nv = .nilSlice ∧ ns = []) ∨ ∃ ρ, nv = .list (some ρ) 5 (ns.map Nd.cells)
  own : Own L nv

/-- What is alive stays so, but for the nodes' own row. -/
def Keep (L : Nat → Bool) (nv : AVal) (L' : Nat → Bool) (nv' : AVal) : Prop :=
  ∀ ρ, L ρ = true → rowOf nv ≠ some ρ → L' ρ = true ∧ rowOf nv' ≠ some ρ

theorem Keep.refl (L : Nat → Bool) (nv : AVal) : Keep L nv L nv := fun _ h1 h2 => ⟨h1, h2⟩
theorem Keep.trans {L nv L1 nv1 L2 nv2} (a : Keep L nv L1 nv1) (b : Keep L1 nv1 L2 nv2) : Keep L nv L2 nv2 := fun ρ h1 h2 => b ρ (a ρ h1 h2).1 (a ρ h1 h2).2
theorem Acc.keep {L nv L' nv' v ks} (a : Acc L nv v ks) (k : Keep L nv L' nv') : Acc L' nv' v ks :=
  ⟨a.val, fun ρ h => (k ρ (a.own ρ h) (a.ne ρ h)).1, fun ρ h => (k ρ (a.own ρ h) (a.ne ρ h)).2⟩
theorem Acc.ints {L nv v ks} (a : Acc L nv v ks) : Ints v ks := a.val.imp id fun ⟨ρ, h⟩ => ⟨some ρ, h⟩
theorem Acc.nil (L : Nat → Bool) (nv : AVal) : Acc L nv .nilSlice [] := ⟨.inl ⟨rfl, rfl⟩, fun _ h => (nomatch h), fun _ h => (nomatch h)⟩

/-- Every index but the roots is the kid of just one node, that comes behind it. -/
structure FR (ns : List Nd) (R : List Int) : Prop where
  perm : (ns.flatMap Nd.ks ++ R).Perm ((List.range ns.length).map Int.ofNat)
  kid : ∀ (i : Nat) nd, ns[i]? = some nd → ∀ k ∈ nd.ks, 0 ≤ k ∧ k < i

theorem FR.range {ns R} (h : FR ns R) {r : Int} (hr : r ∈ R) : 0 ≤ r ∧ r < ns.length := by
  have := h.perm.mem_iff.1 (List.mem_append.2 (.inr hr))
  obtain ⟨i, h1, h2⟩ := List.mem_map.1 this
  have h3 := List.mem_range.1 h1
  subst h2
  exact ⟨Int.natCast_nonneg i, Int.ofNat_lt.2 h3⟩

theorem FR.nil : FR [] [] := ⟨by simp, fun i nd h => by simp at h⟩

theorem FR.put {ns : List Nd} {nd : Nd} {R : List Int} (h : FR ns (nd.ks ++ R)) : FR (ns ++ [nd]) ((ns.length : Int) :: R) := by
  refine ⟨?_, fun i nd' hi k hk => ?_⟩
  · have h1 := h.perm
    rw [List.flatMap_append, List.length_append]
    simp only [List.flatMap_cons, List.flatMap_nil, List.append_nil, List.length_cons, List.length_nil, Nat.zero_add, List.range_succ, List.map_append, List.map_cons, List.map_nil]
    rw [← List.append_assoc] at h1
    have h2 : (ns.flatMap Nd.ks ++ nd.ks ++ (ns.length : Int) :: R).Perm ((ns.length : Int) :: (ns.flatMap Nd.ks ++ nd.ks ++ R)) := List.perm_middle
    refine h2.trans (.trans (.cons _ h1) ?_)
    exact (List.perm_append_singleton _ _).symm
  · rcases Nat.lt_trichotomy i ns.length with e | e | e
    · rw [List.getElem?_append_left e] at hi
      exact h.kid i nd' hi k hk
    · subst e
      rw [List.getElem?_append_right (Nat.le_refl _)] at hi
      simp at hi; subst hi
      exact h.range (List.mem_append.2 (.inl hk))
    · rw [List.getElem?_eq_none (by simp; omega)] at hi; cases hi

theorem FR.perm_roots {ns R R'} (h : FR ns R) (p : R.Perm R') : FR ns R' := ⟨((List.Perm.append_left _ p).symm).trans h.perm, h.kid⟩

/-- What holds of the tokens. -/
structure TokOK (ts : List Tok) : Prop where
  most : ts.length ≤ 1048576
  last : ∀ (i : Nat) t, ts[i]? = some t → i + 1 = ts.length → t.kind = 8
  text : ∀ t ∈ ts, t.text.size ≤ 1048576

/-- What holds of the parser. -/
structure PI (ts : List Tok) (at' : Int) (nv : AVal) (ns : List Nd) (code : Int) (L : Nat → Bool) (R : List Int) : Prop where
  tok : TokOK ts
  pos : 0 ≤ at'
  lt : at' < ts.length
  nodes : NV L nv ns
  kids : ∀ nd ∈ ns, Ints nd.kv nd.ks
  fr : code = 0 → FR ns R

abbrev pcells (ρt : Option Nat) (ts : List Tok) (at' : Int) (nv : AVal) (deep : Int) (df lp tp : Bool) (code pos : Int) : List AVal :=
  [.list ρt 3 (ts.map Tok.cells), .int .i64 at', nv, .int .i64 deep, .bool df, .bool lp, .bool tp, .int .i64 code, .int .i64 pos]

theorem PI.tokAt {ts at' nv ns code L R} (h : PI ts at' nv ns code L R) : ∃ t, ts[at'.toNat]? = some t ∧ (t.kind ≠ 8 → at' + 1 < ts.length) := by
  have h1 := h.pos
  have h2 := h.lt
  have : at'.toNat < ts.length := by omega
  refine ⟨ts[at'.toNat], List.getElem?_eq_getElem this, fun hk => ?_⟩
  rcases Nat.lt_or_ge (at'.toNat + 1) ts.length with h3 | h3
  · omega
  · exact absurd (h.tok.last at'.toNat _ (List.getElem?_eq_getElem this) (by omega)) hk

theorem wrap64 {x : Int} (h1 : -9223372036854775808 ≤ x) (h2 : x ≤ 9223372036854775807) : IntKind.wrap .i64 x = x := by
  unfold IntKind.wrap
  simp only [IntKind.bits, IntKind.signed, Bool.true_and]
  split
  · rename_i h; have h := of_decide_eq_true h; omega
  · rename_i h; have h : ¬ _ := fun h' => h (decide_eq_true h'); omega

end Go.Proofs.Ab5
end
/- The reference parser: what looks and turns nothing. -/
section
set_option maxRecDepth 10000
set_option linter.unusedSimpArgs false
set_option linter.unusedVariables false
namespace Go.Proofs.Ab5
open Go.Ab Go.Proofs

section
variable {p : Nat} {b : Nat → Option (List AVal)} {L : Nat → Bool} {ρt : Option Nat} {ts : List Tok} {at' : Int} {nv : AVal} {deep : Int} {df lp tp : Bool} {code pos : Int}

theorem bad_ok : ACalls Try.prog 12 [.ptr p 0] ⟨upd b p (some (pcells ρt ts at' nv deep df lp tp code pos)), L⟩ fun r h' => r = .bool (!decide (code = 0)) ∧ h' = ⟨upd b p (some (pcells ρt ts at' nv deep df lp tp code pos)), L⟩ := by
  refine acalls_of Try.func12 rfl (rd_ok hMix (κ := fun _ => false) δ0 _ rfl ?_)
  simp (maxSteps := 4000000) only [go_sem, reduceIte, reduceCtorEq, Nat.reduceAdd, Nat.reduceSub, Nat.reduceMul, Nat.reduceLeDiff, Nat.reduceLT, Nat.reduceEqDiff, Nat.reduceBEq, Try.ntmps12, Try.f12]
  simp +contextual

theorem k_bad {aa : AAct} {dst : Option Tmp} {k : AAct → AHeap → Prop} (h1 : code = 0 → k (aPut aa dst (.bool false)) ⟨upd b p (some (pcells ρt ts at' nv deep df lp tp code pos)), L⟩)
    (h2 : code ≠ 0 → k (aPut aa dst (.bool true)) ⟨upd b p (some (pcells ρt ts at' nv deep df lp tp code pos)), L⟩) : CallK Try.prog 12 [.ptr p 0] ⟨upd b p (some (pcells ρt ts at' nv deep df lp tp code pos)), L⟩ aa dst k := by
  refine CallK.of cb12 bad_ok ?_
  rintro r h' ⟨rfl, rfl⟩
  by_cases e : code = 0
  · simpa [e] using h1 e
  · simpa [e] using h2 e

theorem now_ok {tok : Tok} (h0 : 0 ≤ at') (h1 : ts[at'.toNat]? = some tok) :
   ACalls Try.prog 13 [.ptr p 0] ⟨upd b p (some (pcells ρt ts at' nv deep df lp tp code pos)), L⟩ fun r h' => r = .agg tok.cells ∧ h' = ⟨upd b p (some (pcells ρt ts at' nv deep df lp tp code pos)), L⟩ := by
  refine acalls_of Try.func13 rfl (rd_ok hMix (κ := fun _ => false) δ13 _ (by decide +kernel) ?_)
  have h2 : (ts.map Tok.cells)[at'.toNat]? = some tok.cells := by rw [List.getElem?_map, h1]; rfl
  simp (maxSteps := 4000000) only [go_sem, reduceIte, reduceCtorEq, Nat.reduceAdd, Nat.reduceSub, Nat.reduceMul, Nat.reduceLeDiff, Nat.reduceLT, Nat.reduceEqDiff, Nat.reduceBEq, Try.ntmps13, Try.f13, δ13, h2, h0, Tok.cells]

theorem k_now {ns : List Nd} {R : List Int} (h : PI ts at' nv ns code L R) {aa : AAct} {dst : Option Tmp} {k : AAct → AHeap → Prop}
    (h1 : ∀ tok, ts[at'.toNat]? = some tok → (tok.kind ≠ 8 → at' + 1 < ts.length) → k (aPut aa dst (.agg tok.cells)) ⟨upd b p (some (pcells ρt ts at' nv deep df lp tp code pos)), L⟩) :
    CallK Try.prog 13 [.ptr p 0] ⟨upd b p (some (pcells ρt ts at' nv deep df lp tp code pos)), L⟩ aa dst k := by
  obtain ⟨tok, e1, e2⟩ := h.tokAt
  refine CallK.of cb13 (now_ok h.pos e1) ?_
  rintro r h' ⟨rfl, rfl⟩
  exact h1 tok e1 e2

theorem is_ok {ns : List Nd} {R : List Int} (h : PI ts at' nv ns code L R) {s : ByteArray} :
   ACalls Try.prog 32 [.ptr p 0, .str s] ⟨upd b p (some (pcells ρt ts at' nv deep df lp tp code pos)), L⟩ fun r h' => (∃ v, r = .bool v ∧ (v = true → at' + 1 < ts.length)) ∧ h' = ⟨upd b p (some (pcells ρt ts at' nv deep df lp tp code pos)), L⟩ := by
  refine acalls_of Try.func32 rfl (rd_ok hMix (κ := fun _ => false) δ0 _ rfl ?_)
  simp (maxSteps := 4000000) only [go_sem, reduceIte, reduceCtorEq, Nat.reduceAdd, Nat.reduceSub, Nat.reduceMul, Nat.reduceLeDiff, Nat.reduceLT, Nat.reduceEqDiff, Nat.reduceBEq, Try.ntmps32, Try.f32]
  refine k_now h fun tok e1 e2 => ?_
  simp (maxSteps := 4000000) only [go_sem, reduceIte, reduceCtorEq, Nat.reduceAdd, Nat.reduceSub, Nat.reduceMul, Nat.reduceLeDiff, Nat.reduceLT, Nat.reduceEqDiff, Nat.reduceBEq, Tok.cells, pickK]
  grind

theorem k_is {ns : List Nd} {R : List Int} (h : PI ts at' nv ns code L R) {s : ByteArray} {aa : AAct} {dst : Option Tmp} {k : AAct → AHeap → Prop}
    (h1 : at' + 1 < ts.length → k (aPut aa dst (.bool true)) ⟨upd b p (some (pcells ρt ts at' nv deep df lp tp code pos)), L⟩)
    (h2 : k (aPut aa dst (.bool false)) ⟨upd b p (some (pcells ρt ts at' nv deep df lp tp code pos)), L⟩) :
    CallK Try.prog 32 [.ptr p 0, .str s] ⟨upd b p (some (pcells ρt ts at' nv deep df lp tp code pos)), L⟩ aa dst k := by
  refine CallK.of cb32 (is_ok h) ?_
  rintro r h' ⟨⟨v, rfl, hv⟩, rfl⟩
  cases v
  · exact h2
  · exact h1 (hv rfl)

/-- A value that is a slice of texts. -/
def Strs (v : AVal) (l : List ByteArray) : Prop := (v = .nilSlice ∧ l = []) ∨ ∃ ρ, v = .list ρ 1 (l.map fun s => [.str s])

theorem among_ok {h : AHeap} {v : AVal} {l : List ByteArray} (hv : Strs v l) (hl : l.length ≤ 4294967296) {s : ByteArray} :
    ACalls Try.prog 27 [v, .str s] h fun r h' => (∃ i, r = .int .i64 i ∧ -1 ≤ i ∧ i < l.length) ∧ h' = h := by
  refine acalls_of Try.func27 rfl (rd_ok hMix (κ := fun _ => false) δ0 _ rfl ?_)
  have hlen : aLen v = some (l.length : Int) := by rcases hv with ⟨rfl, rfl⟩ | ⟨ρ, rfl⟩ <;> simp [aLen]
  have hfit : fitsKind v (.slice 9) = true := by rcases hv with ⟨rfl, rfl⟩ | ⟨ρ, rfl⟩ <;> rfl
  simp (maxSteps := 4000000) only [go_sem, reduceIte, reduceCtorEq, Nat.reduceAdd, Nat.reduceSub, Nat.reduceMul, Nat.reduceLeDiff, Nat.reduceLT, Nat.reduceEqDiff, Nat.reduceBEq, Try.ntmps27, Try.f27]
  refine AWp.loop_st [true, true, false, false, false, true, false, false, false, false, false, false, false, false, false, false, false, false, false] [] (fun i : Nat => ⟨[v, .str s, .any, .any, .any, .int .i64 i, .any, .any, .any, .any, .any, .any, .any, .any, .any, .any, .any, .any, .any], []⟩) (fun _ => h) (fun i => i ≤ l.length) (fun i => l.length - i) 0 ?_ ?_ rfl (by omega) ?_
  · rcases hv with ⟨rfl, rfl⟩ | ⟨ρ, rfl⟩ <;> simp (maxSteps := 4000000) only [go_sem, reduceIte, reduceCtorEq, Nat.reduceAdd, Nat.reduceSub, Nat.reduceMul, Nat.reduceLeDiff, Nat.reduceLT, Nat.reduceEqDiff, Nat.reduceBEq]
  · simp (maxSteps := 4000000) only [go_sem, reduceIte, reduceCtorEq, Nat.reduceAdd, Nat.reduceSub, Nat.reduceMul, Nat.reduceLeDiff, Nat.reduceLT, Nat.reduceEqDiff, Nat.reduceBEq]
    rfl
  intro i hi
  refine rd_ok hMix (κ := fun _ => false) δ0 _ rfl ?_
  simp (maxSteps := 4000000) only [go_sem, reduceIte, reduceCtorEq, Nat.reduceAdd, Nat.reduceSub, Nat.reduceMul, Nat.reduceLeDiff, Nat.reduceLT, Nat.reduceEqDiff, Nat.reduceBEq, hlen, hfit]
  refine ⟨fun hlt => ?_, fun hge => ⟨_, rfl, by omega, by omega⟩⟩
  have hix : aIndexAddr 1 v (i : Int) = some (.pin [.str (l[i]'(by omega))]) := by
    rcases hv with ⟨rfl, rfl⟩ | ⟨ρ, rfl⟩
    · exact absurd hlt (by simp)
    · simp [aIndexAddr]
  simp (maxSteps := 4000000) only [go_sem, reduceIte, reduceCtorEq, Nat.reduceAdd, Nat.reduceSub, Nat.reduceMul, Nat.reduceLeDiff, Nat.reduceLT, Nat.reduceEqDiff, Nat.reduceBEq, hix]
  have hw : IntKind.wrap .i64 ((i : Int) + 1) = ((i + 1 : Nat) : Int) := by rw [wrap64] <;> omega
  refine ⟨fun _ => ⟨_, rfl, by omega, by omega⟩, fun _ => ⟨?_, ?_⟩⟩
  · rcases hv with ⟨rfl, rfl⟩ | ⟨ρ, rfl⟩ <;> rfl
  · exact ⟨i + 1, by rw [hw], by omega, by omega⟩
end
end Go.Proofs.Ab5
end
/- The reference parser: what takes one token, fails, or lays one node. -/
section
set_option maxRecDepth 10000
set_option linter.unusedSimpArgs false
set_option linter.unusedVariables false
namespace Go.Proofs.Ab5
open Go.Ab Go.Proofs

theorem callBy {P : Program} {f : FuncId} {args : List AVal} {h : AHeap} {aa : AAct} {dst : Option Tmp} {k : AAct → AHeap → Prop} (hc : Callable P f)
    (c : ACalls P f args h fun r h' => k (aPut aa dst r) h') : CallK P f args h aa dst k := ⟨hc, c⟩

def Grow (L L' : Nat → Bool) : Prop := ∀ ρ, L ρ = true → L' ρ = true
theorem Grow.refl (L : Nat → Bool) : Grow L L := fun _ h => h
theorem Grow.trans {L L1 L2} (a : Grow L L1) (b : Grow L1 L2) : Grow L L2 := fun ρ h => b ρ (a ρ h)
theorem Grow.upd {L : Nat → Bool} (n : Nat) : Grow L (upd L n true) := fun ρ h => by simp only [Go.Ab.upd]; split <;> simp_all
theorem Grow.keep {L L' nv} (g : Grow L L') : Keep L nv L' nv := fun ρ h1 h2 => ⟨g ρ h1, h2⟩

section
variable {p : Nat} {b : Nat → Option (List AVal)} {L : Nat → Bool} {ρt : Option Nat} {ts : List Tok} {at' : Int} {nv : AVal} {deep : Int} {df lp tp : Bool} {code pos : Int} {ns : List Nd} {R : List Int}
variable {S : AVal → AHeap → Prop}

theorem PI.grow (h : PI ts at' nv ns code L R) {L' : Nat → Bool} (g : Grow L L') : PI ts at' nv ns code L' R :=
  ⟨h.tok, h.pos, h.lt, ⟨h.nodes.val, fun ρ hr => g ρ (h.nodes.own ρ hr)⟩, h.kids, h.fr⟩
theorem PI.step (h : PI ts at' nv ns code L R) {at1 code1 : Int} (h1 : at' ≤ at1) (h2 : at1 < ts.length) (h3 : code1 = 0 → code = 0) : PI ts at1 nv ns code1 L R :=
  ⟨h.tok, by have := h.pos; omega, h2, h.nodes, h.kids, fun e => h.fr (h3 e)⟩
theorem PI.roots (h : PI ts at' nv ns code L R) {R' : List Int} (p : R.Perm R') : PI ts at' nv ns code L R' := ⟨h.tok, h.pos, h.lt, h.nodes, h.kids, fun e => (h.fr e).perm_roots p⟩
theorem PI.wrap1 (h : PI ts at' nv ns code L R) : IntKind.wrap .i64 (at' + 1) = at' + 1 := by
  have h1 := h.pos
  have h2 := h.lt
  have h3 := h.tok.most
  rw [wrap64] <;> omega
theorem PI.wrap2 (h : PI ts at' nv ns code L R) : IntKind.wrap .i64 (at' + 2) = at' + 2 := by
  have h1 := h.pos
  have h2 := h.lt
  have h3 := h.tok.most
  rw [wrap64] <;> omega

theorem c_bad (h1 : code = 0 → S (.bool false) ⟨upd b p (some (pcells ρt ts at' nv deep df lp tp code pos)), L⟩) (h2 : code ≠ 0 → S (.bool true) ⟨upd b p (some (pcells ρt ts at' nv deep df lp tp code pos)), L⟩) : ACalls Try.prog 12 [.ptr p 0] ⟨upd b p (some (pcells ρt ts at' nv deep df lp tp code pos)), L⟩ S := by
  refine bad_ok.mono ?_
  rintro r h' ⟨rfl, rfl⟩
  by_cases e : code = 0
  · simpa [e] using h1 e
  · simpa [e] using h2 e

theorem c_now (h : PI ts at' nv ns code L R) (h1 : ∀ tok, ts[at'.toNat]? = some tok → (tok.kind ≠ 8 → at' + 1 < ts.length) → tok.text.size ≤ 1048576 → S (.agg [.int .i64 tok.kind, .str tok.text, .int .i64 tok.pos]) ⟨upd b p (some (pcells ρt ts at' nv deep df lp tp code pos)), L⟩) :
    ACalls Try.prog 13 [.ptr p 0] ⟨upd b p (some (pcells ρt ts at' nv deep df lp tp code pos)), L⟩ S := by
  obtain ⟨tok, e1, e2⟩ := h.tokAt
  refine (now_ok h.pos e1).mono ?_
  rintro r h' ⟨rfl, rfl⟩
  exact h1 tok e1 e2 (h.tok.text tok (List.mem_of_getElem? e1))

theorem c_is (h : PI ts at' nv ns code L R) {s : ByteArray} (h1 : ∀ v, (v = true → at' + 1 < ts.length) → S (.bool v) ⟨upd b p (some (pcells ρt ts at' nv deep df lp tp code pos)), L⟩) :
    ACalls Try.prog 32 [.ptr p 0, .str s] ⟨upd b p (some (pcells ρt ts at' nv deep df lp tp code pos)), L⟩ S := by
  refine (is_ok h).mono ?_
  rintro r h' ⟨⟨v, rfl, hv⟩, rfl⟩
  exact h1 v hv

theorem c_among {h : AHeap} {v : AVal} {l : List ByteArray} {s : ByteArray} (hv : Strs v l) (hl : l.length ≤ 4294967296) (h1 : ∀ i : Int, -1 ≤ i → i < l.length → S (.int .i64 i) h) :
    ACalls Try.prog 27 [v, .str s] h S := by
  refine (among_ok hv hl).mono ?_
  rintro r h' ⟨⟨i, rfl, e1, e2⟩, rfl⟩
  exact h1 i e1 e2

theorem c_begins (h : PI ts at' nv ns code L R) (h1 : ∀ v L1, Grow L L1 → S (.bool v) ⟨upd b p (some (pcells ρt ts at' nv deep df lp tp code pos)), L1⟩) :
    ACalls Try.prog 36 [.ptr p 0] ⟨upd b p (some (pcells ρt ts at' nv deep df lp tp code pos)), L⟩ S := by
  refine acalls_of Try.func36 rfl (rd_ok hMix (κ := fun _ => false) δ0 _ rfl ?_)
  simp (maxSteps := 4000000) only [go_sem, reduceIte, reduceCtorEq, Nat.reduceAdd, Nat.reduceSub, Nat.reduceMul, Nat.reduceLeDiff, Nat.reduceLT, Nat.reduceEqDiff, Nat.reduceBEq, Try.ntmps36, Try.f36]
  refine callBy cb13 (c_now h fun tok e1 e2 e3 => ?_)
  simp (maxSteps := 4000000) only [go_sem, reduceIte, reduceCtorEq, Nat.reduceAdd, Nat.reduceSub, Nat.reduceMul, Nat.reduceLeDiff, Nat.reduceLT, Nat.reduceEqDiff, Nat.reduceBEq, pickK]
  have h2 := h1 true L (Grow.refl L)
  have h3 := h1 false L (Grow.refl L)
  refine ⟨fun _ => h2, fun _ => ⟨fun _ => h2, fun _ => ⟨fun _ => h2, fun _ => ⟨fun _ n hn hL => ?_, fun _ => h3⟩⟩⟩⟩
  refine callBy cb27 (c_among (l := [_, _, _, _, _, _, _, _]) (.inr ⟨some n, rfl⟩) (by decide) fun i _ _ => ?_)
  simp (maxSteps := 4000000) only [go_sem, reduceIte, reduceCtorEq, Nat.reduceAdd, Nat.reduceSub, Nat.reduceMul, Nat.reduceLeDiff, Nat.reduceLT, Nat.reduceEqDiff, Nat.reduceBEq]
  exact ⟨fun _ => h1 _ _ (Grow.upd n), fun _ => h1 _ _ (Grow.upd n)⟩

theorem c_fail {c po : Int} (hc : c ≠ 0) (h1 : ∀ code1 pos1, code1 ≠ 0 → S (.int .i64 (-1)) ⟨upd b p (some (pcells ρt ts at' nv deep df lp tp code1 pos1)), L⟩) :
    ACalls Try.prog 50 [.ptr p 0, .int .i64 c, .int .i64 po] ⟨upd b p (some (pcells ρt ts at' nv deep df lp tp code pos)), L⟩ S := by
  refine acalls_of Try.func50 rfl (rd_ok hMix (κ := fun _ => false) δ0 _ rfl ?_)
  simp (maxSteps := 4000000) only [go_sem, reduceIte, reduceCtorEq, Nat.reduceAdd, Nat.reduceSub, Nat.reduceMul, Nat.reduceLeDiff, Nat.reduceLT, Nat.reduceEqDiff, Nat.reduceBEq, Try.ntmps50, Try.f50]
  exact ⟨fun e => h1 _ _ hc, fun e => h1 _ _ e⟩

theorem c_wrong (h : PI ts at' nv ns code L R) (h1 : ∀ code1 pos1, code1 ≠ 0 → S (.int .i64 (-1)) ⟨upd b p (some (pcells ρt ts at' nv deep df lp tp code1 pos1)), L⟩) :
    ACalls Try.prog 37 [.ptr p 0] ⟨upd b p (some (pcells ρt ts at' nv deep df lp tp code pos)), L⟩ S := by
  refine acalls_of Try.func37 rfl (rd_ok hMix (κ := fun _ => false) δ0 _ rfl ?_)
  simp (maxSteps := 4000000) only [go_sem, reduceIte, reduceCtorEq, Nat.reduceAdd, Nat.reduceSub, Nat.reduceMul, Nat.reduceLeDiff, Nat.reduceLT, Nat.reduceEqDiff, Nat.reduceBEq, Try.ntmps37, Try.f37]
  refine callBy cb13 (c_now h fun tok e1 e2 e3 => ?_)
  simp (maxSteps := 4000000) only [go_sem, reduceIte, reduceCtorEq, Nat.reduceAdd, Nat.reduceSub, Nat.reduceMul, Nat.reduceLeDiff, Nat.reduceLT, Nat.reduceEqDiff, Nat.reduceBEq]
  refine callBy cb50 (c_fail (by decide) fun code1 pos1 hc => ?_)
  simp (maxSteps := 4000000) only [go_sem, reduceIte, reduceCtorEq, Nat.reduceAdd, Nat.reduceSub, Nat.reduceMul, Nat.reduceLeDiff, Nat.reduceLT, Nat.reduceEqDiff, Nat.reduceBEq]
  exact h1 _ _ hc

theorem c_enter {po : Int} (h1 : ∀ v deep1 code1 pos1, (v = true → code1 = 0) → (v = false → code1 ≠ 0) → (code1 = 0 → code = 0) → S (.bool v) ⟨upd b p (some (pcells ρt ts at' nv deep1 df lp tp code1 pos1)), L⟩) :
    ACalls Try.prog 48 [.ptr p 0, .int .i64 po] ⟨upd b p (some (pcells ρt ts at' nv deep df lp tp code pos)), L⟩ S := by
  refine acalls_of Try.func48 rfl (rd_ok hMix (κ := fun _ => false) δ0 _ rfl ?_)
  simp (maxSteps := 4000000) only [go_sem, reduceIte, reduceCtorEq, Nat.reduceAdd, Nat.reduceSub, Nat.reduceMul, Nat.reduceLeDiff, Nat.reduceLT, Nat.reduceEqDiff, Nat.reduceBEq, Try.ntmps48, Try.f48]
  refine callBy cb12 (c_bad (fun e => ?_) (fun e => ?_)) <;> simp (maxSteps := 4000000) only [go_sem, reduceIte, reduceCtorEq, Nat.reduceAdd, Nat.reduceSub, Nat.reduceMul, Nat.reduceLeDiff, Nat.reduceLT, Nat.reduceEqDiff, Nat.reduceBEq]
  · refine ⟨fun _ => ?_, fun _ => ?_⟩
    · refine callBy cb50 (c_fail (by decide) fun code1 pos1 hc => ?_)
      simp (maxSteps := 4000000) only [go_sem, reduceIte, reduceCtorEq, Nat.reduceAdd, Nat.reduceSub, Nat.reduceMul, Nat.reduceLeDiff, Nat.reduceLT, Nat.reduceEqDiff, Nat.reduceBEq]
      exact h1 _ _ _ _ (by simp) (by simp [hc]) (fun e => absurd e hc)
    · exact h1 _ _ _ _ (fun _ => e) (by simp) id
  · exact h1 _ _ _ _ (by simp) (fun _ => e) id

theorem c_want (h : PI ts at' nv ns code L R) {s : ByteArray} (h1 : ∀ v at1 code1 pos1, (v = true → code1 = 0) → (v = false → code1 ≠ 0) → (code1 = 0 → code = 0 ∧ at1 = at' + 1) → at' ≤ at1 → at1 < ts.length → S (.bool v) ⟨upd b p (some (pcells ρt ts at1 nv deep df lp tp code1 pos1)), L⟩) :
    ACalls Try.prog 35 [.ptr p 0, .str s] ⟨upd b p (some (pcells ρt ts at' nv deep df lp tp code pos)), L⟩ S := by
  refine acalls_of Try.func35 rfl (rd_ok hMix (κ := fun _ => false) δ0 _ rfl ?_)
  simp (maxSteps := 4000000) only [go_sem, reduceIte, reduceCtorEq, Nat.reduceAdd, Nat.reduceSub, Nat.reduceMul, Nat.reduceLeDiff, Nat.reduceLT, Nat.reduceEqDiff, Nat.reduceBEq, Try.ntmps35, Try.f35]
  have hp := h.pos
  have hl := h.lt
  refine callBy cb12 (c_bad (fun e => ?_) (fun e => ?_)) <;> simp (maxSteps := 4000000) only [go_sem, reduceIte, reduceCtorEq, Nat.reduceAdd, Nat.reduceSub, Nat.reduceMul, Nat.reduceLeDiff, Nat.reduceLT, Nat.reduceEqDiff, Nat.reduceBEq]
  · refine callBy cb32 (c_is h fun v hv => ?_)
    cases v
    · simp (maxSteps := 4000000) only [go_sem, reduceIte, reduceCtorEq, Nat.reduceAdd, Nat.reduceSub, Nat.reduceMul, Nat.reduceLeDiff, Nat.reduceLT, Nat.reduceEqDiff, Nat.reduceBEq]
      refine callBy cb37 (c_wrong h fun code1 pos1 hc => ?_)
      simp (maxSteps := 4000000) only [go_sem, reduceIte, reduceCtorEq, Nat.reduceAdd, Nat.reduceSub, Nat.reduceMul, Nat.reduceLeDiff, Nat.reduceLT, Nat.reduceEqDiff, Nat.reduceBEq]
      exact h1 _ _ _ _ (by simp) (by simp [hc]) (fun e => absurd e hc) (by omega) (by omega)
    · simp (maxSteps := 4000000) only [go_sem, reduceIte, reduceCtorEq, Nat.reduceAdd, Nat.reduceSub, Nat.reduceMul, Nat.reduceLeDiff, Nat.reduceLT, Nat.reduceEqDiff, Nat.reduceBEq, h.wrap1]
      exact h1 _ _ _ _ (fun _ => e) (by simp) (fun _ => ⟨e, rfl⟩) (by omega) (hv rfl)
  · exact h1 _ _ _ _ (by simp) (fun _ => e) (fun e' => absurd e' e) (by omega) (by omega)

theorem c_kind (h : PI ts at' nv ns code L R) {kk : Int} (hk : kk ≠ 8) (h1 : ∀ (tok : Tok) v at1 code1 pos1, tok.text.size ≤ 1048576 → (v = true → code1 = 0) → (v = false → code1 ≠ 0) → (code1 = 0 → code = 0 ∧ at1 = at' + 1) → at' ≤ at1 → at1 < ts.length →
      S (.tuple [.agg [.int .i64 tok.kind, .str tok.text, .int .i64 tok.pos], .bool v]) ⟨upd b p (some (pcells ρt ts at1 nv deep df lp tp code1 pos1)), L⟩) :
    ACalls Try.prog 42 [.ptr p 0, .int .i64 kk] ⟨upd b p (some (pcells ρt ts at' nv deep df lp tp code pos)), L⟩ S := by
  refine acalls_of Try.func42 rfl (rd_ok hMix (κ := fun _ => false) δ0 _ rfl ?_)
  simp (maxSteps := 4000000) only [go_sem, reduceIte, reduceCtorEq, Nat.reduceAdd, Nat.reduceSub, Nat.reduceMul, Nat.reduceLeDiff, Nat.reduceLT, Nat.reduceEqDiff, Nat.reduceBEq, Try.ntmps42, Try.f42]
  have hp := h.pos
  have hl := h.lt
  refine callBy cb12 (c_bad (fun e => ?_) (fun e => ?_)) <;> simp (maxSteps := 4000000) only [go_sem, reduceIte, reduceCtorEq, Nat.reduceAdd, Nat.reduceSub, Nat.reduceMul, Nat.reduceLeDiff, Nat.reduceLT, Nat.reduceEqDiff, Nat.reduceBEq]
  · refine callBy cb13 (c_now h fun tok e1 e2 e3 => ?_)
    simp (maxSteps := 4000000) only [go_sem, reduceIte, reduceCtorEq, Nat.reduceAdd, Nat.reduceSub, Nat.reduceMul, Nat.reduceLeDiff, Nat.reduceLT, Nat.reduceEqDiff, Nat.reduceBEq, h.wrap1]
    refine ⟨fun hne => ?_, fun heq => ?_⟩
    · refine callBy cb37 (c_wrong h fun code1 pos1 hc => ?_)
      simp (maxSteps := 4000000) only [go_sem, reduceIte, reduceCtorEq, Nat.reduceAdd, Nat.reduceSub, Nat.reduceMul, Nat.reduceLeDiff, Nat.reduceLT, Nat.reduceEqDiff, Nat.reduceBEq]
      exact h1 ⟨0, .empty, 0⟩ _ _ _ _ (by decide) (by simp) (by simp [hc]) (fun e => absurd e hc) (by omega) (by omega)
    · exact h1 tok _ _ _ _ e3 (fun _ => e) (by simp) (fun _ => ⟨e, rfl⟩) (by omega) (e2 (by rw [heq]; exact hk))
  · exact h1 ⟨0, .empty, 0⟩ _ _ _ _ (by decide) (by simp) (fun _ => e) (fun e' => absurd e' e) (by omega) (by omega)

end
end Go.Proofs.Ab5
end
