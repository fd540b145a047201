/-
  The reference scanner: what its state is, and what holds of it.
-/
import Derived.Test.YtdgfmdjlhkjbaaaGa
set_option linter.all false
section
set_option linter.unusedVariables false
set_option linter.unusedSimpArgs false
namespace Go.Proofs.Ab5
open Go.Ab Go.Proofs

structure SC where
  at' : Int
  ov : AVal
  os : List Int
  bv : AVal
  bs : List Int
  outv : AVal
  ts : List Tok
  line : Bool
  bad : Int

def blkOf : AVal → Option Nat
  | .ref β _ _ _ => some β
  | _ => none

/-- A slice of ints over a block of its own. -/
def Mut (h : AHeap) (p : Nat) (k : IntKind) (v : AVal) (xs : List Int) : Prop :=
  (v = .nilSlice ∧ xs = []) ∨ ∃ β off cs, v = .ref β off xs.length 1 ∧ β ≠ p ∧ h.blk β = some cs ∧ off + xs.length ≤ cs.length ∧ (cs.drop off).take xs.length = xs.map (.int k)

structure SX (p : Nat) (s : ByteArray) (h : AHeap) (x : SC) : Prop where
  blk : h.blk p = some [.str s, .int .i64 x.at', x.ov, x.bv, x.outv, .bool x.line, .int .i64 x.bad]
  opn : Mut h p .u8 x.ov x.os
  bks : Mut h p .i64 x.bv x.bs
  apart : ∀ β, blkOf x.ov = some β → blkOf x.bv ≠ some β
  out : (x.outv = .nilSlice ∧ x.ts = []) ∨ ∃ ρ, x.outv = .list (some ρ) 3 (x.ts.map Tok.cells) ∧ h.live ρ = true

section
variable {h h' : AHeap} {p : Nat} {k : IntKind} {v : AVal} {xs : List Int} {s : ByteArray} {x : SC}

theorem Mut.frame (m : Mut h p k v xs) (hb : ∀ β, blkOf v = some β → h'.blk β = h.blk β) : Mut h' p k v xs := by
  rcases m with m | ⟨β, off, cs, rfl, h1, h2, h3⟩
  · exact .inl m
  · exact .inr ⟨β, off, cs, rfl, h1, by rw [hb β rfl]; exact h2, h3⟩
theorem Mut.ne (m : Mut h p k v xs) : ∀ β, blkOf v = some β → β ≠ p ∧ ∃ cs, h.blk β = some cs := by
  intro β hβ
  rcases m with ⟨rfl, _⟩ | ⟨β', off, cs, rfl, h1, h2, h3⟩
  · cases hβ
  · cases hβ; exact ⟨h1, cs, h2⟩
theorem Mut.loc (m : Mut h p k v xs) : v.isLoc = false := by
  rcases m with ⟨rfl, _⟩ | ⟨β', off, cs, rfl, _⟩ <;> rfl
theorem Mut.one (m : Mut h p k v xs) : v.one = true := by
  rcases m with ⟨rfl, _⟩ | ⟨β', off, cs, rfl, _⟩ <;> rfl
theorem Mut.cells (m : Mut h p k v xs) : v.cells = some [v] := by
  rcases m with ⟨rfl, _⟩ | ⟨β', off, cs, rfl, _⟩ <;> rfl
theorem Mut.fits {e : TypeId} (m : Mut h p k v xs) : fitsKind v (.slice e) = true := by
  rcases m with ⟨rfl, _⟩ | ⟨β', off, cs, rfl, _⟩ <;> rfl
theorem Mut.len (m : Mut h p k v xs) : aLen v = some (xs.length : Int) := by
  rcases m with ⟨rfl, rfl⟩ | ⟨β', off, cs, rfl, _⟩ <;> rfl

/-- One of its elements is read. -/
theorem Mut.at (m : Mut h p k v xs) {i : Int} (h0 : 0 ≤ i) {c : Int} (hc : xs[i.toNat]? = some c) : ∃ β o, aIndexAddr 1 v i = some (.ptr β o) ∧ (h.blk β).map (·.drop o) ≠ none ∧ ∃ r, (h.blk β).map (·.drop o) = some (.int k c :: r) := by
  rcases m with ⟨rfl, rfl⟩ | ⟨β, off, cs, rfl, h1, h2, h3, h4⟩
  · simp at hc
  · have hlt := (List.getElem?_eq_some_iff.1 hc).1
    refine ⟨β, off + i.toNat * 1, ?_, by rw [h2]; simp, ?_⟩
    · rw [aIndexAddr_ref, if_pos ⟨h0, by omega⟩]
    · rw [h2]
      have h5 : (cs.drop (off + i.toNat * 1))[0]? = some (.int k c) := by
        have h6 : ((cs.drop off).take xs.length)[i.toNat]? = some (.int k c) := by rw [h4, List.getElem?_map, hc]; rfl
        rw [List.getElem?_take_of_lt hlt, List.getElem?_drop] at h6
        rw [List.getElem?_drop]; simpa using h6
      cases hd : cs.drop (off + i.toNat * 1) with
      | nil => rw [hd] at h5; simp at h5
      | cons a r => rw [hd] at h5; simp at h5; subst h5; exact ⟨r, congrArg some hd⟩

/-- The last one goes. -/
theorem Mut.pop (m : Mut h p k v xs) (hne : xs ≠ []) : ∃ v', aSlice 1 v none (some ((xs.length : Int) - 1)) = some v' ∧ Mut h p k v' xs.dropLast ∧ blkOf v' = blkOf v ∧ v'.isLoc = false ∧ v'.cells = some [v'] ∧ v'.one = true := by
  rcases m with ⟨rfl, rfl⟩ | ⟨β, off, cs, rfl, h1, h2, h3, h4⟩
  · exact absurd rfl hne
  · have hl : 0 < xs.length := List.length_pos_iff.2 hne
    refine ⟨.ref β off (xs.length - 1) 1, ?_, .inr ⟨β, off, cs, by simp, h1, h2, by simp; omega, ?_⟩, rfl, rfl, rfl, rfl⟩
    · simp only [aSlice, if_true, Option.getD_some]
      rw [if_pos (by omega)]
      congr 2; omega
    · rw [List.length_dropLast, List.map_dropLast, ← h4, List.dropLast_eq_take, List.take_take, List.length_take, List.length_drop]
      congr 1; omega

/-- One more. -/
theorem Mut.push (m : Mut h p k v xs) {cells : List AVal} (hp : h.blk p = some cells) {n : Nat} (hn : h.blk n = none) (c : Int) (hlen : xs.length + 1 ≤ 4294967296) {te : TI} (hs : te.size = 1) (hb : te.bytes ≤ 4096)
    {K : AVal × AHeap → Prop} (h1 : ∀ v' h', h'.live = h.live → h'.blk p = h.blk p → (∀ γ, blkOf v ≠ some γ → γ ≠ n → h'.blk γ = h.blk γ) → Mut h' p k v' (xs ++ [c]) → blkOf v' = some n → v'.isLoc = false → v'.cells = some [v'] → v'.one = true → K (v', h')) :
    W (aAppend te true h n v [[.int k c]]) K := by
  have hnp : n ≠ p := fun e => by rw [e, hp] at hn; cases hn
  have hf : ∀ m, m ≤ 4294967296 → aFits m te.bytes = true := fun m hm => by simp [aFits, hb, hm]
  rcases m with ⟨rfl, rfl⟩ | ⟨β, off, cs, rfl, k1, k2, k3, k4⟩
  · refine ⟨(.ref n 0 1 1, { h with blk := upd h.blk n (some [.int k c]) }), ?_, ?_⟩
    · simp only [aAppend]
      rw [if_pos (by exact hf _ (by simp)), hs]; simp
    · refine h1 _ _ rfl (upd_ne _ _ (fun e => hnp e.symm)) (fun γ _ hγ => upd_ne _ _ hγ) (.inr ⟨n, 0, [.int k c], by simp, hnp, by simp [upd_same], by simp, by simp⟩) rfl rfl rfl rfl
  · have hnβ : n ≠ β := fun e => by rw [e, k2] at hn; cases hn
    refine ⟨(.ref n 0 (xs.length + 1) 1, { h with blk := upd (upd h.blk β none) n (some ((cs.drop off).take (xs.length * 1) ++ [.int k c])) }), ?_, ?_⟩
    · simp only [aAppend, k2]
      rw [if_pos ⟨hs.symm, by rw [hs]; omega, by exact hf _ (by simpa using hlen)⟩, hs]; simp
    · refine h1 _ _ rfl (by show upd (upd h.blk β none) n _ p = _; rw [upd_ne _ _ (fun e => hnp e.symm), upd_ne _ _ (fun e => k1 e.symm)]) (fun γ hγ hγn => by
        show upd (upd h.blk β none) n _ γ = _
        rw [upd_ne _ _ hγn, upd_ne _ _ (fun e => hγ (by rw [e]; rfl))]) (.inr ⟨n, 0, _, by simp, hnp, upd_same _ _ _, ?_, ?_⟩) rfl rfl rfl rfl
      · simp; omega
      · simp only [Nat.mul_one, k4, List.drop_zero, List.length_append, List.length_cons, List.length_nil, List.map_append, List.map_cons, List.map_nil]
        exact List.take_of_length_le (by simp)

theorem SX.set (hx : SX p s h x) (a : Int) (l : Bool) (b : Int) : SX p s ⟨upd h.blk p (some [.str s, .int .i64 a, x.ov, x.bv, x.outv, .bool l, .int .i64 b]), h.live⟩ { x with at' := a, line := l, bad := b } :=
  ⟨upd_same _ _ _, hx.opn.frame fun β hβ => upd_ne _ _ (hx.opn.ne β hβ).1, hx.bks.frame fun β hβ => upd_ne _ _ (hx.bks.ne β hβ).1, hx.apart, hx.out⟩
theorem SX.live (hx : SX p s h x) {L1 : Nat → Bool} (g : Grow h.live L1) : SX p s ⟨h.blk, L1⟩ x :=
  ⟨hx.blk, hx.opn.frame fun _ _ => rfl, hx.bks.frame fun _ _ => rfl, hx.apart, hx.out.imp id fun ⟨ρ, h1, h2⟩ => ⟨ρ, h1, g ρ h2⟩⟩
theorem SX.outOne (hx : SX p s h x) : x.outv.one = true := by rcases hx.out with ⟨e, _⟩ | ⟨ρ, e, _⟩ <;> rw [e] <;> rfl
theorem SX.outLoc (hx : SX p s h x) : x.outv.isLoc = false := by rcases hx.out with ⟨e, _⟩ | ⟨ρ, e, _⟩ <;> rw [e] <;> rfl

theorem SX.setOpen (hx : SX p s h x) {v' : AVal} {xs' : List Int} (m : Mut h p .u8 v' xs') (hb : blkOf v' = blkOf x.ov) :
    SX p s ⟨upd h.blk p (some [.str s, .int .i64 x.at', v', x.bv, x.outv, .bool x.line, .int .i64 x.bad]), h.live⟩ { x with ov := v', os := xs' } :=
  ⟨upd_same _ _ _, m.frame fun β hβ => upd_ne _ _ (m.ne β hβ).1, hx.bks.frame fun β hβ => upd_ne _ _ (hx.bks.ne β hβ).1, fun β hβ => hx.apart β (by rw [← hb]; exact hβ), hx.out⟩
theorem SX.setBlk (hx : SX p s h x) {v' : AVal} {xs' : List Int} (m : Mut h p .i64 v' xs') (hb : blkOf v' = blkOf x.bv) :
    SX p s ⟨upd h.blk p (some [.str s, .int .i64 x.at', x.ov, v', x.outv, .bool x.line, .int .i64 x.bad]), h.live⟩ { x with bv := v', bs := xs' } :=
  ⟨upd_same _ _ _, hx.opn.frame fun β hβ => upd_ne _ _ (hx.opn.ne β hβ).1, m.frame fun β hβ => upd_ne _ _ (m.ne β hβ).1, fun β hβ => by show blkOf v' ≠ _; rw [hb]; exact hx.apart β hβ, hx.out⟩

/-- A bracket more that is open. -/
theorem SX.pushOpen (hx : SX p s h x) {n : Nat} (hn : h.blk n = none) (c : Int) (hlen : x.os.length + 1 ≤ 4294967296) {te : TI} (hs : te.size = 1) (hb : te.bytes ≤ 4096)
    {K : AVal × AHeap → Prop} (h1 : ∀ v' h', h'.blk p = some [.str s, .int .i64 x.at', x.ov, x.bv, x.outv, .bool x.line, .int .i64 x.bad] → v'.isLoc = false → v'.cells = some [v'] → v'.one = true →
      SX p s ⟨upd h'.blk p (some [.str s, .int .i64 x.at', v', x.bv, x.outv, .bool x.line, .int .i64 x.bad]), h'.live⟩ { x with ov := v', os := x.os ++ [c] } → K (v', h')) :
    W (aAppend te true h n x.ov [[.int .u8 c]]) K := by
  refine hx.opn.push hx.blk hn c hlen hs hb fun v' h' e1 e2 e3 m e4 l1 l2 l3 => h1 v' h' (by rw [e2]; exact hx.blk) l1 l2 l3 ?_
  have hbn : blkOf x.bv ≠ some n := fun e => by obtain ⟨_, cs, h⟩ := hx.bks.ne n e; rw [hn] at h; cases h
  refine ⟨upd_same _ _ _, m.frame fun β hβ => upd_ne _ _ (m.ne β hβ).1, hx.bks.frame fun β hβ => ?_, fun β hβ => ?_, ?_⟩
  · show upd h'.blk p _ β = _
    rw [upd_ne _ _ (hx.bks.ne β hβ).1]
    exact e3 β (fun e => hx.apart β e hβ) (fun e => hbn (by rw [← e]; exact hβ))
  · have hβ : blkOf v' = some β := hβ
    rw [e4] at hβ; cases hβ; exact hbn
  · show _ ∨ ∃ ρ, _ ∧ h'.live ρ = true
    rw [e1]; exact hx.out

/-- A block more. -/
theorem SX.pushBlock (hx : SX p s h x) {n : Nat} (hn : h.blk n = none) (c : Int) (hlen : x.bs.length + 1 ≤ 4294967296) {te : TI} (hs : te.size = 1) (hb : te.bytes ≤ 4096)
    {K : AVal × AHeap → Prop} (h1 : ∀ v' h', h'.blk p = some [.str s, .int .i64 x.at', x.ov, x.bv, x.outv, .bool x.line, .int .i64 x.bad] → v'.isLoc = false → v'.cells = some [v'] → v'.one = true →
      SX p s ⟨upd h'.blk p (some [.str s, .int .i64 x.at', x.ov, v', x.outv, .bool x.line, .int .i64 x.bad]), h'.live⟩ { x with bv := v', bs := x.bs ++ [c] } → K (v', h')) :
    W (aAppend te true h n x.bv [[.int .i64 c]]) K := by
  refine hx.bks.push hx.blk hn c hlen hs hb fun v' h' e1 e2 e3 m e4 l1 l2 l3 => h1 v' h' (by rw [e2]; exact hx.blk) l1 l2 l3 ?_
  have hbn : blkOf x.ov ≠ some n := fun e => by obtain ⟨_, cs, h⟩ := hx.opn.ne n e; rw [hn] at h; cases h
  refine ⟨upd_same _ _ _, hx.opn.frame fun β hβ => ?_, m.frame fun β hβ => upd_ne _ _ (m.ne β hβ).1, fun β hβ => ?_, ?_⟩
  · show upd h'.blk p _ β = _
    rw [upd_ne _ _ (hx.opn.ne β hβ).1]
    exact e3 β (fun e => hx.apart β hβ e) (fun e => hbn (by rw [← e]; exact hβ))
  · intro e
    have e : blkOf v' = some β := e
    rw [e4] at e; cases e; exact hbn hβ
  · show _ ∨ ∃ ρ, _ ∧ h'.live ρ = true
    rw [e1]; exact hx.out

/-- A token more. -/
theorem SX.pushTok (hx : SX p s h x) {n : Nat} (hL : h.live n = false) (t : Tok) (hlen : x.ts.length + 1 ≤ 4294967296) {te : TI} (hs : te.size = 3) (hb : te.bytes ≤ 4096)
    {K : AVal × AHeap → Prop} (h1 : ∀ v' h', h'.blk = h.blk → v'.isLoc = false → v'.cells = some [v'] → v'.one = true →
      SX p s ⟨upd h.blk p (some [.str s, .int .i64 x.at', x.ov, x.bv, v', .bool x.line, .int .i64 x.bad]), h'.live⟩ { x with outv := v', ts := x.ts ++ [t] } → K (v', h')) :
    W (aAppend te false h n x.outv [t.cells]) K := by
  have hf : ∀ m, m ≤ 4294967296 → aFits m te.bytes = true := fun m hm => by simp [aFits, hb, hm]
  have key : ∀ v' L', (∃ ρ, v' = .list (some ρ) 3 ((x.ts ++ [t]).map Tok.cells) ∧ L' ρ = true) →
      SX p s ⟨upd h.blk p (some [.str s, .int .i64 x.at', x.ov, x.bv, v', .bool x.line, .int .i64 x.bad]), L'⟩ { x with outv := v', ts := x.ts ++ [t] } := fun v' L' ho =>
    ⟨upd_same _ _ _, hx.opn.frame fun β hβ => upd_ne _ _ (hx.opn.ne β hβ).1, hx.bks.frame fun β hβ => upd_ne _ _ (hx.bks.ne β hβ).1, hx.apart, .inr ho⟩
  rcases hx.out with ⟨e1, e2⟩ | ⟨ρ, e1, e2⟩
  · rw [e1]
    refine ⟨(.list (some n) 3 [t.cells], ⟨h.blk, upd h.live n true⟩), ?_, h1 _ _ rfl rfl rfl rfl (key _ _ ⟨n, by rw [e2]; rfl, upd_same _ _ _⟩)⟩
    simp only [aAppend]
    rw [if_pos (by exact hf _ (by simp)), hs]; simp
  · rw [e1]
    refine ⟨(.list (some n) 3 ((x.ts ++ [t]).map Tok.cells), ⟨h.blk, upd (upd h.live ρ false) n true⟩), ?_, h1 _ _ rfl rfl rfl rfl (key _ _ ⟨n, rfl, upd_same _ _ _⟩)⟩
    simp only [aAppend]
    rw [if_pos ⟨hs.symm, e2, by exact hf _ (by simpa using hlen)⟩, hs]; simp
end
end Go.Proofs.Ab5
end
/- The reference scanner: its small functions. -/
section
set_option maxRecDepth 10000
set_option maxHeartbeats 4000000
set_option linter.unusedSimpArgs false
set_option linter.unusedVariables false
namespace Go.Proofs.Ab5
open Go.Ab Go.Proofs
variable {p : Nat} {s : ByteArray} {h : AHeap} {x : SC} {S : AVal → AHeap → Prop}

theorem c_xfail (hx : SX p s h x) {pos : Int} (h1 : ∀ h' b', SX p s h' { x with bad := b' } → (x.bad < 0 → b' = pos) → (¬ x.bad < 0 → b' = x.bad) → S (.tuple []) h') : ACalls Try.prog 22 [.ptr p 0, .int .i64 pos] h S := by
  refine acalls_of Try.func22 rfl (rd_ok hMix (κ := fun _ => false) δ0 _ rfl ?_)
  simp (maxSteps := 4000000) only [go_sem, reduceIte, reduceCtorEq, Nat.reduceAdd, Nat.reduceSub, Nat.reduceMul, Nat.reduceLeDiff, Nat.reduceLT, Nat.reduceEqDiff, Nat.reduceBEq, Try.ntmps22, Try.f22, hx.blk]
  refine ⟨fun hb => ?_, fun hb => ?_⟩
  · exact h1 _ _ (hx.set x.at' x.line pos) (fun _ => rfl) (fun e => absurd hb e)
  · exact h1 h x.bad hx (fun e => absurd e (by omega)) (fun _ => rfl)

theorem c_xput (hx : SX p s h x) {kind pos : Int} {text : ByteArray} (hlen : x.ts.length + 1 ≤ 4294967296) (h1 : ∀ h' v', SX p s h' { x with outv := v', ts := x.ts ++ [⟨kind, text, pos⟩] } → S (.tuple []) h') :
    ACalls Try.prog 21 [.ptr p 0, .int .i64 kind, .str text, .int .i64 pos] h S := by
  refine acalls_of Try.func21 rfl (rd_ok hMix (κ := fun _ => false) δ0 _ rfl ?_)
  simp (maxSteps := 4000000) only [go_sem, reduceIte, reduceCtorEq, Nat.reduceAdd, Nat.reduceSub, Nat.reduceMul, Nat.reduceLeDiff, Nat.reduceLT, Nat.reduceEqDiff, Nat.reduceBEq, Try.ntmps21, Try.f21, hx.blk]
  intro n hn hL n2 hn2 hL2
  refine (hx.live (Grow.upd n)).pushTok (t := ⟨kind, text, pos⟩) hL2 hlen rfl (by decide) fun v' h' e1 e2 e3 e4 hx' => ?_
  simp (maxSteps := 4000000) only [go_sem, reduceIte, reduceCtorEq, Nat.reduceAdd, Nat.reduceSub, Nat.reduceMul, Nat.reduceLeDiff, Nat.reduceLT, Nat.reduceEqDiff, Nat.reduceBEq, e1, e2, e3, e4, hx.blk]
  exact h1 _ _ hx'

def hexI (n : Int) : Int :=
  if digB n = true then IntKind.wrap .i64 (IntKind.wrap .u8 (n - 48))
  else if 97 ≤ n ∧ n ≤ 102 then IntKind.wrap .i64 (IntKind.wrap .i64 (IntKind.wrap .u8 (n - 97)) + 10)
  else if 65 ≤ n ∧ n ≤ 70 then IntKind.wrap .i64 (IntKind.wrap .i64 (IntKind.wrap .u8 (n - 65)) + 10) else -1

theorem hex_ok {n : Int} {h : AHeap} : ACalls Try.prog 45 [.int .u8 n] h fun r' h' => r' = .int .i64 (hexI n) ∧ h' = h := by
  refine acalls_of Try.func45 rfl (rd_ok hMix (κ := fun _ => false) δ0 _ rfl ?_)
  simp (maxSteps := 4000000) only [go_sem, reduceIte, reduceCtorEq, Nat.reduceAdd, Nat.reduceSub, Nat.reduceMul, Nat.reduceLeDiff, Nat.reduceLT, Nat.reduceEqDiff, Nat.reduceBEq, Try.ntmps45, Try.f45]
  refine callBy cb26 (c_digit ?_)
  simp (maxSteps := 4000000) only [go_sem, reduceIte, reduceCtorEq, Nat.reduceAdd, Nat.reduceSub, Nat.reduceMul, Nat.reduceLeDiff, Nat.reduceLT, Nat.reduceEqDiff, Nat.reduceBEq]
  unfold hexI
  refine ⟨fun e => by rw [if_pos e], fun e => ?_⟩
  rw [if_neg (by simp [e])]
  refine ⟨fun h1 => ⟨fun h2 => by rw [if_pos ⟨h1, h2⟩], fun h2 => ?_⟩, fun h1 => ?_⟩
  · rw [if_neg (fun e => h2 e.2)]
    refine ⟨fun h3 => ⟨fun h4 => by rw [if_pos ⟨h3, h4⟩], fun h4 => by rw [if_neg (fun e => h4 e.2)]⟩, fun h3 => by rw [if_neg (fun e => h3 e.1)]⟩
  · rw [if_neg (fun e => h1 e.1)]
    refine ⟨fun h3 => ⟨fun h4 => by rw [if_pos ⟨h3, h4⟩], fun h4 => by rw [if_neg (fun e => h4 e.2)]⟩, fun h3 => by rw [if_neg (fun e => h3 e.1)]⟩

theorem c_starts {c : Int} (h1 : ∀ v, S (.bool v) h) : ACalls Try.prog 23 [.int .u8 c] h S := by
  refine acalls_of Try.func23 rfl (rd_ok hMix (κ := fun _ => false) δ0 _ rfl ?_)
  simp (maxSteps := 4000000) only [go_sem, reduceIte, reduceCtorEq, Nat.reduceAdd, Nat.reduceSub, Nat.reduceMul, Nat.reduceLeDiff, Nat.reduceLT, Nat.reduceEqDiff, Nat.reduceBEq, Try.ntmps23, Try.f23]
  refine callBy cb25 (c_letter ?_)
  cases letB c <;> simp (maxSteps := 4000000) only [go_sem, reduceIte, reduceCtorEq, Nat.reduceAdd, Nat.reduceSub, Nat.reduceMul, Nat.reduceLeDiff, Nat.reduceLT, Nat.reduceEqDiff, Nat.reduceBEq]
  · refine callBy cb26 (c_digit ?_)
    cases digB c <;> simp (maxSteps := 4000000) only [go_sem, reduceIte, reduceCtorEq, Nat.reduceAdd, Nat.reduceSub, Nat.reduceMul, Nat.reduceLeDiff, Nat.reduceLT, Nat.reduceEqDiff, Nat.reduceBEq]
    · refine ⟨fun _ => h1 _, fun _ => ⟨fun _ => h1 _, fun _ => ⟨fun _ => h1 _, fun _ => ⟨fun _ => h1 _, fun _ => ?_⟩⟩⟩⟩
      refine AWp.loop_st [true, false, false, true, true, false, false, false, false, false, false, false, false, false, false, false, false, false, false, false, false, false, false, false, false, false, false, false, false, false, false, false, false, false, false, false, false, false] [] (fun i : Nat => ⟨[.int .u8 c, .any, .any, .str { data := #[60, 62, 61, 43, 45, 42, 37, 40, 41, 91, 93, 123, 125, 44, 58, 46] }, .int .i64 i, .any, .any, .any, .any, .any, .any, .any, .any, .any, .any, .any, .any, .any, .any, .any, .any, .any, .any, .any, .any, .any, .any, .any, .any, .any, .any, .any, .any, .any, .any, .any, .any, .any], []⟩) (fun _ => h) (fun i => i ≤ 16) (fun i => 16 - i) 0 ?_ ?_ rfl (by omega) ?_
      · simp (maxSteps := 4000000) only [go_sem, reduceIte, reduceCtorEq, Nat.reduceAdd, Nat.reduceSub, Nat.reduceMul, Nat.reduceLeDiff, Nat.reduceLT, Nat.reduceEqDiff, Nat.reduceBEq]
      · simp (maxSteps := 4000000) only [go_sem, reduceIte, reduceCtorEq, Nat.reduceAdd, Nat.reduceSub, Nat.reduceMul, Nat.reduceLeDiff, Nat.reduceLT, Nat.reduceEqDiff, Nat.reduceBEq]
        rfl
      intro i hi
      refine rd_ok hMix (κ := fun _ => false) δ0 _ rfl ?_
      simp (maxSteps := 4000000) only [go_sem, reduceIte, reduceCtorEq, Nat.reduceAdd, Nat.reduceSub, Nat.reduceMul, Nat.reduceLeDiff, Nat.reduceLT, Nat.reduceEqDiff, Nat.reduceBEq, ByteArray.size, List.size_toArray]
      refine ⟨fun hlt => ?_, fun _ => h1 _⟩
      have hw : IntKind.wrap .i64 ((i : Int) + 1) = ((i + 1 : Nat) : Int) := by rw [wrap64] <;> omega
      obtain ⟨d, hd⟩ := strIndex_some (s := { data := #[60, 62, 61, 43, 45, 42, 37, 40, 41, 91, 93, 123, 125, 44, 58, 46] }) (i := (i : Int)) (by omega) (by simpa [ByteArray.size] using hlt)
      simp (maxSteps := 4000000) only [go_sem, reduceIte, reduceCtorEq, Nat.reduceAdd, Nat.reduceSub, Nat.reduceMul, Nat.reduceLeDiff, Nat.reduceLT, Nat.reduceEqDiff, Nat.reduceBEq, hd]
      refine ⟨fun _ => h1 _, fun _ => ?_⟩
      simp (maxSteps := 4000000) only [go_sem, reduceIte, reduceCtorEq, Nat.reduceAdd, Nat.reduceSub, Nat.reduceMul, Nat.reduceLeDiff, Nat.reduceLT, Nat.reduceEqDiff, Nat.reduceBEq, hw]
      exact ⟨i + 1, rfl, by omega, by omega⟩
    · exact h1 _
  · exact h1 _

theorem c_bare {c : Int} (h1 : S (.agg [.int .i64 c, .bool false, .int .i64 0, .bool false, .str .empty]) h) : ACalls Try.prog 20 [.int .i64 c] h S := by
  refine acalls_of Try.func20 rfl (rd_ok hMix (κ := fun _ => false) δ0 _ rfl ?_)
  simp (maxSteps := 4000000) only [go_sem, reduceIte, reduceCtorEq, Nat.reduceAdd, Nat.reduceSub, Nat.reduceMul, Nat.reduceLeDiff, Nat.reduceLT, Nat.reduceEqDiff, Nat.reduceBEq, Try.ntmps20, Try.f20]
  exact h1

theorem none_ok {h : AHeap} : ACalls Try.prog 17 [] h fun r' h' => r' = .agg [.int .i64 0, .bool false, .int .i64 0, .bool false, .str .empty] ∧ h' = h := by
  refine acalls_of Try.func17 rfl (rd_ok hMix (κ := fun _ => false) δ0 _ rfl ?_)
  simp (maxSteps := 4000000) only [go_sem, reduceIte, reduceCtorEq, Nat.reduceAdd, Nat.reduceSub, Nat.reduceMul, Nat.reduceLeDiff, Nat.reduceLT, Nat.reduceEqDiff, Nat.reduceBEq, Try.ntmps17, Try.f17]

theorem c_placed {c d : Int} (h1 : ∀ b e, S (.agg [.int .i64 c, .bool b, .int .i64 e, .bool false, .str .empty]) h) : ACalls Try.prog 15 [.int .i64 c, .int .i64 d] h S := by
  refine acalls_of Try.func15 rfl (rd_ok hMix (κ := fun _ => false) δ0 _ rfl ?_)
  simp (maxSteps := 4000000) only [go_sem, reduceIte, reduceCtorEq, Nat.reduceAdd, Nat.reduceSub, Nat.reduceMul, Nat.reduceLeDiff, Nat.reduceLT, Nat.reduceEqDiff, Nat.reduceBEq, Try.ntmps15, Try.f15]
  refine ⟨fun hc => ?_, fun hc => ?_⟩
  · refine callBy cb17 (none_ok.mono ?_)
    rintro r h' ⟨rfl, rfl⟩
    simp (maxSteps := 4000000) only [go_sem, reduceIte, reduceCtorEq, Nat.reduceAdd, Nat.reduceSub, Nat.reduceMul, Nat.reduceLeDiff, Nat.reduceLT, Nat.reduceEqDiff, Nat.reduceBEq]
    have := h1 false 0
    rwa [hc] at this
  · exact h1 true d
end Go.Proofs.Ab5
end
