/-
  The abstract machine's operations that turn no state, and that the model's do what they say (the third part).
-/
import Derived.Deep.Upon
import Derived.Test.YtdgfmdjlhkjbaaaAa
set_option linter.all false
section
namespace Go.Ab

/-- A cut: from where, to where; 'none': not said. -/
def aSlice (sz : Nat) (x : AVal) (lo hi : Option Int) : Option AVal :=
  match x with
  | .str s =>
    if 0 ≤ lo.getD 0 ∧ lo.getD 0 ≤ hi.getD s.size ∧ hi.getD s.size ≤ s.size then some (.str (s.extract (lo.getD 0).toNat (hi.getD s.size).toNat)) else none
  | .list _ sz' xs =>
    if sz' = sz then
      (if 0 ≤ lo.getD 0 ∧ lo.getD 0 ≤ hi.getD xs.length ∧ hi.getD xs.length ≤ xs.length then
        some (.list none sz ((xs.take (hi.getD xs.length).toNat).drop (lo.getD 0).toNat)) else none)
    else none
  | .ref β off len sz' =>
    if sz' = sz then
      match lo with
      | none => if 0 ≤ hi.getD len ∧ hi.getD len ≤ len then some (.ref β off (hi.getD len).toNat sz) else none
      | some l => if 0 ≤ l ∧ l < hi.getD len ∧ hi.getD len ≤ len then some (.ref β (off + l.toNat * sz) ((hi.getD len).toNat - l.toNat) sz) else none
    else none
  | _ => none

def optInt (k : IntKind) : Option Int → Option Value
  | none => none
  | some i => some (.int k i)

theorem bounds_slice {P : Program} (w : World) (isSlice : Bool) (len cap : Nat) (kl kh : IntKind) (lo hi : Option Int) (hc : len ≤ cap) (h0 : 0 ≤ lo.getD 0) (h1 : lo.getD 0 ≤ hi.getD len) (h2 : hi.getD len ≤ len) :
    (Instr.sliceBounds isSlice len cap (optInt kl lo) (optInt kh hi) none).run P w = .ok ((lo.getD 0).toNat, (hi.getD len).toNat, cap) w := by
  cases lo with
  | none =>
    cases hi with
    | none => simp [Instr.sliceBounds, optInt]
    | some j =>
      simp at h1 h2
      have e : (j : Int) ≤ cap := by omega
      simp [Instr.sliceBounds, optInt, Instr.sliceBound, asIntOf, h1, e]
  | some l =>
    cases hi with
    | none =>
      simp at h0 h1
      simp [Instr.sliceBounds, optInt, Instr.sliceBound, asIntOf, h0, h1]
    | some j =>
      simp at h0 h1 h2
      have e : (j : Int) ≤ cap := by omega
      have e0 : 0 ≤ j := by omega
      have e1 : l ≤ (j.toNat : Int) := by omega
      simp [Instr.sliceBounds, optInt, Instr.sliceBound, asIntOf, h0, e0, e]
      omega

theorem slice_ok {P : Program} {t e : TypeId} {tis : TI} (hs : tiOf P t = some tis) {sz : Nat} (hk : tis.kind = .str ∨ (tis.kind = .slice e ∧ ∃ tie, tiOf P e = some tie ∧ tie.size = sz)) {G L} {c r : AVal} {u : Value} (kl kh : IntKind) {lo hi : Option Int} (hc : TR G L c u)
    (hx : KindOf c tis.kind)
    (h : aSlice sz c lo hi = some r) (w : World) : ∃ z, (Instr.sliceAt t u (optInt kl lo) (optInt kh hi) none).run P w = .ok z w ∧ VR G r z := by
  obtain ⟨i1, d1, a1, a2, a3, _⟩ := tiOf_some hs
  cases c <;> simp only [aSlice, reduceCtorEq] at h
  case str s =>
    have e := hc.str; subst e
    simp only [KindOf] at hx
    have hd : d1 = .string := by rw [hx] at a3; cases d1 <;> simp [tkOf] at a3; rfl
    subst hd
    split at h
    · rename_i hb; cases h
      have := bounds_slice (P := P) w false s.size s.size kl kh lo hi (Nat.le_refl _) hb.1 hb.2.1 hb.2.2
      exact ⟨_, by simp [Instr.sliceAt, run_underlying a2, Instr.slice, this], .str⟩
    · cases h
  case list ρ sz' xs =>
    obtain ⟨e', hx⟩ := hx
    rcases hk with hk | ⟨hk, tie, t1, t2⟩
    · rw [hk] at hx; cases hx
    have hd : d1 = .slice e := by rw [hk] at a3; cases d1 <;> simp [tkOf] at a3; rw [a3]
    subst hd
    obtain ⟨i2, d2, b1, b2, b3, b4, _⟩ := tiOf_some t1
    split at h
    · rename_i hsz'; subst hsz'
      split at h
      · rename_i hb; cases h
        have hc' := hc.plain rfl
        cases hc' with
        | @list _ _ _ b off cap vs hsz hone hcap hcl hv hρ =>
          have hbd := bounds_slice (P := P) w true xs.length cap kl kh lo hi hcap hb.1 hb.2.1 hb.2.2
          obtain ⟨l, hl⟩ : ∃ l : Nat, (lo.getD 0).toNat = l := ⟨_, rfl⟩
          obtain ⟨m, hm⟩ : ∃ m : Nat, (hi.getD xs.length).toNat = m := ⟨_, rfl⟩
          have hlm : l ≤ m := by omega
          have hmx : m ≤ xs.length := by omega
          rw [hl, hm] at hbd ⊢
          have hlen : ((xs.take m).drop l).length = m - l := by simp; omega
          have hmem : ∀ x ∈ (xs.take m).drop l, x ∈ xs := fun x hx => List.mem_of_mem_take (List.mem_of_mem_drop hx)
          have hsz2 : ∀ x ∈ (xs.take m).drop l, x.length = sz' := fun x hx => hsz x (hmem x hx)
          have hone2 : ∀ c ∈ ((xs.take m).drop l).flatten, c.one = true := fun c hc => by
            obtain ⟨x, q1, q2⟩ := List.mem_flatten.1 hc
            exact hone c (List.mem_flatten.2 ⟨x, hmem x q1, q2⟩)
          have hrun : (Instr.sliceAt t (.slice (some ⟨b, off, none⟩) xs.length cap) (optInt kl lo) (optInt kh hi) none).run P w =
              .ok (.slice (if cap = l then some ⟨b, off, none⟩ else some ⟨b, off + l * sz', none⟩) (m - l) (cap - l)) w := by
            simp [Instr.sliceAt, run_underlying a2, Instr.slice, hbd, sizeOf, typeInfo, b1, b4, t2, Addr.add_lit]
          refine ⟨_, hrun, ?_⟩
          by_cases hcl2 : cap = l
          · rw [if_pos hcl2]
            have hml : m = l := by omega
            have hnil : (xs.take m).drop l = [] := List.eq_nil_of_length_eq_zero (by omega)
            rw [hnil, show m - l = ([] : List (List AVal)).length by simp; omega]
            exact .list vs (by simp) (by simp) (by simp) (by simp) (by simp) (by simp)
          · rw [if_neg hcl2, ← hlen]
            refine .list (fun j => vs (l * sz' + j)) hsz2 hone2 (by omega) (fun j hj => ?_) (fun j c hj => ?_) (by simp)
            · rw [Nat.add_assoc]
              refine hcl _ ?_
              have h1 : (m - l) * sz' + l * sz' = m * sz' := by rw [← Nat.add_mul]; congr 1; omega
              have h2 : m * sz' ≤ xs.length * sz' := Nat.mul_le_mul_right _ hmx
              rw [hlen] at hj
              omega
            · refine hv _ _ ?_
              have hjl : j < ((xs.take m).drop l).flatten.length := (List.getElem?_eq_some_iff.1 hj).1
              rw [flatten_len hsz2] at hjl
              have e1 : (xs.take l).flatten.length = l * sz' := by rw [flatten_len (fun x hx => hsz x (List.mem_of_mem_take hx))]; congr 1; simp; omega
              have e2 : xs = xs.take l ++ ((xs.take m).drop l ++ xs.drop m) := by
                have e3 : xs.take m = xs.take l ++ (xs.take m).drop l := by
                  conv => lhs; rw [← List.take_append_drop l (xs.take m)]
                  rw [List.take_take, Nat.min_eq_left hlm]
                rw [← List.append_assoc, ← e3, List.take_append_drop]
              rw [e2, List.flatten_append, List.getElem?_append_right (by omega), e1, Nat.add_sub_cancel_left, List.flatten_append, List.getElem?_append_left (by rw [flatten_len hsz2]; exact hjl)]
              exact hj
      · cases h
    · cases h
  case ref β off len sz' =>
    obtain ⟨e', hx⟩ := hx
    rcases hk with hk | ⟨hk, tie, t1, t2⟩
    · rw [hk] at hx; cases hx
    have hd : d1 = .slice e := by rw [hk] at a3; cases d1 <;> simp [tkOf] at a3; rw [a3]
    subst hd
    obtain ⟨i2, d2, b1, b2, b3, b4, _⟩ := tiOf_some t1
    split at h
    · rename_i hsz'; subst hsz'
      have hc' := hc.plain rfl
      cases hc' with
      | @ref _ _ _ _ b base n cap hβ hlen hcap =>
        cases lo with
        | none =>
          simp only at h
          split at h
          · rename_i hb; cases h
            have hbd := bounds_slice (P := P) w true len cap kl kh none hi hlen (by simp) (by simpa using hb.1) hb.2
            refine ⟨.slice (some ⟨b, base + off, none⟩) (hi.getD len).toNat cap, ?_, .ref hβ (by omega) hcap⟩
            simp [Instr.sliceAt, run_underlying a2, Instr.slice, hbd, sizeOf, typeInfo, b1, b4, Addr.add_lit]
          · cases h
        | some l =>
          simp only at h
          split at h
          · rename_i hb; cases h
            have hbd := bounds_slice (P := P) w true len cap kl kh (some l) hi hlen (by simpa using hb.1) (by simp; omega) hb.2.2
            have hne : ¬ cap = l.toNat := by omega
            refine ⟨.slice (some ⟨b, base + (off + l.toNat * sz'), none⟩) ((hi.getD len).toNat - l.toNat) (cap - l.toNat), ?_, .ref hβ (by omega) ?_⟩
            · simp only [Option.getD_some] at hbd
              simp [Instr.sliceAt, run_underlying a2, Instr.slice, hbd, sizeOf, typeInfo, b1, b4, t2, Addr.add_lit, hne, Nat.add_assoc]
            · have h1 : (cap - l.toNat) * sz' + l.toNat * sz' = cap * sz' := by rw [← Nat.add_mul]; congr 1; omega
              omega
          · cases h
    · cases h

theorem strIndex_ok {P : Program} {t : TypeId} {tis : TI} (hs : tiOf P t = some tis) (hk : tis.kind = .str) {k : IntKind} {i : Int} {s : ByteArray} {r : AVal} (h : aStrIndex s i = some r) (w : World) (G : Ghost) :
    ∃ z, (Instr.index t (.string s) (.int k i)).run P w = .ok z w ∧ VR G r z := by
  obtain ⟨i1, d1, a1, a2, a3, _⟩ := tiOf_some hs
  have hd : d1 = .string := by rw [hk] at a3; cases d1 <;> simp [tkOf] at a3; rfl
  subst hd
  unfold aStrIndex at h
  split at h
  · rename_i h0
    cases hb : s.data[i.toNat]? with
    | none => rw [hb] at h; cases h
    | some b =>
      rw [hb] at h; cases h
      have hlt : i.toNat < s.data.size := (Array.getElem?_eq_some_iff.1 hb).1
      have hsb : s[i.toNat]? = some b := by
        have : s[i.toNat]? = s.data[i.toNat]? := by
          rw [Array.getElem?_eq_getElem hlt]
          rw [getElem?_pos s i.toNat (by exact hlt)]
          rfl
        rw [this, hb]
      exact ⟨.int .u8 b.toNat, by simp [Instr.index, asIntOf, run_underlying a2, h0, hsb], .int⟩
  · cases h

theorem len_ok {P : Program} {t ty : TypeId} {tis : TI} (hs : tiOf P t = some tis) {G L} {c : AVal} {u : Value} {n : Int} (hc : TR G L c u) (hk : KindOf c tis.kind) (h : aLen c = some n) (w : World) :
    (Builtin.len_ #[t] ty #[u]).run P w = .ok (.int .i64 n) w := by
  obtain ⟨i1, d1, a1, a2, a3, _⟩ := tiOf_some hs
  cases c <;> simp only [aLen, reduceCtorEq, Option.some.injEq] at h <;> subst h
  case str s =>
    have e := hc.str; subst e
    simp only [KindOf] at hk
    have hd : d1 = .string := by rw [hk] at a3; cases d1 <;> simp [tkOf] at a3; rfl
    subst hd
    simp [Builtin.len_, run_underlying a2, goInt]
  case nilSlice =>
    have e := hc.nilSlice; subst e
    obtain ⟨e, hk⟩ := hk
    have hd : d1 = .slice e := by rw [hk] at a3; cases d1 <;> simp [tkOf] at a3; rw [a3]
    subst hd
    simp [Builtin.len_, run_underlying a2, goInt]
  case list ρ sz xs =>
    obtain ⟨e, hk⟩ := hk
    have hd : d1 = .slice e := by rw [hk] at a3; cases d1 <;> simp [tkOf] at a3; rw [a3]
    subst hd
    have hc' := hc.plain rfl
    cases hc'
    simp [Builtin.len_, run_underlying a2, goInt]
  case ref β off len sz =>
    obtain ⟨e, hk⟩ := hk
    have hd : d1 = .slice e := by rw [hk] at a3; cases d1 <;> simp [tkOf] at a3; rw [a3]
    subst hd
    have hc' := hc.plain rfl
    cases hc'
    simp [Builtin.len_, run_underlying a2, goInt]

/-- A part of a struct. -/
def aFieldOf (fs : List (Nat × TypeId)) (f : Nat) : Option (Nat × TypeId) := fs[f]?

def aFieldAddr (off : Nat) (x : AVal) : Option AVal :=
  match x with
  | .pin cs => some (.pin (cs.drop off))
  | .ptr β o => some (.ptr β (o + off))
  | .loc k o => some (.loc k (o + off))
  | _ => none

theorem struct_field {P : Program} {t ft : TypeId} {tis tif : TI} {fs : List (Nat × TypeId)} {f off : Nat} (hs : tiOf P t = some tis) (hk : tis.kind = .struct fs) (hf : fs[f]? = some (off, ft)) (hft : tiOf P ft = some tif) :
    ∃ fields : Array Field, P.underlying t = some (.struct fields) ∧ ∃ fd, fields[f]? = some fd ∧ fd.offset = off ∧ fd.type = ft ∧ ∃ i, P.info? ft = some i ∧ i.size = tif.size := by
  obtain ⟨i1, d1, a1, a2, a3, _⟩ := tiOf_some hs
  obtain ⟨i2, d2, b1, b2, b3, b4, _⟩ := tiOf_some hft
  rw [hk] at a3
  cases d1 <;> simp only [tkOf, reduceCtorEq, TK.struct.injEq] at a3
  rename_i fields
  subst a3
  simp only [List.getElem?_map, Array.getElem?_toList] at hf
  cases hfd : fields[f]? with
  | none => rw [hfd] at hf; cases hf
  | some fd =>
    rw [hfd] at hf; simp at hf
    exact ⟨fields, a2, fd, hfd, hf.1, hf.2, i2, b1, b4⟩

theorem fieldAddr_ok {P : Program} {t ft : TypeId} {tis tif : TI} {fs : List (Nat × TypeId)} {f off : Nat} (hs : tiOf P t = some tis) (hk : tis.kind = .struct fs) (hf : fs[f]? = some (off, ft)) (hft : tiOf P ft = some tif) (hsz : tif.size ≠ 0)
    {G L} {c r : AVal} {u : Value} (hc : TR G L c u) (h : aFieldAddr off c = some r) (w : World) : ∃ z, (Instr.fieldAt t u f).run P w = .ok z w ∧ TR G L r z := by
  obtain ⟨fields, h1, fd, h2, h3, h4, i, h5, h6⟩ := struct_field hs hk hf hft
  have hrun : ∀ b o, (Instr.fieldAt t (.pointer (some ⟨b, o, none⟩)) f).run P w = .ok (.pointer (some ⟨b, o + off, none⟩)) w := fun b o => by
    have : ¬ i.size = 0 := by rw [h6]; exact hsz
    subst h4
    simp [Instr.fieldAt, run_underlying h1, h2, Instr.sureAddr, fieldPlace, sizeOf, typeInfo, h5, this, Addr.add_lit, h3]
  cases c <;> simp only [aFieldAddr, reduceCtorEq, Option.some.injEq] at h <;> subst h
  case ptr β o =>
    have hc' := hc.plain rfl
    cases hc' with
    | ptr hβ => exact ⟨_, hrun _ _, .inl (by rw [Nat.add_assoc]; exact .ptr hβ)⟩
  case pin cs =>
    have hc' := hc.plain rfl
    cases hc' with
    | pin vs hone hcl hv =>
      refine ⟨_, hrun _ _, .inl (.pin (fun j => vs (off + j)) (fun c hc => hone c (List.mem_of_mem_drop hc)) (fun j hj => ?_) (fun j c hj => ?_))⟩
      · rw [Nat.add_assoc]; exact hcl _ (by simp at hj; omega)
      · rw [List.getElem?_drop] at hj; exact hv _ _ hj
  case loc k o =>
    obtain ⟨b, q1, rfl⟩ := hc.locInv
    exact ⟨_, hrun _ _, .inr ⟨k, _, b, rfl, q1, rfl⟩⟩

theorem field_ok {P : Program} {t ft : TypeId} {tis tif : TI} {fs : List (Nat × TypeId)} {f off : Nat} (hs : tiOf P t = some tis) (hk : tis.kind = .struct fs) (hf : fs[f]? = some (off, ft)) (hft : tiOf P ft = some tif)
    {G L} {cs : List AVal} {r : AVal} {u : Value} (hc : TR G L (.agg cs) u) (hoff : off + tif.size ≤ cs.length) (h : aOfCells tif (cs.drop off) = some r) (w : World) : ∃ z, (Instr.field t u f).run P w = .ok z w ∧ VR G r z := by
  obtain ⟨fields, h1, fd, h2, h3, h4, i, h5, h6⟩ := struct_field hs hk hf hft
  obtain ⟨i2, d2, b1, b2, b3, b4, _⟩ := tiOf_some hft
  have hc' := hc.plain rfl
  cases hc' with
  | agg vs hone hlen hv =>
    have hagg := run_isAgg b2 w
    rw [b3] at hagg
    unfold aOfCells at h
    split at h
    · rename_i hka
      split at h
      · cases h
        refine ⟨.agg (vs.toArray.extract off (off + tif.size)), ?_, ?_⟩
        · rw [hka] at hagg
          subst h4 h3
          simp [Instr.field, run_underlying h1, h2, asAgg, part, hagg, sizeOf, typeInfo, h5, h6]
        · have e : vs.toArray.extract off (off + tif.size) = ((vs.drop off).take tif.size).toArray := by
            apply Array.ext'
            simp [List.extract_eq_take_drop]
          rw [e]
          refine .agg _ (fun c hc => hone c (List.mem_of_mem_drop (List.mem_of_mem_take hc))) (by simp [hlen]) (fun j c v e1 e2 => ?_)
          rw [List.getElem?_take] at e1 e2
          split at e1
          · rename_i hj
            rw [if_pos hj, List.getElem?_drop] at e2
            rw [List.getElem?_drop] at e1
            exact hv _ _ _ e1 e2
          · cases e1
      · cases h
    · rename_i hka
      rw [List.head?_eq_getElem?, List.getElem?_drop] at h
      obtain ⟨v, e1, e2⟩ := VRL.get (vs := vs) ⟨hlen, hv⟩ h
      have hka' : tif.kind.agg = false := by simpa using hka
      rw [hka'] at hagg
      refine ⟨v, ?_, e2⟩
      simp only [Nat.add_zero] at e1
      subst h4 h3
      simp [Instr.field, run_underlying h1, h2, asAgg, part, hagg, e1]

end Go.Ab
end
/- The abstract machine's operations that make or write memory, and that the model's do what they say. -/
section
namespace Go.Ab

def splice (cs : List AVal) (off : Nat) (ds : List AVal) : List AVal := cs.take off ++ ds ++ cs.drop (off + ds.length)

/-- A struct's or an array's cells, filled part by part. -/
def aFill (place : Nat → Option (Nat × Nat)) (cells : List AVal) : List (Nat × AVal) → Option (List AVal)
  | [] => some cells
  | (i, v) :: rest =>
    match place i, v.cells with
    | some (off, size), some vs => if vs.length = size ∧ off + size ≤ cells.length then aFill place (splice cells off vs) rest else none
    | _, _ => none

theorem fold_set (off : Nat) : ∀ (vs : List Value) (cs : Array Value) (k : Nat), off + k + vs.length ≤ cs.size →
    ((vs.zipIdx k).foldl (fun cs (c, j) => cs.setIfInBounds (off + j) c) cs).toList = cs.toList.take (off + k) ++ vs ++ cs.toList.drop (off + k + vs.length) := by
  intro vs
  induction vs with
  | nil => intro cs k h; simp
  | cons v vs ih =>
    intro cs k h
    simp only [List.length_cons] at h
    simp only [List.zipIdx_cons, List.foldl_cons]
    rw [ih _ (k + 1) (by simp; omega)]
    simp only [Array.toList_setIfInBounds, List.length_cons]
    have e1 : (cs.toList.set (off + k) v).take (off + (k + 1)) = cs.toList.take (off + k) ++ [v] := by
      rw [show off + (k + 1) = off + k + 1 by omega, List.take_succ_eq_append_getElem (by simp; omega)]
      rw [List.take_set_of_le (Nat.le_refl _)]
      simp
    have e2 : (cs.toList.set (off + k) v).drop (off + (k + 1) + vs.length) = cs.toList.drop (off + k + (vs.length + 1)) := by
      rw [List.drop_set_of_lt (by omega)]
      congr 1; omega
    rw [e1, e2]
    simp

theorem splice_rel {G cs vs ds us off} (h : VRL G cs vs) (k : VRL G ds us) (_ho : off + ds.length ≤ cs.length) : VRL G (splice cs off ds) (vs.take off ++ us ++ vs.drop (off + us.length)) := by
  have take : VRL G (cs.take off) (vs.take off) := ⟨by simp [h.1], fun j c v e1 e2 => by
    rw [List.getElem?_take] at e1 e2
    split at e1
    · rename_i hj; rw [if_pos hj] at e2; exact h.2 j c v e1 e2
    · cases e1⟩
  have drop : VRL G (cs.drop (off + ds.length)) (vs.drop (off + us.length)) := ⟨by simp [h.1, k.1], fun j c v e1 e2 => by
    rw [List.getElem?_drop] at e1 e2
    rw [← k.1] at e2
    exact h.2 _ c v e1 e2⟩
  exact (take.append k).append drop

theorem fill_ok {G : Ghost} {place : Nat → Option (Nat × Nat)} : ∀ (parts : List (Nat × AVal)) (vals : List (Nat × Value)) (cells : List AVal) (vcells : Array Value) (out : List AVal),
    parts.length = vals.length → (∀ (j : Nat) p q, parts[j]? = some p → vals[j]? = some q → p.1 = q.1 ∧ VR G p.2 q.2) → VRL G cells vcells.toList → (∀ c ∈ cells, c.one = true) →
    aFill place cells parts = some out → ∃ vout, Instr.fill place vcells vals = some vout ∧ VRL G out vout.toList ∧ (∀ c ∈ out, c.one = true) ∧ out.length = cells.length := by
  intro parts
  induction parts with
  | nil =>
    intro vals cells vcells out hl _ hc hone h
    cases vals with
    | nil => simp [aFill] at h; subst h; exact ⟨vcells, rfl, hc, hone, rfl⟩
    | cons _ _ => simp at hl
  | cons p parts ih =>
    intro vals cells vcells out hl hpv hc hone h
    cases vals with
    | nil => simp at hl
    | cons q vals =>
      obtain ⟨i, c⟩ := p
      obtain ⟨i', v⟩ := q
      obtain ⟨e, hv⟩ := hpv 0 _ _ rfl rfl
      simp only at e hv
      subst e
      simp only [aFill] at h
      cases hp : place i with
      | none => rw [hp] at h; cases h
      | some os =>
        obtain ⟨off, size⟩ := os
        rw [hp] at h
        cases hcs : c.cells with
        | none => rw [hcs] at h; cases h
        | some ds =>
          rw [hcs] at h
          simp only at h
          split at h
          · rename_i hb
            obtain ⟨k1, k2, k3⟩ := cells_ok hv hcs
            have hvl : v.cells.size = size := by have := k1.1; simp at this; omega
            have hcl : cells.length = vcells.size := by have := hc.1; simpa using this
            have hfold := fold_set off v.cells.toList vcells 0 (by simp; omega)
            simp only [Nat.add_zero, Array.length_toList] at hfold
            have hnew : VRL G (splice cells off ds) ((v.cells.zipIdx.foldl (fun cs (c, j) => cs.setIfInBounds (off + j) c) vcells).toList) := by
              rw [← Array.foldl_toList, Array.toList_zipIdx, hfold]
              have := splice_rel hc k1 (off := off) (by omega)
              simpa using this
            obtain ⟨vout, r1, r2, r3, r4⟩ := ih vals (splice cells off ds) _ out (by simpa using hl) (fun j p q h1 h2 => hpv (j + 1) p q (by simpa using h1) (by simpa using h2)) hnew (fun d hd => by
              unfold splice at hd
              simp only [List.mem_append] at hd
              rcases hd with (hd | hd) | hd
              · exact hone d (List.mem_of_mem_take hd)
              · exact k2 d hd
              · exact hone d (List.mem_of_mem_drop hd)) h
            refine ⟨vout, ?_, r2, r3, by rw [r4]; unfold splice; simp; omega⟩
            simp only [Instr.fill, hp]
            rw [if_neg (by simp; omega)]
            exact r1
          · cases h

/-- Whether all are values of one cell. -/
def allOne (cs : List AVal) : Bool := cs.all AVal.one

def aPlaces (P : Program) (ti : TI) : Nat → Option (Nat × Nat) := fun i =>
  match ti.kind with
  | .struct fs => match fs[i]? with
    | some (off, ft) => (tiOf P ft).map fun x => (off, x.size)
    | none => none
  | .array _ e => (tiOf P e).map fun x => (i * x.size, x.size)
  | _ => none

/-- Part by part, the values at the operands. -/
def vals (ev : Operand → AVal) (parts : List (Nat × Operand)) : List (Nat × AVal) := parts.map fun (i, x) => (i, ev x)

theorem zero_rel (G : Ghost) (z : Value) : VRL G (z.cells.toList.map aOfValue) z.cells.toList :=
  ⟨by simp, fun j c v h1 h2 => by
    simp only [List.getElem?_map, h2, Option.map_some, Option.some.injEq] at h1
    subst h1; exact aOfValue_ok G v⟩

/-- Whether a type's parts are all known. -/
def fieldsKnown (P : Program) : List (Nat × TypeId) → Bool
  | [] => true
  | (_, t) :: fs => (tiOf P t).isSome && fieldsKnown P fs

theorem run_sizeOf {P : Program} {t : TypeId} {i : TypeInfo} (h : P.info? t = some i) (w : World) : (sizeOf t).run P w = .ok i.size w := by simp [sizeOf, typeInfo, h]

theorem fields_mapM {P : Program} (w : World) : ∀ fs : List Field, fieldsKnown P (fs.map fun f => (f.offset, f.type)) = true →
    (fs.mapM fun f => (do pure (f.offset, ← sizeOf f.type) : Sem (Nat × Nat))).run P w = .ok (fs.map fun f => (f.offset, P.cellsOf f.type)) w
  | [], _ => by simp
  | f :: fs, h => by
    simp only [List.map_cons, fieldsKnown, Bool.and_eq_true] at h
    obtain ⟨h1, h2⟩ := h
    obtain ⟨ti, hti⟩ := Option.isSome_iff_exists.1 h1
    obtain ⟨i, d, a1, a2, a3, a4, _⟩ := tiOf_some hti
    have := fields_mapM w fs h2
    have e : P.cellsOf f.type = i.size := by simp [Program.cellsOf, a1]
    simp only [List.mapM_cons, Sem.run_bind, run_sizeOf a1, Result.andThen_ok, Sem.run_pure] at this ⊢
    rw [this]
    simp [e]

theorem build_ok {P : Program} {t : TypeId} {ti : TI} (hti : tiOf P t = some ti) {zs : List AVal} (hz : ti.zero = some zs) (hone : allOne zs = true)
    (hkind : (match ti.kind with | .struct fs => fieldsKnown P fs = true | .array _ e => (tiOf P e).isSome = true | _ => False))
    {G} {parts : List (Nat × AVal)} {vs : List (Nat × Value)} (hl : parts.length = vs.length) (hpv : ∀ (j : Nat) p q, parts[j]? = some p → vs[j]? = some q → p.1 = q.1 ∧ VR G p.2 q.2)
    {out : List AVal} (h : aFill (aPlaces P ti) zs parts = some out) (w : World) : ∃ z, (Instr.build t vs.toArray).run P w = .ok z w ∧ VR G (.agg out) z := by
  obtain ⟨i, d, a1, a2, a3, a4, a5, a6⟩ := tiOf_some hti
  rw [hz] at a6
  cases hiz : i.zero with
  | none => rw [hiz] at a6; cases a6
  | some z =>
    rw [hiz] at a6; simp at a6; subst a6
    have hone' : ∀ c ∈ z.cells.toList.map aOfValue, c.one = true := fun c hc => List.all_eq_true.1 hone c hc
    obtain ⟨vout, r1, r2, r3, r4⟩ := fill_ok (G := G) (place := aPlaces P ti) parts vs _ z.cells out hl hpv (zero_rel G z) hone' h
    have hv : VR G (.agg out) (.agg vout) := by
      have := VR.agg (G := G) (cs := out) vout.toList r3 r2.1 r2.2
      simpa using this
    refine ⟨_, ?_, hv⟩
    have hzero : (zeroValue t).run P w = .ok z w := by simp [zeroValue, typeInfo, a1, hiz]
    cases hk : ti.kind <;> rw [hk] at hkind a3 <;> simp only at hkind
    case struct fs =>
      cases d <;> simp only [tkOf, reduceCtorEq, TK.struct.injEq] at a3
      rename_i fields
      have hmap := fields_mapM (P := P) w fields.toList (by rw [← a3] at hkind; exact hkind)
      have hmap' : (fields.mapM fun f => (do pure (f.offset, ← sizeOf f.type) : Sem (Nat × Nat))).run P w = .ok (fields.toList.map fun f => (f.offset, P.cellsOf f.type)).toArray w := by
        rw [Array.mapM_eq_mapM_toList, Sem.run_map, hmap]
        rfl
      have hpl : (fun i => (fields.toList.map fun f => (f.offset, P.cellsOf f.type)).toArray[i]?) = aPlaces P ti := by
        funext j
        simp only [aPlaces, hk, ← a3, List.getElem?_toArray, List.getElem?_map]
        cases hf : fields.toList[j]? with
        | none => rfl
        | some f =>
          simp only [Option.map_some]
          have : (tiOf P f.type).isSome = true := by
            rw [← a3] at hkind
            clear hmap hmap' h r1 r2 r3 r4 hv a2 hk
            revert hkind hf
            generalize fields.toList = l
            intro hkind hf
            induction l generalizing j with
            | nil => simp at hf
            | cons g l ih =>
              simp only [List.map_cons, fieldsKnown, Bool.and_eq_true] at hkind
              cases j with
              | zero => simp at hf; subst hf; exact hkind.1
              | succ j => simp at hf; exact ih j hkind.2 hf
          obtain ⟨ti', hti'⟩ := Option.isSome_iff_exists.1 this
          obtain ⟨i', d', b1, b2, b3, b4, _⟩ := tiOf_some hti'
          simp [hti', Program.cellsOf, b1, b4]
      rw [← hpl] at r1
      simp only [Instr.build, Sem.run_bind, hzero, Result.andThen_ok, run_underlying a2, hmap']
      rw [r1]
      simp
    case array n e =>
      cases d <;> simp only [tkOf, reduceCtorEq, TK.array.injEq] at a3
      rename_i n' e'
      obtain ⟨rfl, rfl⟩ := a3
      obtain ⟨ti', hti'⟩ := Option.isSome_iff_exists.1 hkind
      obtain ⟨i', d', b1, b2, b3, b4, _⟩ := tiOf_some hti'
      have hpl : (fun i => some (i * i'.size, i'.size)) = aPlaces P ti := by
        funext j
        simp [aPlaces, hk, hti', b4]
      rw [← hpl] at r1
      simp only [Instr.build, Sem.run_bind, hzero, Result.andThen_ok, run_underlying a2, run_sizeOf b1]
      rw [r1]
      simp

end Go.Ab
end
/- The abstract machine's operations that make or write memory, and that the model's do what they say (the second part). -/
section
namespace Go.Ab

theorem Inv.killRow {G h w} (i : Inv G h w) (ρ : Nat) : Inv G { h with live := upd h.live ρ false } w :=
  ⟨i.claims, i.blks, fun σ hσ => i.rows σ (by
    by_cases e : σ = ρ
    · subst e; simp [upd_same] at hσ
    · simpa [upd_ne _ _ e] using hσ), i.supply, i.owned⟩
theorem Inv.killBlk {G h w} (i : Inv G h w) (β : Nat) : Inv G { h with blk := upd h.blk β none } w :=
  ⟨i.claims, fun γ cs hγ => i.blks γ cs (by
    by_cases e : γ = β
    · subst e; simp [upd_same] at hγ
    · simpa [upd_ne _ _ e] using hγ), i.rows, i.supply, i.owned⟩

/-- The elements that an append adds. -/
def aNews (sz : Nat) : AVal → Option (List (List AVal))
  | .nilSlice => some []
  | .list _ sz' ys => if sz' = sz then some ys else none
  | .str s => if sz = 1 then some (s.data.toList.map fun b => [.int .u8 b.toNat]) else none
  | _ => none

theorem news_ok {P : Program} {tx : TypeId} {tis : TI} (hs : tiOf P tx = some tis) {sz : Nat} {G h w aa a L} (i : Inv G h w) (_r : ActRel G L w aa a) {c : AVal} {u : Value} (hc : TR G L c u)
    (hk : KindOf c tis.kind) {ys : List (List AVal)} (h : aNews sz c = some ys) :
    ∃ news : List Value, Src P sz tx u ys.length news w ∧ VRL G ys.flatten news ∧ (∀ y ∈ ys, y.length = sz) ∧ (∀ d ∈ ys.flatten, d.one = true) := by
  obtain ⟨i1, d1, a1, a2, a3, _⟩ := tiOf_some hs
  cases c <;> simp only [aNews, reduceCtorEq, Option.some.injEq] at h
  case nilSlice =>
    subst h
    have e := hc.nilSlice; subst e
    obtain ⟨e, hk⟩ := hk
    have hd : d1 = .slice e := by rw [hk] at a3; cases d1 <;> simp [tkOf] at a3; rw [a3]
    subst hd
    exact ⟨[], Src.ofNil w a2 0, VRL.nil, by simp, by simp⟩
  case list ρ sz' xs =>
    split at h
    · rename_i hsz; subst hsz; cases h
      obtain ⟨e, hk⟩ := hk
      have hd : d1 = .slice e := by rw [hk] at a3; cases d1 <;> simp [tkOf] at a3; rw [a3]
      subst hd
      have hc' := hc.plain rfl
      cases hc' with
      | @list _ _ _ b off cap vs hsz hone hcap hcl hv hρ =>
        have hl := flatten_len hsz
        have hrel : VRL G ys.flatten ((List.range (ys.length * sz')).map vs) := ⟨by simp [hl], fun j d v h1 h2 => by
          simp only [List.getElem?_map] at h2
          cases hr : (List.range (ys.length * sz'))[j]? with
          | none => rw [hr] at h2; cases h2
          | some q =>
            rw [hr] at h2
            simp at h2; subst h2
            obtain ⟨hq, rfl⟩ := List.getElem?_eq_some_iff.1 hr
            simp only [List.getElem_range]
            exact hv j d h1⟩
        refine ⟨_, Src.ofSlice w a2 ⟨b, off, none⟩ ys.length cap _ (by simp) (fun j u hu => ?_) (fun u hu => ?_), hrel, hsz, hone⟩
        · simp only [List.getElem?_map] at hu
          cases hr : (List.range (ys.length * sz'))[j]? with
          | none => rw [hr] at hu; cases hu
          | some q =>
            rw [hr] at hu
            simp at hu; subst hu
            obtain ⟨hq, rfl⟩ := List.getElem?_eq_some_iff.1 hr
            simp only [List.getElem_range]
            rw [Addr.add_lit]
            exact i.claims _ _ _ (hcl j (by simpa using hq))
        · obtain ⟨j, hj, rfl⟩ := List.mem_iff_getElem.1 hu
          have hj' : j < ys.flatten.length := by rw [hrel.1]; exact hj
          exact one_oneCell (hrel.2 j _ _ (List.getElem?_eq_getElem hj') (List.getElem?_eq_getElem hj)) (hone _ (List.getElem_mem hj'))
    · cases h
  case str s =>
    split at h
    · rename_i hsz; subst hsz; cases h
      have e := hc.str; subst e
      simp only [KindOf] at hk
      have hd : d1 = .string := by rw [hk] at a3; cases d1 <;> simp [tkOf] at a3; rfl
      subst hd
      have hfl : (s.data.toList.map fun b => [AVal.int .u8 b.toNat]).flatten = s.data.toList.map fun b => AVal.int .u8 b.toNat := by
        generalize s.data.toList = l
        induction l with
        | nil => rfl
        | cons b l ih => simp [ih]
      have hsl : (s.data.toList.map fun b => [AVal.int .u8 b.toNat]).length = s.size := by simp
      rw [hsl, hfl]
      refine ⟨byteCells s, Src.ofString w a2 s, ⟨by simp [byteCells], fun j d v h1 h2 => ?_⟩, by simp, by simp [AVal.one]⟩
      simp only [byteCells, List.getElem?_map] at h1 h2
      cases hj : s.data.toList[j]? with
      | none => rw [hj] at h1; cases h1
      | some b => rw [hj] at h1 h2; cases h1; cases h2; exact .int
    · cases h

/-- The size of what is appended is not beyond bounds. -/
def aFits (need bytes : Nat) : Bool := decide (need ≤ 4294967296 ∧ bytes ≤ 4096)

def aAppend (te : TI) (heapy : Bool) (h : AHeap) (n : Nat) (x : AVal) (ys : List (List AVal)) : Option (AVal × AHeap) :=
  match x with
  | .nilSlice =>
    match ys with
    | [] => some (.nilSlice, h)
    | y :: ys =>
      if aFits (y :: ys).length te.bytes then
        (if heapy then some (.ref n 0 (y :: ys).length te.size, { h with blk := upd h.blk n (some (y :: ys).flatten) })
         else some (.list (some n) te.size (y :: ys), { h with live := upd h.live n true }))
      else none
  | .list (some ρ) sz xs =>
    if sz = te.size ∧ h.live ρ = true ∧ aFits (xs.length + ys.length) te.bytes = true then
      some (.list (some n) te.size (xs ++ ys), { h with live := upd (upd h.live ρ false) n true })
    else none
  | .ref β off len sz =>
    match h.blk β with
    | some cs =>
      if sz = te.size ∧ off + len * te.size ≤ cs.length ∧ aFits (len + ys.length) te.bytes = true then
        some (.ref n 0 (len + ys.length) te.size, { h with blk := upd (upd h.blk β none) n (some ((cs.drop off).take (len * te.size) ++ ys.flatten)) })
      else none
    | none => none
  | _ => none

section
variable {w w' : World} {b o : Nat} {new : List Value} {vs us : Array Value} {T : TypeId} {fr : Nat × Nat}
/-- An append to a block that found room: the block goes on under another number. -/
theorem grow_blk {G L h aa a} (i : Inv G h w) (r : ActRel G L w aa a) {β n base off len sz cap nn : Nat} {cs ds : List AVal} (hb : G.blk n = none) (hr : G.row n = none)
    (hβ : G.blk β = some (b, base, nn)) (hcs : h.blk β = some cs) (hoff : off + len * sz ≤ cs.length) (hcap : base + off + cap * sz ≤ nn) (hroom : len * sz + ds.length ≤ cap * sz)
    (p : Wrote w w' b (base + off + len * sz) new vs us T fr) (hd : VRL G ds new) (hone : ∀ c ∈ ds, c.one = true) :
    ∃ G', Ext G L w G' L w' ∧ Inv G' { h with blk := upd (upd h.blk β none) n (some ((cs.drop off).take (len * sz) ++ ds)) } w' ∧ ActRel G' L w' aa a ∧ G'.blk n = some (b, base + off, nn) := by
  obtain ⟨b', base', vs', T', fr', h1, h2, h3, h4, h5, h6, h7, h8⟩ := i.blks β cs hcs
  rw [hβ] at h1; cases h1
  rw [p.was] at h3; cases h3
  have hlt := lt_of_block p.was
  have hnβ : n ≠ β := fun e => by subst e; rw [hβ] at hb; cases hb
  let G' : Ghost := { G with blk := upd G.blk n (some (b, base + off, vs.size)), own := upd G.own b (some (.blk n)) }
  have hle : G.Le G' := ⟨fun _ _ _ h => h, fun γ x hx => by simp only [G']; rw [upd_ne _ _ (fun e => by subst e; rw [hb] at hx; cases hx)]; exact hx, fun _ _ h => h⟩
  have hloc : ∀ k, L k ≠ some b := fun k hk => by
    obtain ⟨cs', hcs'⟩ := r.locs.dom k b hk
    obtain ⟨b', us, T', k1, k2, _⟩ := r.locs.cells k cs' hcs'
    rw [hk] at k1; cases k1; rw [h2] at k2; cases k2
  have hnl : new.length = ds.length := hd.1.symm
  have hl : ((cs.drop off).take (len * sz)).length = len * sz := by simp; omega
  refine ⟨G', ?_, ?_, ?_, by simp [G', upd_same]⟩
  · refine ⟨hle, fun k _ hk => .inl ⟨k, hk⟩, by rw [p.size]; exact Nat.le_refl _, fun b' _ ho _ => ?_, p.os, p.tape, p.output⟩
    have hne : b' ≠ b := fun e => by subst e; rw [h2] at ho; cases ho
    exact ⟨by simp only [G']; rw [upd_ne _ _ hne]; exact ho, p.other b' hne, fun _ => rfl⟩
  · refine ⟨fun b' o' v hc => Wrote.claims i p (fun j _ => h8 j) b' o' v hc, fun γ es hγ => ?_, fun ρ hρ => ?_, ?_, fun b' x hx => ?_⟩
    · by_cases e : γ = n
      · subst e
        simp only [upd_same] at hγ; cases hγ
        refine ⟨b, base + off, us, T, fr, by simp [G', upd_same, p.len], by simp [G', upd_same], p.now, fun o ho => by rw [p.frozen]; exact h4 o (by rw [← p.len]; exact ho), ?_, fun j c hj => ?_, fun c hc => ?_, h8⟩
        · rw [p.len, List.length_append, hl]; omega
        · by_cases j1 : j < len * sz
          · rw [List.getElem?_append_left (by omega), List.getElem?_take_of_lt j1, List.getElem?_drop] at hj
            obtain ⟨v, e1, e2⟩ := h6 _ c hj
            exact ⟨v, by rw [p.outside _ (.inl (by omega)), Nat.add_assoc]; exact e1, e2.le hle⟩
          · rw [List.getElem?_append_right (by omega), hl] at hj
            have hjl : j - len * sz < ds.length := (List.getElem?_eq_some_iff.1 hj).1
            obtain ⟨v, e1, e2⟩ := hd.get hj
            exact ⟨v, by rw [p.inside _ (by omega) (by omega) (by omega), show base + off + j - (base + off + len * sz) = j - len * sz by omega]; exact e1, e2.le hle⟩
        · rcases List.mem_append.1 hc with hc | hc
          · exact h7 c (List.mem_of_mem_drop (List.mem_of_mem_take hc))
          · exact hone c hc
      · simp only [upd_ne _ _ e] at hγ
        have e2 : γ ≠ β := fun e' => by subst e'; simp [upd_same] at hγ
        rw [upd_ne _ _ e2] at hγ
        obtain ⟨b', base', vs', T', fr', k1, k2, k3, k4, k5, k6, k7, k8⟩ := i.blks γ es hγ
        have hne : b' ≠ b := fun e' => by subst e'; rw [h2] at k2; cases k2; exact e2 rfl
        refine ⟨b', base', vs', T', fr', ?_, ?_, by rw [p.other b' hne]; exact k3, fun o ho => by rw [p.frozen]; exact k4 o ho, k5, fun j c hj => ?_, k7, k8⟩
        · simp only [G']; rw [upd_ne _ _ e]; exact k1
        · simp only [G']; rw [upd_ne _ _ hne]; exact k2
        · obtain ⟨v, e1, e2⟩ := k6 j c hj; exact ⟨v, e1, e2.le hle⟩
    · obtain ⟨q, vs', T', fr', k1, k2, k3, k4, k5⟩ := i.rows ρ hρ
      have hne : q.b ≠ b := fun e' => by rw [e', h2] at k2; cases k2
      refine ⟨q, vs', T', fr', k1, ?_, by rw [p.other q.b hne]; exact k3, fun o ho => by rw [p.frozen]; exact k4 o ho, k5⟩
      simp only [G']; rw [upd_ne _ _ hne]; exact k2
    · obtain ⟨m, hm⟩ := i.supply
      refine ⟨max m (n + 1), fun ρ hρ => ⟨?_, (hm ρ (by omega)).2⟩⟩
      simp only [G']; rw [upd_ne _ _ (by omega)]; exact (hm ρ (by omega)).1
    · simp only [G', upd] at hx
      split at hx
      · rename_i e; rw [p.size, e]; exact hlt
      · rw [p.size]; exact i.owned b' x hx
  · refine ⟨r.defers, r.size, fun j c v h1 h2 => (r.tmps j c v h1 h2).le hle, fun k cs' hk => ?_, r.locs.dom, r.locs.inj⟩
    obtain ⟨b', us, T', k1, k2, k3, k4, k5, k6⟩ := r.locs.cells k cs' hk
    have hne : b' ≠ b := fun e' => by subst e'; exact hloc k k1
    refine ⟨b', us, T', k1, ?_, k3, by rw [p.other b' hne]; exact k4, k5.le hle, k6⟩
    simp only [G']; rw [upd_ne _ _ hne]; exact k2
end

theorem fits_next {need old bytes : Nat} (h : old < need) (hf : aFits need bytes = true) : ((need : Nat) : Int) ≤ 9223372036854775807 ∧ Builtin.nextslicecap need old * bytes ≤ 281474976710656 := by
  unfold aFits at hf
  simp at hf
  have h1 := nextslicecap_le h
  have h2 : Builtin.nextslicecap need old * bytes ≤ (2 * need) * 4096 := Nat.mul_le_mul h1 hf.2
  omega

/-- What the operation does to the model's state, and what holds behind it. -/
def Done (P : Program) (G : Ghost) (L : LMap) (w : World) (aa : AAct) (a : Act) (s : Sem Value) (c : AVal) (ls' : List (Nat × List AVal)) (h' : AHeap) : Prop :=
  ∃ v w' G' L', s.run P w = .ok v w' ∧ Ext G L w G' L' w' ∧ Inv G' h' w' ∧ ActRel G' L' w' ⟨aa.tmps, ls'⟩ a ∧ TR G' L' c v

theorem zeroCells_size (z : Array Value) (k : Nat) : (Builtin.zeroCells z k).size = k * z.size := by
  simp [Builtin.zeroCells]

theorem append_ok {P : Program} {t tx ty e : TypeId} {tis tix te : TI} (hs : tiOf P t = some tis) (hk : tis.kind = .slice e) (he : tiOf P e = some te) {zs : List AVal} (hz : te.zero = some zs) (hzl : zs.length = te.size) (hx : tiOf P tx = some tix)
    {G L h w aa a} (i : Inv G h w) (r : ActRel G L w aa a) {c d : AVal} {u v : Value} (hc : TR G L c u) (hd : TR G L d v)
    (hkx : KindOf d tix.kind) {ys : List (List AVal)} (hy : aNews te.size d = some ys)
    {n : Nat} (hb : G.blk n = none) (hr : G.row n = none) {heapy : Bool} {out : AVal} {h' : AHeap} (hout : aAppend te heapy h n c ys = some (out, h')) :
    Done P G L w aa a (Builtin.append_ #[t, tx] ty #[u, v]) out aa.locs h' := by
  obtain ⟨i1, d1, a1, a2, a3, _⟩ := tiOf_some hs
  have hd1 : d1 = .slice e := by rw [hk] at a3; cases d1 <;> simp [tkOf] at a3; rw [a3]
  subst hd1
  obtain ⟨i2, d2, b1, b2, b3, b4, b5, b6⟩ := tiOf_some he
  obtain ⟨z, hiz, hzc⟩ : ∃ z, i2.zero = some z ∧ z.cells.size = i2.size := by
    cases hq : i2.zero with
    | none => rw [b6, hq] at hz; cases hz
    | some z =>
      rw [b6, hq] at hz; simp at hz
      exact ⟨z, rfl, by rw [b4, ← hzl, ← hz]; simp⟩
  obtain ⟨news, hsrc, hrel, hysz, hyone⟩ := news_ok hx i r hd hkx hy
  have hfl := flatten_len hysz
  have hnews : news.length = ys.length * te.size := by rw [← hrel.1, hfl]
  rw [← b4] at hsrc
  cases c <;> simp only [aAppend, reduceCtorEq] at hout
  case nilSlice =>
    have eu := hc.nilSlice; subst eu
    cases ys with
    | nil =>
      simp only [Option.some.injEq, Prod.mk.injEq] at hout
      obtain ⟨rfl, rfl⟩ := hout
      have hrun := run_append_nothing (P := P) w t tx ty e i2 a2 b1 none 0 0 (Nat.le_refl _) v (by
        have h0 : news = [] := by
          have := hrel.1; simp at this; exact List.eq_nil_of_length_eq_zero this.symm
        rw [h0] at hsrc; exact hsrc)
      exact ⟨_, w, G, L, hrun, Ext.refl _ _ _, i, r, .inl .nilSlice⟩
    | cons y ys =>
      simp only at hout
      split at hout
      · rename_i hfit
        obtain ⟨f1, f2⟩ := fits_next (old := 0) (need := (y :: ys).length) (by simp) hfit
        have hrun := run_append_grow_src (P := P) w t tx ty e i2 z a2 b1 hiz none 0 0 [] (run_firstCells_none _ _ _ _ _) v _ news hsrc (by simp) (by simpa using f1) (by rw [b5]; simpa using f2)
        simp only [Nat.zero_add, List.nil_append] at hrun
        have hge := grownCap_ge w (y :: ys).length 0 e
        generalize hcap : grownCap w (y :: ys).length 0 e = cap at *
        have p := Pushed.drewAlloc w (news.toArray ++ Builtin.zeroCells z.cells (cap - (y :: ys).length)) e
        have hsize : cap * te.size ≤ (news.toArray ++ Builtin.zeroCells z.cells (cap - (y :: ys).length)).size := by
          rw [Array.size_append, zeroCells_size, hzc, b4, List.size_toArray, hnews, ← Nat.add_mul]
          exact Nat.mul_le_mul_right _ (by omega)
        have hvs : ∀ (j : Nat) c, (y :: ys).flatten[j]? = some c → ∃ v, (news.toArray ++ Builtin.zeroCells z.cells (cap - (y :: ys).length))[j]? = some v ∧ VR G c v := fun j c hj => by
          obtain ⟨v, e1, e2⟩ := hrel.get hj
          refine ⟨v, ?_, e2⟩
          rw [Array.getElem?_append_left (by simpa using (List.getElem?_eq_some_iff.1 e1).1)]
          simpa using e1
        split at hout
        · simp only [Option.some.injEq, Prod.mk.injEq] at hout
          obtain ⟨rfl, rfl⟩ := hout
          obtain ⟨G', x1, x2, x3, x4⟩ := new_blk i r p hb hr hvs (by rw [hrel.1, Array.size_append]; simp) hyone
          have hv := VR.ref (G := G') (off := 0) (len := (y :: ys).length) (sz := te.size) (cap := cap) x4 hge (by simpa using hsize)
          exact ⟨_, _, G', L, hrun, x1, x2, x3, .inl hv⟩
        · simp only [Option.some.injEq, Prod.mk.injEq] at hout
          obtain ⟨rfl, rfl⟩ := hout
          obtain ⟨G', x1, x2, x3, x4⟩ := new_list i r p hb hr hysz hyone hge hsize hvs
          exact ⟨_, _, G', L, hrun, x1, x2, x3, .inl x4⟩
      · cases hout
  case list ρ sz xs =>
    cases ρ with
    | none => simp at hout
    | some ρ =>
      simp only at hout
      split at hout
      · rename_i hcond
        obtain ⟨rfl, hlive, hfit⟩ := hcond
        simp only [Option.some.injEq, Prod.mk.injEq] at hout
        obtain ⟨rfl, rfl⟩ := hout
        have hc' := hc.plain rfl
        have hcv := hc'
        cases hc' with
        | @list _ _ _ b off cap ws hsz hone hcap hcl hv hρ =>
          obtain ⟨q, vs, T, fr, k1, k2, k3, k4, k5, k6⟩ := i.rows ρ hlive
          rw [hρ ρ rfl] at k1; cases k1
          simp only at k2 k3 k4 k5 k6
          have hxl := flatten_len hsz
          have hsum : (xs.length + ys.length) * te.size = xs.length * te.size + ys.length * te.size := Nat.add_mul _ _ _
          by_cases hroom : xs.length + ys.length ≤ cap
          · have hmul : (xs.length + ys.length) * te.size ≤ cap * te.size := Nat.mul_le_mul_right _ hroom
            have hin : ∀ j, j < news.length → off + xs.length * te.size + j < vs.size := fun j hj => by omega
            have hrun := run_append_room_src (P := P) w t tx ty e i2 a2 b1 b off xs.length cap v ys.length news hsrc hroom
              (fun j hj => by
                have := hin j hj
                rw [b4]; simp [World.cell?, k3, this])
              (fun j hj => by rw [b4]; exact k4 _ (hin j hj))
            rw [b4] at hrun
            obtain ⟨us, p⟩ := wrote_setCells b T fr news (off + xs.length * te.size) w vs k3
            obtain ⟨G', x1, x2, x3, x4⟩ := grow_list i r hb hr hlive hcv p hrel hysz hyone hroom
            exact ⟨_, _, G', L, hrun, x1, x2, x3, .inl x4⟩
          · obtain ⟨f1, f2⟩ := fits_next (old := cap) (need := xs.length + ys.length) (by omega) hfit
            have holds : VRL G xs.flatten ((List.range (xs.length * te.size)).map ws) := ⟨by simp [hxl], fun j d v h1 h2 => by
              simp only [List.getElem?_map] at h2
              cases hr : (List.range (xs.length * te.size))[j]? with
              | none => rw [hr] at h2; cases h2
              | some q =>
                rw [hr] at h2
                simp at h2; subst h2
                obtain ⟨hq, rfl⟩ := List.getElem?_eq_some_iff.1 hr
                simp only [List.getElem_range]
                exact hv j d h1⟩
            have hfirst := run_firstCells_some (P := P) w.drew i2.size xs.length ⟨b, off, none⟩ xs.length cap ((List.range (xs.length * te.size)).map ws) (by simp [b4]) (fun j u hu => by
              simp only [List.getElem?_map] at hu
              cases hr : (List.range (xs.length * te.size))[j]? with
              | none => rw [hr] at hu; cases hu
              | some q =>
                rw [hr] at hu
                simp at hu; subst hu
                obtain ⟨hq, rfl⟩ := List.getElem?_eq_some_iff.1 hr
                simp only [List.getElem_range]
                rw [Addr.add_lit]
                exact i.claims _ _ _ (hcl j (by simpa using hq)))
            have hrun := run_append_grow_src (P := P) w t tx ty e i2 z a2 b1 hiz (some ⟨b, off, none⟩) xs.length cap _ hfirst v _ news hsrc (by omega) f1 (by rw [b5]; exact f2)
            have hge := grownCap_ge w (xs.length + ys.length) cap e
            generalize hcap' : grownCap w (xs.length + ys.length) cap e = cap' at *
            have p := Pushed.drewAlloc w (((List.range (xs.length * te.size)).map ws ++ news).toArray ++ Builtin.zeroCells z.cells (cap' - (xs.length + ys.length))) e
            have hall := holds.append hrel
            rw [← List.flatten_append] at hall
            have hsize : cap' * te.size ≤ (((List.range (xs.length * te.size)).map ws ++ news).toArray ++ Builtin.zeroCells z.cells (cap' - (xs.length + ys.length))).size := by
              rw [Array.size_append, zeroCells_size, hzc, b4, List.size_toArray, List.length_append, hnews, List.length_map, List.length_range, ← hsum, ← Nat.add_mul]
              exact Nat.mul_le_mul_right _ (by omega)
            have hvs : ∀ (j : Nat) c, (xs ++ ys).flatten[j]? = some c → ∃ v, (((List.range (xs.length * te.size)).map ws ++ news).toArray ++ Builtin.zeroCells z.cells (cap' - (xs.length + ys.length)))[j]? = some v ∧ VR G c v := fun j c hj => by
              obtain ⟨v, e1, e2⟩ := hall.get hj
              refine ⟨v, ?_, e2⟩
              rw [Array.getElem?_append_left (by simpa using (List.getElem?_eq_some_iff.1 e1).1)]
              simpa using e1
            obtain ⟨G', x1, x2, x3, x4⟩ := new_list (i.killRow ρ) r p hb hr (xs := xs ++ ys) (sz := te.size)
              (fun x hx => by rcases List.mem_append.1 hx with hx | hx; exact hsz x hx; exact hysz x hx)
              (fun c hc => by rw [List.flatten_append] at hc; rcases List.mem_append.1 hc with hc | hc; exact hone c hc; exact hyone c hc)
              (by rw [List.length_append]; exact hge) hsize hvs
            rw [List.length_append] at x4
            exact ⟨_, _, G', L, hrun, x1, x2, x3, .inl x4⟩
      · cases hout
  case ref β off len sz =>
    cases hcs : h.blk β with
    | none => rw [hcs] at hout; cases hout
    | some cs =>
      rw [hcs] at hout
      simp only at hout
      split at hout
      · rename_i hcond
        obtain ⟨rfl, hoff, hfit⟩ := hcond
        simp only [Option.some.injEq, Prod.mk.injEq] at hout
        obtain ⟨rfl, rfl⟩ := hout
        have hc' := hc.plain rfl
        cases hc' with
        | @ref _ _ _ _ b base nn cap hβ hlen hcap =>
          obtain ⟨b', base', vs, T, fr, k1, k2, k3, k4, k5, k6, k7, k8⟩ := i.blks β cs hcs
          rw [hβ] at k1
          simp only [Option.some.injEq, Prod.mk.injEq] at k1
          obtain ⟨e1, e2, e3⟩ := k1
          subst e1; subst e2; subst e3
          have hsum : (len + ys.length) * te.size = len * te.size + ys.length * te.size := Nat.add_mul _ _ _
          by_cases hroom : len + ys.length ≤ cap
          · have hmul : (len + ys.length) * te.size ≤ cap * te.size := Nat.mul_le_mul_right _ hroom
            have hin : ∀ j, j < news.length → base + off + len * te.size + j < vs.size := fun j hj => by omega
            have hrun := run_append_room_src (P := P) w t tx ty e i2 a2 b1 b (base + off) len cap v ys.length news hsrc hroom
              (fun j hj => by
                have := hin j hj
                rw [b4]; simp [World.cell?, k3, this])
              (fun j hj => by rw [b4]; exact k4 _ (hin j hj))
            rw [b4] at hrun
            obtain ⟨us, p⟩ := wrote_setCells b T fr news (base + off + len * te.size) w vs k3
            obtain ⟨G', x1, x2, x3, x4⟩ := grow_blk i r hb hr hβ hcs hoff hcap (by rw [hfl]; omega) p hrel hyone
            exact ⟨_, _, G', L, hrun, x1, x2, x3, .inl (by
              have := VR.ref (G := G') (off := 0) (len := len + ys.length) (sz := te.size) (cap := cap) x4 hroom (by simpa using hcap)
              simpa using this)⟩
          · obtain ⟨f1, f2⟩ := fits_next (old := cap) (need := len + ys.length) (by omega) hfit
            let olds := (vs.toList.drop (base + off)).take (len * te.size)
            have hol : olds.length = len * te.size := by simp [olds]; omega
            have holds : VRL G ((cs.drop off).take (len * te.size)) olds := ⟨by rw [hol]; simp; omega, fun j d v h1 h2 => by
              rw [List.getElem?_take] at h1
              split at h1
              · rename_i hj
                simp only [olds] at h2
                rw [List.getElem?_take_of_lt hj, List.getElem?_drop] at h2
                rw [List.getElem?_drop] at h1
                obtain ⟨v', q1, q2⟩ := k6 _ d h1
                rw [Nat.add_assoc] at h2
                simp only [Array.getElem?_toList] at h2
                rw [h2] at q1; cases q1; exact q2
              · cases h1⟩
            have hfirst := run_firstCells_some (P := P) w.drew i2.size len ⟨b, base + off, none⟩ len cap olds (by rw [hol, b4]) (fun j u hu => by
              simp only [olds] at hu
              rw [List.getElem?_take] at hu
              split at hu
              · rw [List.getElem?_drop] at hu
                rw [Addr.add_lit]
                have : w.drew.cell? ⟨b, base + off + j, none⟩ = w.cell? ⟨b, base + off + j, none⟩ := rfl
                rw [this]
                simpa [World.cell?, k3] using hu
              · cases hu)
            have hrun := run_append_grow_src (P := P) w t tx ty e i2 z a2 b1 hiz (some ⟨b, base + off, none⟩) len cap olds hfirst v _ news hsrc (by omega) f1 (by rw [b5]; exact f2)
            have hge := grownCap_ge w (len + ys.length) cap e
            generalize hcap' : grownCap w (len + ys.length) cap e = cap' at *
            have p := Pushed.drewAlloc w ((olds ++ news).toArray ++ Builtin.zeroCells z.cells (cap' - (len + ys.length))) e
            have hall := holds.append hrel
            have hsize : cap' * te.size ≤ ((olds ++ news).toArray ++ Builtin.zeroCells z.cells (cap' - (len + ys.length))).size := by
              rw [Array.size_append, zeroCells_size, hzc, b4, List.size_toArray, List.length_append, hnews, hol, ← hsum, ← Nat.add_mul]
              exact Nat.mul_le_mul_right _ (by omega)
            have hvs : ∀ (j : Nat) c, ((cs.drop off).take (len * te.size) ++ ys.flatten)[j]? = some c → ∃ v, ((olds ++ news).toArray ++ Builtin.zeroCells z.cells (cap' - (len + ys.length)))[j]? = some v ∧ VR G c v := fun j c hj => by
              obtain ⟨v, e1, e2⟩ := hall.get hj
              refine ⟨v, ?_, e2⟩
              rw [Array.getElem?_append_left (by simpa using (List.getElem?_eq_some_iff.1 e1).1)]
              simpa using e1
            obtain ⟨G', x1, x2, x3, x4⟩ := new_blk (i.killBlk β) r p hb hr hvs (by rw [hall.1, Array.size_append]; simp)
              (fun c hc => by
                rcases List.mem_append.1 hc with hc | hc
                · exact k7 c (List.mem_of_mem_drop (List.mem_of_mem_take hc))
                · exact hyone c hc)
            exact ⟨_, _, G', L, hrun, x1, x2, x3, .inl (VR.ref (G := G') (off := 0) (len := len + ys.length) (sz := te.size) (cap := cap') x4 hge (by simpa using hsize))⟩
      · cases hout

end Go.Ab
end
/- The abstract machine's operations that make or write memory, and that the model's do what they say (the third part). -/
section
namespace Go.Ab

/-- A slice's elements, filled part by part. -/
def aFillS (sz : Nat) (xs : List (List AVal)) : List (Nat × AVal) → Option (List (List AVal))
  | [] => some xs
  | (i, v) :: rest =>
    match v.cells with
    | some vs => if vs.length = sz ∧ i < xs.length then aFillS sz (xs.set i vs) rest else none
    | none => none

theorem flatten_set {sz : Nat} : ∀ {xs : List (List AVal)} (_hsz : ∀ x ∈ xs, x.length = sz) {i : Nat} {v : List AVal} (_hv : v.length = sz) (_hi : i < xs.length), (xs.set i v).flatten = splice xs.flatten (i * sz) v := by
  intro xs
  induction xs with
  | nil => intro _ i v _ hi; simp at hi
  | cons x xs ih =>
    intro hsz i v hv hi
    have hx := hsz x (by simp)
    cases i with
    | zero => simp [splice, hv, ← hx]
    | succ i =>
      rw [List.set_cons_succ, List.flatten_cons, ih (fun y hy => hsz y (by simp [hy])) hv (by simpa using hi)]
      unfold splice
      have e1 : (i + 1) * sz = x.length + i * sz := by rw [Nat.add_mul, hx]; omega
      rw [e1, List.flatten_cons, List.take_append, List.drop_append]
      rw [List.take_of_length_le (l := x) (by omega), List.drop_eq_nil_of_le (as := x) (by omega)]
      simp [Nat.add_sub_cancel_left, show x.length + i * sz + v.length - x.length = i * sz + v.length by omega]

theorem fillS_fill {sz : Nat} : ∀ (parts : List (Nat × AVal)) (xs ys : List (List AVal)), (∀ x ∈ xs, x.length = sz) → aFillS sz xs parts = some ys →
    aFill (fun i => some (i * sz, sz)) xs.flatten parts = some ys.flatten ∧ (∀ y ∈ ys, y.length = sz) ∧ ys.length = xs.length := by
  intro parts
  induction parts with
  | nil => intro xs ys hsz h; simp [aFillS] at h; subst h; exact ⟨rfl, hsz, rfl⟩
  | cons p parts ih =>
    intro xs ys hsz h
    obtain ⟨i, c⟩ := p
    simp only [aFillS] at h
    cases hcs : c.cells with
    | none => rw [hcs] at h; cases h
    | some ds =>
      rw [hcs] at h
      simp only at h
      split at h
      · rename_i hb
        have hsz' : ∀ x ∈ xs.set i ds, x.length = sz := fun x hx => by
          rcases List.mem_or_eq_of_mem_set hx with hx | hx
          · exact hsz x hx
          · rw [hx]; exact hb.1
        obtain ⟨r1, r2, r3⟩ := ih (xs.set i ds) ys hsz' h
        refine ⟨?_, r2, by rw [r3]; simp⟩
        simp only [aFill, hcs]
        have hmul : (i + 1) * sz ≤ xs.length * sz := Nat.mul_le_mul_right _ hb.2
        rw [Nat.add_mul] at hmul
        rw [if_pos ⟨hb.1, by rw [flatten_len hsz]; omega⟩, ← flatten_set hsz hb.1 hb.2]
        exact r1
      · cases h

theorem zeros_rel (G : Ghost) (z : Value) {sz : Nat} (hz : z.cells.size = sz) (n : Nat) :
    VRL G (List.replicate n (z.cells.toList.map aOfValue)).flatten ((Array.range (n * sz)).map fun i => z.cells[i % z.cells.size]!).toList := by
  have hlen : ∀ x ∈ List.replicate n (z.cells.toList.map aOfValue), x.length = sz := fun x hx => by
    rw [(List.mem_replicate.1 hx).2]; simpa using hz
  refine ⟨by rw [flatten_len hlen]; simp, fun j c v h1 h2 => ?_⟩
  have hj : j < n * sz := by
    have := (List.getElem?_eq_some_iff.1 h1).1
    rw [flatten_len hlen] at this; simpa using this
  have hsz : 0 < sz := by
    rcases Nat.eq_zero_or_pos sz with h | h
    · subst h; simp at hj
    · exact h
  have e : j = j / sz * sz + j % sz := by
    have := Nat.div_add_mod j sz
    rw [Nat.mul_comm]; omega
  have hq : j / sz < n := by rw [Nat.div_lt_iff_lt_mul hsz]; exact hj
  have hget : (List.replicate n (z.cells.toList.map aOfValue))[j / sz]? = some (z.cells.toList.map aOfValue) := by simp [hq]
  have h3 := flatten_get hlen hget (Nat.mod_lt j hsz)
  rw [← e, h1] at h3
  have hm : j % sz < z.cells.size := by rw [hz]; exact Nat.mod_lt j hsz
  simp [hj, hz] at h2
  simp only [List.getElem?_map, Array.getElem?_toList, Array.getElem?_eq_getElem hm, Option.map_some, Option.some.injEq] at h3
  have h4 : z.cells[j % sz]! = z.cells[j % sz] := getElem!_pos z.cells (j % sz) hm
  rw [h4] at h2
  subst h2; rw [h3]
  exact aOfValue_ok G _

theorem buildSlice_ok {P : Program} {t e : TypeId} {tis te : TI} (hs : tiOf P t = some tis) (hk : tis.kind = .slice e) (he : tiOf P e = some te) {zs : List AVal} (hz : te.zero = some zs) (hzl : zs.length = te.size) (hone : allOne zs = true)
    {G L h w aa a} (i : Inv G h w) (r : ActRel G L w aa a) {parts : List (Nat × AVal)} {vs : List (Nat × Value)} (hl : parts.length = vs.length) (hpv : ∀ (j : Nat) p q, parts[j]? = some p → vs[j]? = some q → p.1 = q.1 ∧ VR G p.2 q.2)
    {len : Nat} (hsize : len * te.size ≤ 16777216) {ys : List (List AVal)} (hf : aFillS te.size (List.replicate len zs) parts = some ys) {n : Nat} (hb : G.blk n = none) (hr : G.row n = none) :
    Done P G L w aa a (Instr.buildSlice t len vs.toArray) (.list (some n) te.size ys) aa.locs { h with live := upd h.live n true } ∧
    Done P G L w aa a (Instr.buildSlice t len vs.toArray) (.ref n 0 len te.size) aa.locs { h with blk := upd h.blk n (some ys.flatten) } := by
  obtain ⟨i1, d1, a1, a2, a3, _⟩ := tiOf_some hs
  have hd1 : d1 = .slice e := by rw [hk] at a3; cases d1 <;> simp [tkOf] at a3; rw [a3]
  subst hd1
  obtain ⟨i2, d2, b1, b2, b3, b4, b5, b6⟩ := tiOf_some he
  obtain ⟨z, hiz, hzz⟩ : ∃ z, i2.zero = some z ∧ z.cells.toList.map aOfValue = zs := by
    cases hq : i2.zero with
    | none => rw [b6, hq] at hz; cases hz
    | some z => rw [b6, hq] at hz; simp at hz; exact ⟨z, rfl, hz⟩
  have hzc : z.cells.size = te.size := by rw [← hzl, ← hzz]; simp
  have hlen0 : ∀ x ∈ List.replicate len zs, x.length = te.size := fun x hx => by rw [(List.mem_replicate.1 hx).2]; exact hzl
  obtain ⟨f1, f2, f3⟩ := fillS_fill parts _ _ hlen0 hf
  simp only [List.length_replicate] at f3
  let v0 : Array Value := (Array.range (len * te.size)).map fun i => z.cells[i % z.cells.size]!
  have hrel0 : VRL G (List.replicate len zs).flatten v0.toList := by rw [← hzz]; exact zeros_rel G z hzc len
  have hone0 : ∀ c ∈ (List.replicate len zs).flatten, c.one = true := fun c hc => by
    obtain ⟨x, q1, q2⟩ := List.mem_flatten.1 hc
    rw [(List.mem_replicate.1 q1).2] at q2
    exact List.all_eq_true.1 hone c q2
  obtain ⟨vout, r1, r2, r3, r4⟩ := fill_ok (G := G) parts vs _ v0 _ hl hpv hrel0 hone0 f1
  have hvs : vout.size = len * te.size := by
    have := r2.1
    rw [flatten_len f2, f3] at this; simpa using this.symm
  have hrun : (Instr.buildSlice t len vs.toArray).run P w = .ok (.slice (some ⟨w.heap.size, 0, none⟩) len len) (w.alloc (.cells vout e)) := by
    have h24 : ¬ (len * te.size > 2 ^ 24) := by omega
    by_cases h0 : len * te.size = 0
    · have hv0 : v0 = #[] := by apply Array.eq_empty_of_size_eq_zero; simp [v0, h0]
      have r1' : Instr.fill (fun i => some (i * te.size, te.size)) #[] vs = some vout := by rw [hv0] at r1; exact r1
      simp [Instr.buildSlice, run_underlying a2, run_sizeOf b1, b4, h0, newRow, Array.range_zero', r1']
    · have r1' : Instr.fill (fun i => some (i * te.size, te.size)) ((Array.range (len * te.size)).map fun i => z.cells[i % z.cells.size]!) vs = some vout := r1
      have hzero : (zeroValue e).run P w = .ok z w := by simp [zeroValue, typeInfo, b1, hiz]
      simp only [Instr.buildSlice, Sem.run_bind, run_underlying a2, Result.andThen_ok, run_sizeOf b1, b4, h24, if_false, h0, hzero, Sem.run_pure]
      simp [r1', newRow]
  have p := Pushed.alloc w vout e
  have hvs' : ∀ (j : Nat) c, ys.flatten[j]? = some c → ∃ v, vout[j]? = some v ∧ VR G c v := fun j c hj => by
    obtain ⟨v, e1, e2⟩ := r2.get hj
    exact ⟨v, by simpa using e1, e2⟩
  constructor
  · obtain ⟨G', x1, x2, x3, x4⟩ := new_list i r p hb hr f2 r3 (cap := len) (by rw [f3]; exact Nat.le_refl _) (by rw [hvs]; exact Nat.le_refl _) hvs'
    rw [f3] at x4
    exact ⟨_, _, G', L, hrun, x1, x2, x3, .inl x4⟩
  · obtain ⟨G', x1, x2, x3, x4⟩ := new_blk i r p hb hr hvs' (by rw [flatten_len f2, f3, hvs]; exact Nat.le_refl _) r3
    exact ⟨_, _, G', L, hrun, x1, x2, x3, .inl (VR.ref (G := G') (off := 0) (len := len) (sz := te.size) (cap := len) x4 (Nat.le_refl _) (by rw [hvs]; simp))⟩

theorem makeSlice_ok {P : Program} {t e : TypeId} {tis te : TI} (hs : tiOf P t = some tis) (hk : tis.kind = .slice e) (he : tiOf P e = some te) {zs : List AVal} (hz : te.zero = some zs) (hzl : zs.length = te.size) (hone : allOne zs = true)
    {G L h w aa a} (i : Inv G h w) (r : ActRel G L w aa a) {kl kc : IntKind} {l c : Int} (h0 : 0 ≤ l) (hlc : l ≤ c) (hc : c ≤ 4294967296) (hby : te.bytes ≤ 4096) {n : Nat} (hb : G.blk n = none) (hr : G.row n = none) :
    Done P G L w aa a (Instr.makeSlice t (.int kl l) (.int kc c)) (.list (some n) te.size (List.replicate l.toNat zs)) aa.locs { h with live := upd h.live n true } ∧
    Done P G L w aa a (Instr.makeSlice t (.int kl l) (.int kc c)) (.ref n 0 l.toNat te.size) aa.locs { h with blk := upd h.blk n (some (List.replicate l.toNat zs).flatten) } := by
  obtain ⟨i1, d1, a1, a2, a3, _⟩ := tiOf_some hs
  have hd1 : d1 = .slice e := by rw [hk] at a3; cases d1 <;> simp [tkOf] at a3; rw [a3]
  subst hd1
  obtain ⟨i2, d2, b1, b2, b3, b4, b5, b6⟩ := tiOf_some he
  obtain ⟨z, hiz, hzz⟩ : ∃ z, i2.zero = some z ∧ z.cells.toList.map aOfValue = zs := by
    cases hq : i2.zero with
    | none => rw [b6, hq] at hz; cases hz
    | some z => rw [b6, hq] at hz; simp at hz; exact ⟨z, rfl, hz⟩
  have hzc : z.cells.size = te.size := by rw [← hzl, ← hzz]; simp
  have hbytes : (i2.bytes : Int) * c ≤ 281474976710656 := by
    rw [b5]
    have h1 : (te.bytes : Int) * c ≤ 4096 * c := Int.mul_le_mul_of_nonneg_right (by omega) (by omega)
    omega
  have hrun := run_make (P := P) w t e i2 z a2 b1 hiz kl kc l c h0 hlc hbytes (by omega)
  rw [b4] at hrun
  have p := Pushed.alloc w (madeCells z.cells (c.toNat * te.size)) e
  have hlen : ∀ k, ∀ x ∈ List.replicate k zs, x.length = te.size := fun k x hx => by rw [(List.mem_replicate.1 hx).2]; exact hzl
  have hmade : (madeCells z.cells (c.toNat * te.size)).size = c.toNat * te.size := size_madeCells _ _
  have hrel := zeros_rel G z hzc c.toNat
  rw [hzz] at hrel
  have hsplit : (List.replicate c.toNat zs).flatten = (List.replicate l.toNat zs).flatten ++ (List.replicate (c.toNat - l.toNat) zs).flatten := by
    rw [← List.flatten_append, List.replicate_append_replicate]; congr 2; omega
  have hvs : ∀ (j : Nat) d, (List.replicate l.toNat zs).flatten[j]? = some d → ∃ v, (madeCells z.cells (c.toNat * te.size))[j]? = some v ∧ VR G d v := fun j d hj => by
    have hj' : (List.replicate c.toNat zs).flatten[j]? = some d := by
      rw [hsplit, List.getElem?_append_left (List.getElem?_eq_some_iff.1 hj).1]; exact hj
    obtain ⟨v, e1, e2⟩ := hrel.get hj'
    exact ⟨v, by rw [Array.getElem?_toList] at e1; exact e1, e2⟩
  have hone0 : ∀ d ∈ (List.replicate l.toNat zs).flatten, d.one = true := fun d hd => by
    obtain ⟨x, q1, q2⟩ := List.mem_flatten.1 hd
    rw [(List.mem_replicate.1 q1).2] at q2
    exact List.all_eq_true.1 hone d q2
  constructor
  · obtain ⟨G', x1, x2, x3, x4⟩ := new_list i r p hb hr (hlen l.toNat) hone0 (cap := c.toNat) (by simp; omega) (by rw [hmade]; exact Nat.le_refl _) hvs
    rw [List.length_replicate] at x4
    exact ⟨_, _, G', L, hrun, x1, x2, x3, .inl x4⟩
  · obtain ⟨G', x1, x2, x3, x4⟩ := new_blk i r p hb hr hvs (by rw [flatten_len (hlen l.toNat), hmade]; simp; exact Nat.mul_le_mul_right _ (by omega)) hone0
    exact ⟨_, _, G', L, hrun, x1, x2, x3, .inl (VR.ref (G := G') (off := 0) (len := l.toNat) (sz := te.size) (cap := c.toNat) x4 (by omega) (by rw [hmade]; simp))⟩

theorem newVar_loc {P : Program} {t : TypeId} {G L h w aa a} (i : Inv G h w) (r : ActRel G L w aa a) {k : Nat} (hk : lget aa.locs k = none) {cs : List AVal} {v : Value} (hv : VRL G cs v.cells.toList) (hone : ∀ c ∈ cs, c.one = true) :
    Done P G L w aa a (do pure (.pointer (some (← newVar t v))) : Sem Value) (.loc k 0) (lset aa.locs k cs) h := by
  obtain ⟨L', x1, x2, x3, x4⟩ := new_loc i r (Pushed.alloc w v.cells t) hk hv hone
  exact ⟨_, _, G, L', by simp [newVar, newRow], x1, x2, x3, x4⟩

theorem newVar_blk {P : Program} {t : TypeId} {G L h w aa a} (i : Inv G h w) (r : ActRel G L w aa a) {n : Nat} (hb : G.blk n = none) (hr : G.row n = none) {cs : List AVal} {v : Value} (hv : VRL G cs v.cells.toList) (hone : ∀ c ∈ cs, c.one = true) :
    Done P G L w aa a (do pure (.pointer (some (← newVar t v))) : Sem Value) (.ptr n 0) aa.locs { h with blk := upd h.blk n (some cs) } := by
  have hl := hv.1
  obtain ⟨G', x1, x2, x3, x4⟩ := new_blk i r (Pushed.alloc w v.cells t) hb hr (fun j c hj => by
    obtain ⟨u, e1, e2⟩ := hv.get hj
    exact ⟨u, by simpa using e1, e2⟩) (by simp at hl; omega) hone
  exact ⟨_, _, G', L, by simp [newVar, newRow], x1, x2, x3, .inl (.ptr (off := 0) x4)⟩

/-- A store. -/
def aStore (h : AHeap) (ls : List (Nat × List AVal)) (x : AVal) (ds : List AVal) : Option (List (Nat × List AVal) × AHeap) :=
  match x with
  | .loc k off => match lget ls k with
    | some cs => if off + ds.length ≤ cs.length then some (lset ls k (splice cs off ds), h) else none
    | none => none
  | .ptr β off => match h.blk β with
    | some cs => if off + ds.length ≤ cs.length then some (ls, { h with blk := upd h.blk β (some (splice cs off ds)) }) else none
    | none => none
  | _ => none

theorem store_ok {P : Program} {t : TypeId} {ti : TI} (hti : tiOf P t = some ti) {G L h w aa a} (i : Inv G h w) (r : ActRel G L w aa a) {c d : AVal} {u v : Value} (hc : TR G L c u) (hd : VR G d v) {ds : List AVal} (hds : d.cells = some ds) (hsz : ds.length = ti.size)
    {ls' : List (Nat × List AVal)} {h' : AHeap} (hs : aStore h aa.locs c ds = some (ls', h')) :
    ∃ w', (Instr.storeAt t u v).run P w = .ok () w' ∧ Ext G L w G L w' ∧ Inv G h' w' ∧ ActRel G L w' ⟨aa.tmps, ls'⟩ a := by
  obtain ⟨i1, d1, a1, a2, a3, a4, _⟩ := tiOf_some hti
  obtain ⟨k1, k2, k3⟩ := cells_ok hd hds
  have hvl : v.cells.size = ds.length := by have := k1.1; simp at this; omega
  have hstore : ∀ (b o : Nat) (vs : Array Value) T fr, w.heap[b]? = some (.cells vs T fr) → o + ds.length ≤ vs.size → (∀ j, j < vs.size → w.frozen? ⟨b, j, none⟩ = false) →
      (Instr.storeAt t (.pointer (some ⟨b, o, none⟩)) v).run P w = .ok () (w.setCells b o v.cells.toList) := by
    intro b o vs T fr hb ho hf
    have := run_storeCells_cells (P := P) b o v.cells.toList 0 w (fun j hj => by
      simp at hj
      have : o + j < vs.size := by omega
      simp [World.cell?, hb, this]) (fun j hj => by simp at hj; exact hf _ (by omega)) k3
    have hne : ¬ (v.cells.size ≠ i1.size) := by omega
    simp only [Nat.add_zero] at this
    simp only [Instr.storeAt, Instr.sureAddr, Sem.run_bind, Sem.run_pure, Result.andThen_ok, storeVar, run_sizeOf a1, hne, if_false]
    simpa using this
  cases c <;> simp only [aStore, reduceCtorEq] at hs
  case ptr β off =>
    have hc' := hc.plain rfl
    cases hc' with
    | @ptr _ _ b base nn hβ =>
      cases hcs : h.blk β with
      | none => rw [hcs] at hs; cases hs
      | some cs =>
        rw [hcs] at hs
        simp only at hs
        split at hs
        · rename_i ho
          simp only [Option.some.injEq, Prod.mk.injEq] at hs
          obtain ⟨rfl, rfl⟩ := hs
          obtain ⟨b', base', vs, T, fr, q1, q2, q3, q4, q5, _⟩ := i.blks β cs hcs
          rw [hβ] at q1
          simp only [Option.some.injEq, Prod.mk.injEq] at q1
          obtain ⟨e1, e2, e3⟩ := q1
          subst e1; subst e2; subst e3
          have hrun := hstore b (base + off) vs T fr q3 (by omega) q4
          obtain ⟨us, p⟩ := wrote_setCells b T fr v.cells.toList (base + off) w vs q3
          obtain ⟨x1, x2, x3⟩ := write_blk i r hβ hcs p ho k1 k2
          exact ⟨_, hrun, x1, x2, x3⟩
        · cases hs
  case loc k off =>
    obtain ⟨b, hL, rfl⟩ := hc.locInv
    cases hcs : lget aa.locs k with
    | none => rw [hcs] at hs; cases hs
    | some cs =>
      rw [hcs] at hs
      simp only at hs
      split at hs
      · rename_i ho
        simp only [Option.some.injEq, Prod.mk.injEq] at hs
        obtain ⟨rfl, rfl⟩ := hs
        obtain ⟨b', vs, T, q1, q2, q3, q4, q5, q6⟩ := r.locs.cells k cs hcs
        rw [hL] at q1; cases q1
        have hl5 := q5.1
        simp only [Array.length_toList] at hl5
        have hrun := hstore b off vs T (0, 0) q4 (by omega) (fun j _ => by simp [World.frozen?, q4])
        obtain ⟨us, p⟩ := wrote_setCells b T (0, 0) v.cells.toList off w vs q4
        obtain ⟨x1, x2, x3⟩ := write_loc i r hL hcs p ho k1 k2
        exact ⟨_, hrun, x1, x2, x3⟩
      · cases hs

end Go.Ab
end
