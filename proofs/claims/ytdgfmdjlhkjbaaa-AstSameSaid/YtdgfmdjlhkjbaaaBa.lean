/-
  The abstract machine's operations, all in one, and that the model's do what they say.
-/
import Derived.Test.YtdgfmdjlhkjbaaaAb
set_option linter.all false
section
namespace Go.Ab

abbrev Locs := List (Nat × List AVal)
abbrev Out := AVal × Locs × AHeap

def TK.isSlice : TK → Bool
  | .slice _ => true
  | _ => false
def TK.isStr : TK → Bool
  | .str => true
  | _ => false
def TK.isIface : TK → Bool
  | .iface => true
  | _ => false

theorem TK.isSlice_iff {k : TK} (h : k.isSlice = true) : ∃ e, k = .slice e := by cases k <;> simp [TK.isSlice] at h; exact ⟨_, rfl⟩
theorem TK.isStr_iff {k : TK} (h : k.isStr = true) : k = .str := by cases k <;> simp [TK.isStr] at h; rfl

/-- Whether a type's kind fits a text or a slice. -/
def fitsKind (c : AVal) (k : TK) : Bool :=
  match c with
  | .str _ => k.isStr
  | _ => k.isSlice

/-- New memory: a variable of the call, or (where it is said so) a block of the heap. -/
def aNew (κ : Tmp → Bool) (dst : Option Tmp) (ls : Locs) (h : AHeap) (n : Nat) (cs : List AVal) : Option Out :=
  match dst with
  | some d => if κ d then some (.ptr n 0, ls, { h with blk := upd h.blk n (some cs) }) else if (lget ls d).isNone then some (.loc d 0, lset ls d cs, h) else none
  | none => none

def aOptInt (ev : Operand → AVal) : Option Operand → Option (IntKind × Option Int)
  | none => some (.i64, none)
  | some x => match ev x with
    | .int k i => some (k, some i)
    | _ => none

def kindKnown (P : Program) : TK → Bool
  | .struct fs => fieldsKnown P fs
  | .array _ e => (tiOf P e).isSome
  | _ => false

/-- A slice type's element. -/
def elemOf (P : Program) (ti : TI) : Option TI :=
  match ti.kind with
  | .slice e => tiOf P e
  | _ => none

/-- The zero of a type, as cells of one value each, as many as the type has. -/
def zeroOf (ti : TI) : Option (List AVal) :=
  match ti.zero with
  | some zs => if zs.length = ti.size ∧ allOne zs = true then some zs else none
  | none => none

def aBuiltin (P : Program) (κ : Tmp → Bool) (dst : Option Tmp) (ev : Operand → AVal) (ls : Locs) (h : AHeap) (n : Nat) (b : Builtin) (ts : List TypeId) (xs : List Operand) : Option Out :=
  match b, ts, xs with
  | .len, [t], [x] => (tiOf P t).bind fun ti => if fitsKind (ev x) ti.kind then (aLen (ev x)).map fun n => (.int .i64 n, ls, h) else none
  | .append, [t, tx], [x, y] =>
    (tiOf P t).bind fun ti => (elemOf P ti).bind fun te => (zeroOf te).bind fun _ => (tiOf P tx).bind fun tix =>
      if fitsKind (ev y) tix.kind then (aNews te.size (ev y)).bind fun ys => (aAppend te ((dst.map κ).getD false) h n (ev x) ys).map fun (v, h') => (v, ls, h') else none
  | .min, _, [x, y] => match ev x, ev y with
    | .int k a, .int _ b => some (.int k (if b < a then b else a), ls, h)
    | _, _ => none
  | .max, _, [x, y] => match ev x, ev y with
    | .int k a, .int _ b => some (.int k (if b > a then b else a), ls, h)
    | _, _ => none
  | _, _, _ => none

def aOp (P : Program) (κ : Tmp → Bool) (ev : Operand → AVal) (ls : Locs) (h : AHeap) (n : Nat) (dst : Option Tmp) (op : Op) : Option Out :=
  match op with
  | .move x | .assign x => some (ev x, ls, h)
  | .pick c x y => match ev c with
    | .bool t => some (if t then ev x else ev y, ls, h)
    | _ => none
  | .alloc t => (tiOf P t).bind fun ti => (zeroOf ti).bind fun zs => aNew κ dst ls h n zs
  | .box _ x => (ev x).cells.bind fun cs => aNew κ dst ls h n cs
  | .build t parts => (tiOf P t).bind fun ti => (zeroOf ti).bind fun zs =>
      if kindKnown P ti.kind then (aFill (aPlaces P ti) zs (vals ev parts.toList)).map fun cs => (.agg cs, ls, h) else none
  | .buildSlice t len parts => (tiOf P t).bind fun ti => (elemOf P ti).bind fun te => (zeroOf te).bind fun zs =>
      if len * te.size ≤ 16777216 then (aFillS te.size (List.replicate len zs) (vals ev parts.toList)).map fun ys =>
        (if (dst.map κ).getD false then (.ref n 0 len te.size, ls, { h with blk := upd h.blk n (some ys.flatten) })
         else (.list (some n) te.size ys, ls, { h with live := upd h.live n true })) else none
  | .load t x => (tiOf P t).bind fun ti => (aBehind ls h (ev x)).bind fun cs => (aOfCells ti cs).map fun v => (v, ls, h)
  | .store t x y => (tiOf P t).bind fun ti => (ev y).cells.bind fun ds => if ds.length = ti.size then (aStore h ls (ev x) ds).map fun (ls', h') => (.undef, ls', h') else none
  | .nilCheck x => match ev x with
    | .ptr β o => some (.ptr β o, ls, h)
    | .pin cs => some (.pin cs, ls, h)
    | .loc k o => some (.loc k o, ls, h)
    | _ => none
  | .binOp op t x y _ => (tiOf P t).bind fun ti => (aBin ti.kind op (ev x) (ev y)).map fun v => (v, ls, h)
  | .unOp op _ x => (aUn op (ev x)).map fun v => (v, ls, h)
  | .convert s t x => (tiOf P s).bind fun tis => (tiOf P t).bind fun ti =>
      match ev x with
      | .int k n => (aConv ti (.int k n)).map fun v => (v, ls, h)
      | .str s => (aConv ti (.str s)).map fun v => (v, ls, h)
      | c => (elemOf P tis).bind fun te => match te.kind with
        | .int .u8 => (aConv ti c).map fun v => (v, ls, h)
        | _ => none
  | .makeInterface t x => (tiOf P t).bind fun ti => if ti.kind.isIface || (ev x).isLoc then none else some (.iface t (ev x), ls, h)
  | .makeFunc fn first captured => if (first.toList.map ev).any AVal.isLoc || (captured.toList.map ev).any AVal.isLoc then none else some (.func fn (first.toList.map ev) (captured.toList.map ev), ls, h)
  | .makeSlice t l c => (tiOf P t).bind fun ti => (elemOf P ti).bind fun te => (zeroOf te).bind fun zs =>
      match ev l, ev c with
      | .int _ l, .int _ c =>
        if 0 ≤ l ∧ l ≤ c ∧ c ≤ 4294967296 ∧ te.bytes ≤ 4096 then
          some (if (dst.map κ).getD false then (.ref n 0 l.toNat te.size, ls, { h with blk := upd h.blk n (some (List.replicate l.toNat zs).flatten) })
            else (.list (some n) te.size (List.replicate l.toNat zs), ls, { h with live := upd h.live n true }))
        else none
      | _, _ => none
  | .slice t x lo hi none => (tiOf P t).bind fun ti => (aOptInt ev lo).bind fun l => (aOptInt ev hi).bind fun m =>
      if fitsKind (ev x) ti.kind then
        match ti.kind with
        | .str => (aSlice 0 (ev x) l.2 m.2).map fun v => (v, ls, h)
        | _ => (elemOf P ti).bind fun te => (aSlice te.size (ev x) l.2 m.2).map fun v => (v, ls, h)
      else none
  | .fieldAddr t x f => (tiOf P t).bind fun ti => match ti.kind with
    | .struct fs => (fs[f]?).bind fun (off, ft) => (tiOf P ft).bind fun tif => if tif.size = 0 then none else (aFieldAddr off (ev x)).map fun v => (v, ls, h)
    | _ => none
  | .field t x f => (tiOf P t).bind fun ti => match ti.kind, ev x with
    | .struct fs, .agg cs => (fs[f]?).bind fun (off, ft) => (tiOf P ft).bind fun tif => if off + tif.size ≤ cs.length then (aOfCells tif (cs.drop off)).map fun v => (v, ls, h) else none
    | _, _ => none
  | .indexAddr t x i => (tiOf P t).bind fun ti => (elemOf P ti).bind fun te => match ev i with
    | .int _ i => (aIndexAddr te.size (ev x) i).map fun v => (v, ls, h)
    | _ => none
  | .index t x i => (tiOf P t).bind fun ti => match ti.kind, ev x, ev i with
    | .str, .str s, .int _ i => (aStrIndex s i).map fun v => (v, ls, h)
    | _, _, _ => none
  | .extract x i => match ev x with
    | .tuple vs => (vs[i]?).map fun v => (v, ls, h)
    | _ => none
  | .call ⟨.builtin b, xs, ts⟩ => aBuiltin P κ dst ev ls h n b ts.toList xs.toList
  | _ => none

/-- What an operation's step does, and what holds behind it. -/
def Good (P : Program) (G : Ghost) (L : LMap) (w : World) (aa : AAct) (a : Act) (o : Oper) (c : AVal) (ls' : Locs) (h' : AHeap) : Prop :=
  ∃ x w' G' L', (execOp a.eval o).run P w = .ok x w' ∧ Ext G L w G' L' w' ∧ Inv G' h' w' ∧ ActRel G' L' w' ⟨aa.tmps, ls'⟩ a ∧ ∃ v, TR G' L' c v ∧ (x = .value v ∨ (x = .skip ∧ v = undef))

section
variable {P : Program} {G : Ghost} {L : LMap} {w : World} {aa : AAct} {a : Act} {h h' : AHeap} {o : Oper} {c : AVal} {ls' : Locs}

theorem good_of_done {s : Sem Value} (he : execOp a.eval o = (do pure (.value (← s)) : Sem Next)) (d : Done P G L w aa a s c ls' h') : Good P G L w aa a o c ls' h' := by
  obtain ⟨v, w', G', L', h1, h2, h3, h4, h5⟩ := d
  exact ⟨.value v, w', G', L', by rw [he]; simp [h1], h2, h3, h4, v, h5, .inl rfl⟩

theorem good_of_value {s : Sem Value} (i : Inv G h w) (r : ActRel G L w aa a) {v : Value} (he : execOp a.eval o = (do pure (.value (← s)) : Sem Next)) (hs : s.run P w = .ok v w) (hv : TR G L c v) : Good P G L w aa a o c aa.locs h :=
  good_of_done he ⟨v, w, G, L, hs, Ext.refl _ _ _, i, r, hv⟩

theorem zeroOf_some {ti : TI} {zs : List AVal} (h : zeroOf ti = some zs) : ti.zero = some zs ∧ zs.length = ti.size ∧ allOne zs = true := by
  unfold zeroOf at h
  split at h
  · split at h
    · rename_i hc; cases h; exact ⟨by assumption, hc.1, hc.2⟩
    · cases h
  · cases h

theorem elemOf_some {ti te : TI} (h : elemOf P ti = some te) : ∃ e, ti.kind = .slice e ∧ tiOf P e = some te := by
  unfold elemOf at h
  split at h
  · exact ⟨_, by assumption, h⟩
  · cases h

theorem fitsKind_ok {c : AVal} {k : TK} (h : fitsKind c k = true) : KindOf c k := by
  cases c <;> simp only [fitsKind] at h <;> first | exact TK.isSlice_iff h | exact TK.isStr_iff h

theorem fill_noLoc {place : Nat → Option (Nat × Nat)} : ∀ {parts : List (Nat × AVal)} {cs out : List AVal}, aFill place cs parts = some out → ∀ p ∈ parts, p.2.isLoc = false := by
  intro parts
  induction parts with
  | nil => intro _ _ _ p hp; simp at hp
  | cons q parts ih =>
    intro cs out h p hp
    obtain ⟨i, v⟩ := q
    simp only [aFill] at h
    split at h
    · rename_i off size vs h1 h2
      split at h
      · rcases List.mem_cons.1 hp with rfl | hp
        · cases v <;> simp [AVal.isLoc, AVal.cells] at h2 ⊢
        · exact ih h p hp
      · cases h
    · cases h

theorem fillS_noLoc {sz : Nat} : ∀ {parts : List (Nat × AVal)} {cs out : List (List AVal)}, aFillS sz cs parts = some out → ∀ p ∈ parts, p.2.isLoc = false := by
  intro parts
  induction parts with
  | nil => intro _ _ _ p hp; simp at hp
  | cons q parts ih =>
    intro cs out h p hp
    obtain ⟨i, v⟩ := q
    simp only [aFillS] at h
    split at h
    · rename_i vs h2
      split at h
      · rcases List.mem_cons.1 hp with rfl | hp
        · cases v <;> simp [AVal.isLoc, AVal.cells] at h2 ⊢
        · exact ih h p hp
      · cases h
    · cases h

theorem vals_rel (r : ActRel G L w aa a) (parts : List (Nat × Operand)) (hn : ∀ p ∈ vals (aEval aa.tmps) parts, p.2.isLoc = false) :
    ∀ (j : Nat) p q, (vals (aEval aa.tmps) parts)[j]? = some p → (parts.map fun (i, x) => (i, a.eval x))[j]? = some q → p.1 = q.1 ∧ VR G p.2 q.2 := by
  intro j p q h1 h2
  have hp := hn p (List.mem_of_getElem? h1)
  simp only [vals, List.getElem?_map] at h1 h2
  cases hj : parts[j]? with
  | none => rw [hj] at h1; cases h1
  | some x =>
    rw [hj] at h1 h2
    simp at h1 h2
    subst h1; subst h2
    exact ⟨rfl, (aEval_ok r x.2).plain hp⟩

theorem evs_rel (r : ActRel G L w aa a) (xs : List Operand) (hn : (xs.map (aEval aa.tmps)).any AVal.isLoc = false) : VRL G (xs.map (aEval aa.tmps)) (xs.map a.eval) := by
  refine ⟨by simp, fun j c v h1 h2 => ?_⟩
  have hc : c.isLoc = false := by
    have := List.any_eq_false.1 hn c (List.mem_of_getElem? h1)
    simpa using this
  simp only [List.getElem?_map] at h1 h2
  cases hj : xs[j]? with
  | none => rw [hj] at h1; cases h1
  | some x =>
    rw [hj] at h1 h2
    simp at h1 h2
    subst h1; subst h2
    exact (aEval_ok r x).plain hc

theorem new_ok {κ : Tmp → Bool} {n : Nat} {t : TypeId} (i : Inv G h w) (r : ActRel G L w aa a) (hb : G.blk n = none) (hr : G.row n = none) {cs : List AVal} {v : Value} (hv : VRL G cs v.cells.toList) (hone : ∀ c ∈ cs, c.one = true)
    {dst : Option Tmp} (hn : aNew κ dst aa.locs h n cs = some (c, ls', h')) : Done P G L w aa a (do pure (.pointer (some (← newVar t v))) : Sem Value) c ls' h' := by
  unfold aNew at hn
  split at hn
  · split at hn
    · cases hn; exact newVar_blk i r hb hr hv hone
    · split at hn
      · rename_i d _ hk; cases hn
        exact newVar_loc i r (by simpa using hk) hv hone
      · cases hn
  · cases hn

theorem builtin_ok {κ : Tmp → Bool} {n : Nat} (i : Inv G h w) (r : ActRel G L w aa a) (hb : G.blk n = none) (hr : G.row n = none) {b : Builtin} {xs : Array Operand} {ts : Array TypeId}
    (ho : o.op = .call ⟨.builtin b, xs, ts⟩) (hop : aBuiltin P κ o.dst (aEval aa.tmps) aa.locs h n b ts.toList xs.toList = some (c, ls', h')) : Good P G L w aa a o c ls' h' := by
  have hexec : ∀ (f : Sem Value), (builtin b ts o.type (xs.map fun | .const _ => true | _ => false) (xs.map a.eval) = (do pure (.value (← f)) : Sem Next)) → execOp a.eval o = (do pure (.value (← f)) : Sem Next) := by
    intro f hf
    unfold execOp
    rw [ho]
    simp only [resolve, invoke]
    exact hf
  unfold aBuiltin at hop
  split at hop
  · rename_i t x e1 e2
    have hts : ts = #[t] := by rw [← Array.toArray_toList (xs := ts), e1]
    have hxs : xs = #[x] := by rw [← Array.toArray_toList (xs := xs), e2]
    subst hts; subst hxs
    cases hti : tiOf P t with
    | none => rw [hti] at hop; cases hop
    | some ti =>
      rw [hti] at hop; simp only [Option.bind_some] at hop
      split at hop
      · rename_i hk
        cases hl : aLen (aEval aa.tmps x) with
        | none => rw [hl] at hop; cases hop
        | some m =>
          rw [hl] at hop; cases hop
          exact good_of_value i r (hexec (Builtin.len_ #[t] o.type #[a.eval x]) (by simp [builtin])) (len_ok hti (aEval_ok r x) (fitsKind_ok hk) hl w) (.inl .int)
      · cases hop
  · rename_i t tx x y e1 e2
    have hts : ts = #[t, tx] := by rw [← Array.toArray_toList (xs := ts), e1]
    have hxs : xs = #[x, y] := by rw [← Array.toArray_toList (xs := xs), e2]
    subst hts; subst hxs
    cases hti : tiOf P t with
    | none => rw [hti] at hop; cases hop
    | some ti =>
      rw [hti] at hop; simp only [Option.bind_some] at hop
      cases hte : elemOf P ti with
      | none => rw [hte] at hop; cases hop
      | some te =>
        rw [hte] at hop; simp only [Option.bind_some] at hop
        obtain ⟨e, hk, he⟩ := elemOf_some hte
        cases hz : zeroOf te with
        | none => rw [hz] at hop; cases hop
        | some zs =>
          rw [hz] at hop; simp only [Option.bind_some] at hop
          obtain ⟨z1, z2, z3⟩ := zeroOf_some hz
          cases htx : tiOf P tx with
          | none => rw [htx] at hop; cases hop
          | some tix =>
            rw [htx] at hop; simp only [Option.bind_some] at hop
            split at hop
            · rename_i hfk
              cases hy : aNews te.size (aEval aa.tmps y) with
              | none => rw [hy] at hop; cases hop
              | some ys =>
                rw [hy] at hop; simp only [Option.bind_some] at hop
                cases hap : aAppend te ((o.dst.map κ).getD false) h n (aEval aa.tmps x) ys with
                | none => rw [hap] at hop; cases hop
                | some out =>
                  rw [hap] at hop; cases hop
                  exact good_of_done (hexec (Builtin.append_ #[t, tx] o.type #[a.eval x, a.eval y]) (by simp [builtin]))
                    (append_ok hti hk he z1 z2 htx i r (aEval_ok r x) (aEval_ok r y) (fitsKind_ok hfk) hy hb hr hap)
            · cases hop
  · rename_i x y e2
    have hxs : xs = #[x, y] := by rw [← Array.toArray_toList (xs := xs), e2]
    subst hxs
    split at hop
    · rename_i k p k' q h1 h2
      cases hop
      have q1 := aEval_ok r x
      have q2 := aEval_ok r y
      rw [h1] at q1; rw [h2] at q2
      exact good_of_value i r (hexec (Builtin.min_ ts o.type #[a.eval x, a.eval y]) (by simp [builtin])) (by rw [q1.int, q2.int]; simp [Builtin.min_, Builtin.min2]) (.inl .int)
    · cases hop
  · rename_i x y e2
    have hxs : xs = #[x, y] := by rw [← Array.toArray_toList (xs := xs), e2]
    subst hxs
    split at hop
    · rename_i k p k' q h1 h2
      cases hop
      have q1 := aEval_ok r x
      have q2 := aEval_ok r y
      rw [h1] at q1; rw [h2] at q2
      exact good_of_value i r (hexec (Builtin.max_ ts o.type #[a.eval x, a.eval y]) (by simp [builtin])) (by rw [q1.int, q2.int]; simp [Builtin.max_, Builtin.max2]) (.inl .int)
    · cases hop
  · cases hop

end
end Go.Ab
end
/- The abstract machine's operations, all in one: the model's do what they say. -/
section
namespace Go.Ab

section
variable {P : Program} {G : Ghost} {L : LMap} {w : World} {aa : AAct} {a : Act} {h h' : AHeap} {o : Oper} {c : AVal} {ls' : Locs}

theorem optInt_ok (r : ActRel G L w aa a) {x : Option Operand} {k : IntKind} {i : Option Int} (h : aOptInt (aEval aa.tmps) x = some (k, i)) : x.map a.eval = optInt k i := by
  unfold aOptInt at h
  split at h
  · cases h; rfl
  · rename_i x
    split at h
    · rename_i k' i' he
      cases h
      have := aEval_ok r x
      rw [he] at this
      simp [optInt, this.int]
    · cases h

theorem op_ok {κ : Tmp → Bool} {n : Nat} (i : Inv G h w) (r : ActRel G L w aa a) (hb : G.blk n = none) (hr : G.row n = none)
    (hop : aOp P κ (aEval aa.tmps) aa.locs h n o.dst o.op = some (c, ls', h')) : Good P G L w aa a o c ls' h' := by
  have ev := fun x => aEval_ok r x
  cases ho : o.op <;> rw [ho] at hop <;> simp only [aOp, reduceCtorEq] at hop
  case move x =>
    cases hop
    exact ⟨.value (a.eval x), w, G, L, by unfold execOp; rw [ho]; rfl, Ext.refl _ _ _, i, r, _, ev x, .inl rfl⟩
  case assign x =>
    cases hop
    exact ⟨.value (a.eval x), w, G, L, by unfold execOp; rw [ho]; rfl, Ext.refl _ _ _, i, r, _, ev x, .inl rfl⟩
  case pick p x y =>
    split at hop
    · rename_i t ht; cases hop
      have e := ev p
      rw [ht] at e
      refine ⟨.value (if t then a.eval x else a.eval y), w, G, L, by unfold execOp; rw [ho]; simp [e.bool, asBool], Ext.refl _ _ _, i, r, _, ?_, .inl rfl⟩
      cases t
      · exact ev y
      · exact ev x
    · cases hop
  case alloc t =>
    cases hti : tiOf P t with
    | none => rw [hti] at hop; cases hop
    | some ti =>
      rw [hti] at hop; simp only [Option.bind_some] at hop
      cases hz : zeroOf ti with
      | none => rw [hz] at hop; cases hop
      | some zs =>
        rw [hz] at hop; simp only [Option.bind_some] at hop
        obtain ⟨z1, z2, z3⟩ := zeroOf_some hz
        obtain ⟨i1, d1, a1, a2, a3, a4, a5, a6⟩ := tiOf_some hti
        rw [z1] at a6
        cases hiz : i1.zero with
        | none => rw [hiz] at a6; cases a6
        | some z =>
          rw [hiz] at a6; simp at a6; subst a6
          have d := new_ok (P := P) (t := t) i r hb hr (zero_rel G z) (fun c hc => List.all_eq_true.1 z3 c hc) hop
          obtain ⟨v, w', G', L', q1, q2⟩ := d
          have hzero : (zeroValue t).run P w = .ok z w := by simp [zeroValue, typeInfo, a1, hiz]
          exact good_of_done (s := Instr.alloc t true (.tuple #[])) (by unfold execOp; rw [ho]) ⟨v, w', G', L', by rw [← q1]; simp [Instr.alloc, hzero], q2⟩
  case box t x =>
    cases hcs : (aEval aa.tmps x).cells with
    | none => rw [hcs] at hop; cases hop
    | some cs =>
      rw [hcs] at hop; simp only [Option.bind_some] at hop
      have hl : (aEval aa.tmps x).isLoc = false := by cases hx : aEval aa.tmps x <;> rw [hx] at hcs <;> simp [AVal.cells, AVal.isLoc] at hcs ⊢
      obtain ⟨k1, k2, k3⟩ := cells_ok ((ev x).plain hl) hcs
      refine good_of_done (s := Instr.box t (a.eval x)) (by unfold execOp; rw [ho]) ?_
      exact new_ok i r hb hr k1 k2 hop
  case build t parts =>
    cases hti : tiOf P t with
    | none => rw [hti] at hop; cases hop
    | some ti =>
      rw [hti] at hop; simp only [Option.bind_some] at hop
      cases hz : zeroOf ti with
      | none => rw [hz] at hop; cases hop
      | some zs =>
        rw [hz] at hop; simp only [Option.bind_some] at hop
        obtain ⟨z1, z2, z3⟩ := zeroOf_some hz
        split at hop
        · rename_i hkn
          cases hf : aFill (aPlaces P ti) zs (vals (aEval aa.tmps) parts.toList) with
          | none => rw [hf] at hop; cases hop
          | some out =>
            rw [hf] at hop; cases hop
            have hkind : (match ti.kind with | .struct fs => fieldsKnown P fs = true | .array _ e => (tiOf P e).isSome = true | _ => False) := by
              cases hk : ti.kind <;> rw [hk] at hkn <;> simp [kindKnown] at hkn ⊢ <;> exact hkn
            obtain ⟨z, q1, q2⟩ := build_ok hti z1 z3 hkind (parts := vals (aEval aa.tmps) parts.toList) (vs := parts.toList.map fun (i, x) => (i, a.eval x)) (by simp [vals]) (vals_rel r parts.toList (fill_noLoc hf)) hf w
            refine good_of_value (s := Instr.build t (parts.map fun (i, x) => (i, a.eval x))) i r (by unfold execOp; rw [ho]) ?_ (.inl q2)
            rw [← q1]; congr 2; apply Array.ext'; simp
        · cases hop
  case buildSlice t len parts =>
    cases hti : tiOf P t with
    | none => rw [hti] at hop; cases hop
    | some ti =>
      rw [hti] at hop; simp only [Option.bind_some] at hop
      cases hte : elemOf P ti with
      | none => rw [hte] at hop; cases hop
      | some te =>
        rw [hte] at hop; simp only [Option.bind_some] at hop
        obtain ⟨e, hk, he⟩ := elemOf_some hte
        cases hz : zeroOf te with
        | none => rw [hz] at hop; cases hop
        | some zs =>
          rw [hz] at hop; simp only [Option.bind_some] at hop
          obtain ⟨z1, z2, z3⟩ := zeroOf_some hz
          split at hop
          · rename_i hsz
            cases hf : aFillS te.size (List.replicate len zs) (vals (aEval aa.tmps) parts.toList) with
            | none => rw [hf] at hop; cases hop
            | some ys =>
              rw [hf] at hop; simp only [Option.map_some, Option.some.injEq] at hop
              obtain ⟨q1, q2⟩ := buildSlice_ok hti hk he z1 z2 z3 i r (parts := vals (aEval aa.tmps) parts.toList) (vs := parts.toList.map fun (i, x) => (i, a.eval x)) (by simp [vals]) (vals_rel r parts.toList (fillS_noLoc hf)) hsz hf hb hr
              have e1 : (parts.toList.map fun (i, x) => (i, a.eval x)).toArray = parts.map fun (i, x) => (i, a.eval x) := by apply Array.ext'; simp
              rw [e1] at q1 q2
              have hex : execOp a.eval o = (do pure (.value (← Instr.buildSlice t len (parts.map fun (i, x) => (i, a.eval x)))) : Sem Next) := by unfold execOp; rw [ho]
              split at hop
              · cases hop; exact good_of_done hex q2
              · cases hop; exact good_of_done hex q1
          · cases hop
  case load t x =>
    cases hti : tiOf P t with
    | none => rw [hti] at hop; cases hop
    | some ti =>
      rw [hti] at hop; simp only [Option.bind_some] at hop
      cases hcs : aBehind aa.locs h (aEval aa.tmps x) with
      | none => rw [hcs] at hop; cases hop
      | some cs =>
        rw [hcs] at hop; simp only [Option.bind_some] at hop
        cases hc : aOfCells ti cs with
        | none => rw [hc] at hop; cases hop
        | some v =>
          rw [hc] at hop; cases hop
          obtain ⟨b, off, q1, q2, us, q3, q4⟩ := behind_ok i r (ev x) hcs
          obtain ⟨v, q5, q6⟩ := load_ok (P := P) hti q3 q2 q4 hc
          exact good_of_value (s := Instr.loadAt t (a.eval x)) i r (by unfold execOp; rw [ho]) (by rw [q1]; simp [Instr.loadAt, Instr.sureAddr, q5]) (.inl q6)
  case store t x y =>
    cases hti : tiOf P t with
    | none => rw [hti] at hop; cases hop
    | some ti =>
      rw [hti] at hop; simp only [Option.bind_some] at hop
      cases hds : (aEval aa.tmps y).cells with
      | none => rw [hds] at hop; cases hop
      | some ds =>
        rw [hds] at hop; simp only [Option.bind_some] at hop
        split at hop
        · rename_i hsz
          cases hs : aStore h aa.locs (aEval aa.tmps x) ds with
          | none => rw [hs] at hop; cases hop
          | some out =>
            rw [hs] at hop; cases hop
            have hl : (aEval aa.tmps y).isLoc = false := by cases hx : aEval aa.tmps y <;> rw [hx] at hds <;> simp [AVal.cells, AVal.isLoc] at hds ⊢
            obtain ⟨w', q1, q2, q3, q4⟩ := store_ok (P := P) hti i r (ev x) ((ev y).plain hl) hds hsz hs
            exact ⟨.skip, w', G, L, by unfold execOp; rw [ho]; simp [q1], q2, q3, q4, undef, .inl .undef, .inr ⟨rfl, rfl⟩⟩
        · cases hop
  case nilCheck x =>
    have hpt : ∀ p : Addr, a.eval x = .pointer (some p) → (execOp a.eval o).run P w = .ok (.value (a.eval x)) w := by
      intro p hp
      unfold execOp; rw [ho, hp]; simp [hp]
    split at hop
    · rename_i β off he; cases hop
      have e := ev x
      rw [he] at e
      have e' := e.plain rfl
      have hp : ∃ p, a.eval x = .pointer (some p) := by
        generalize a.eval x = v at e'
        cases e'; exact ⟨_, rfl⟩
      obtain ⟨p, hp⟩ := hp
      exact ⟨_, w, G, L, hpt p hp, Ext.refl _ _ _, i, r, _, e, .inl rfl⟩
    · rename_i cs he; cases hop
      have e := ev x
      rw [he] at e
      have e' := e.plain rfl
      have hp : ∃ p, a.eval x = .pointer (some p) := by
        generalize a.eval x = v at e'
        cases e'; exact ⟨_, rfl⟩
      obtain ⟨p, hp⟩ := hp
      exact ⟨_, w, G, L, hpt p hp, Ext.refl _ _ _, i, r, _, e, .inl rfl⟩
    · rename_i k off he; cases hop
      have e := ev x
      rw [he] at e
      obtain ⟨b, q1, q2⟩ := e.locInv
      exact ⟨_, w, G, L, hpt _ q2, Ext.refl _ _ _, i, r, _, e, .inl rfl⟩
    · cases hop
  case binOp op t x y t' =>
    cases hti : tiOf P t with
    | none => rw [hti] at hop; cases hop
    | some ti =>
      rw [hti] at hop; simp only [Option.bind_some] at hop
      cases hv : aBin ti.kind op (aEval aa.tmps x) (aEval aa.tmps y) with
      | none => rw [hv] at hop; cases hop
      | some v =>
        rw [hv] at hop; cases hop
        obtain ⟨z, q1, q2⟩ := bin_ok (P := P) (x := x) (y := y) hti (ev x) (ev y) hv w
        exact good_of_value (s := do eqGuard op t x y (a.eval x) (a.eval y); binOp op t (a.eval x) (a.eval y)) i r (by unfold execOp; rw [ho]) q1 (.inl q2)
  case unOp op t x =>
    cases hv : aUn op (aEval aa.tmps x) with
    | none => rw [hv] at hop; cases hop
    | some v =>
      rw [hv] at hop; cases hop
      obtain ⟨z, q1, q2⟩ := un_ok (P := P) (ev x) hv w
      exact good_of_value (s := Op.unary op (a.eval x)) i r (by unfold execOp; rw [ho]) q1 (.inl q2)
  case convert s t x =>
    cases hts : tiOf P s with
    | none => rw [hts] at hop; cases hop
    | some tis =>
      rw [hts] at hop; simp only [Option.bind_some] at hop
      cases hti : tiOf P t with
      | none => rw [hti] at hop; cases hop
      | some ti =>
        rw [hti] at hop; simp only [Option.bind_some] at hop
        have hex : execOp a.eval o = (do pure (.value (← convert s t (a.eval x))) : Sem Next) := by unfold execOp; rw [ho]
        obtain ⟨i1, d1, a1, a2, a3, _⟩ := tiOf_some hts
        obtain ⟨i2, d2, b1, b2, b3, _⟩ := tiOf_some hti
        split at hop
        · rename_i k m he
          cases hv : aConv ti (.int k m) with
          | none => rw [hv] at hop; cases hop
          | some v =>
            rw [hv] at hop; cases hop
            have e := ev x
            rw [he] at e
            unfold aConv at hv
            split at hv <;> simp only [AVal.int.injEq, reduceCtorEq] at * <;> try (cases hv; done)
            rename_i k' _ m' hk' hm
            obtain ⟨rfl, rfl⟩ := hm
            cases hv
            have hd : d2 = .int k' := by rw [hk'] at b3; cases d2 <;> simp [tkOf] at b3; rw [b3]
            subst hd
            exact good_of_value i r hex (by rw [e.int]; simp [convert, run_underlying a2, run_underlying b2, Conv.intToInt]) (.inl .int)
        · rename_i str he
          cases hv : aConv ti (.str str) with
          | none => rw [hv] at hop; cases hop
          | some v =>
            rw [hv] at hop; cases hop
            have e := ev x
            rw [he] at e
            unfold aConv at hv
            split at hv <;> simp only [AVal.str.injEq, reduceCtorEq] at * <;> try (cases hv; done)
            rename_i str' hk' hm
            subst hm
            cases hv
            have hd : d2 = .string := by rw [hk'] at b3; cases d2 <;> simp [tkOf] at b3; rfl
            subst hd
            exact good_of_value i r hex (by rw [e.str]; simp [convert, run_underlying a2, run_underlying b2]) (.inl .str)
        · rename_i hn1 hn2
          cases hte : elemOf P tis with
          | none => rw [hte] at hop; cases hop
          | some te =>
            rw [hte] at hop; simp only [Option.bind_some] at hop
            obtain ⟨e, hk, he⟩ := elemOf_some hte
            split at hop
            · rename_i hu8
              cases hv : aConv ti (aEval aa.tmps x) with
              | none => rw [hv] at hop; cases hop
              | some v =>
                rw [hv] at hop; cases hop
                obtain ⟨z, q1, q2⟩ := conv_ok (P := P) hts hti (fun e' h' => by rw [hk] at h'; cases h'; exact ⟨te, he, hu8⟩) i r (ev x) (by
                  split
                  · exact ⟨e, hk⟩
                  · exact ⟨e, hk⟩
                  · trivial) hv
                exact good_of_value i r hex q1 (.inl q2)
            · cases hop
  case makeInterface t x =>
    cases hti : tiOf P t with
    | none => rw [hti] at hop; cases hop
    | some ti =>
      rw [hti] at hop; simp only [Option.bind_some] at hop
      split at hop
      · cases hop
      · rename_i hc; cases hop
        simp only [Bool.or_eq_true, not_or, Bool.not_eq_true] at hc
        obtain ⟨i1, d1, a1, a2, a3, _⟩ := tiOf_some hti
        refine good_of_value (s := Instr.makeInterface t (a.eval x)) (v := .iface t (a.eval x)) i r (by unfold execOp; rw [ho]) ?_ (.inl (.iface ((ev x).plain hc.2)))
        simp only [Instr.makeInterface, Sem.run_bind, run_underlying a2, Result.andThen_ok]
        cases d1 <;> simp [tkOf] at a3 <;> first | rfl | (rw [← a3] at hc; simp [TK.isIface] at hc)
  case makeFunc fn first captured =>
    split at hop
    · cases hop
    · rename_i hc; cases hop
      simp only [Bool.or_eq_true, not_or, Bool.not_eq_true] at hc
      have h1 := evs_rel r first.toList hc.1
      have h2 := evs_rel r captured.toList hc.2
      refine good_of_value (s := Instr.makeFunc fn (first.map a.eval) (captured.map a.eval)) (v := .func fn (first.map a.eval) (captured.map a.eval)) i r (by unfold execOp; rw [ho]) (by simp [Instr.makeFunc]) (.inl ?_)
      have := VR.func (G := G) (fn := fn) (first.toList.map a.eval) (captured.toList.map a.eval) h1.1 h1.2 h2.1 h2.2
      have e1 : (first.toList.map a.eval).toArray = first.map a.eval := by apply Array.ext'; simp
      have e2 : (captured.toList.map a.eval).toArray = captured.map a.eval := by apply Array.ext'; simp
      rw [e1, e2] at this
      exact this
  case makeSlice t l m =>
    cases hti : tiOf P t with
    | none => rw [hti] at hop; cases hop
    | some ti =>
      rw [hti] at hop; simp only [Option.bind_some] at hop
      cases hte : elemOf P ti with
      | none => rw [hte] at hop; cases hop
      | some te =>
        rw [hte] at hop; simp only [Option.bind_some] at hop
        obtain ⟨e, hk, he⟩ := elemOf_some hte
        cases hz : zeroOf te with
        | none => rw [hz] at hop; cases hop
        | some zs =>
          rw [hz] at hop; simp only [Option.bind_some] at hop
          obtain ⟨z1, z2, z3⟩ := zeroOf_some hz
          split at hop
          · rename_i kl l' kc c' hl hm
            split at hop
            · rename_i hcond
              obtain ⟨c1, c2, c3, c4⟩ := hcond
              obtain ⟨q1, q2⟩ := makeSlice_ok (P := P) hti hk he z1 z2 z3 i r (kl := kl) (kc := kc) c1 c2 c3 c4 hb hr
              have e1 := ev l
              have e2 := ev m
              rw [hl] at e1; rw [hm] at e2
              have hex : execOp a.eval o = (do pure (.value (← Instr.makeSlice t (.int kl l') (.int kc c'))) : Sem Next) := by unfold execOp; rw [ho]; simp only [e1.int, e2.int]
              simp only [Option.some.injEq] at hop
              split at hop
              · cases hop; exact good_of_done hex q2
              · cases hop; exact good_of_done hex q1
            · cases hop
          · cases hop
  case slice t x lo hi mx =>
    cases mx with
    | some _ => simp at hop
    | none =>
      simp only at hop
      cases hti : tiOf P t with
      | none => rw [hti] at hop; cases hop
      | some ti =>
        rw [hti] at hop; simp only [Option.bind_some] at hop
        cases hlo : aOptInt (aEval aa.tmps) lo with
        | none => rw [hlo] at hop; cases hop
        | some l =>
          rw [hlo] at hop; simp only [Option.bind_some] at hop
          cases hhi : aOptInt (aEval aa.tmps) hi with
          | none => rw [hhi] at hop; cases hop
          | some m =>
            rw [hhi] at hop; simp only [Option.bind_some] at hop
            obtain ⟨kl, li⟩ := l
            obtain ⟨kh, mi⟩ := m
            have q1 := optInt_ok r hlo
            have q2 := optInt_ok r hhi
            have hex : execOp a.eval o = (do pure (.value (← Instr.sliceAt t (a.eval x) (optInt kl li) (optInt kh mi) none)) : Sem Next) := by
              unfold execOp; rw [ho]; simp only [q1, q2, Option.map_none]
            split at hop
            · rename_i hfk
              have hko := fitsKind_ok hfk
              split at hop
              · rename_i hk
                cases hv : aSlice 0 (aEval aa.tmps x) li mi with
                | none => rw [hv] at hop; cases hop
                | some v =>
                  rw [hv] at hop; cases hop
                  obtain ⟨z, q3, q4⟩ := slice_ok (P := P) (e := 0) hti (.inl hk) kl kh (ev x) hko hv w
                  exact good_of_value i r hex q3 (.inl q4)
              · rename_i hns
                cases hte : elemOf P ti with
                | none => rw [hte] at hop; cases hop
                | some te =>
                  rw [hte] at hop; simp only [Option.bind_some] at hop
                  obtain ⟨e, hk, he⟩ := elemOf_some hte
                  cases hv : aSlice te.size (aEval aa.tmps x) li mi with
                  | none => rw [hv] at hop; cases hop
                  | some v =>
                    rw [hv] at hop; cases hop
                    obtain ⟨z, q3, q4⟩ := slice_ok (P := P) (e := e) (sz := te.size) hti (.inr ⟨hk, te, he, rfl⟩) kl kh (ev x) hko hv w
                    exact good_of_value i r hex q3 (.inl q4)
            · cases hop
  case fieldAddr t x f =>
    cases hti : tiOf P t with
    | none => rw [hti] at hop; cases hop
    | some ti =>
      rw [hti] at hop; simp only [Option.bind_some] at hop
      split at hop
      · rename_i fs hk
        cases hf : fs[f]? with
        | none => rw [hf] at hop; cases hop
        | some of =>
          obtain ⟨off, ft⟩ := of
          rw [hf] at hop; simp only [Option.bind_some] at hop
          cases hft : tiOf P ft with
          | none => rw [hft] at hop; cases hop
          | some tif =>
            rw [hft] at hop; simp only [Option.bind_some] at hop
            split at hop
            · cases hop
            · rename_i hsz
              cases hv : aFieldAddr off (aEval aa.tmps x) with
              | none => rw [hv] at hop; cases hop
              | some v =>
                rw [hv] at hop; cases hop
                obtain ⟨z, q1, q2⟩ := fieldAddr_ok (P := P) hti hk hf hft hsz (ev x) hv w
                exact good_of_value (s := Instr.fieldAt t (a.eval x) f) i r (by unfold execOp; rw [ho]) q1 q2
      · cases hop
  case field t x f =>
    cases hti : tiOf P t with
    | none => rw [hti] at hop; cases hop
    | some ti =>
      rw [hti] at hop; simp only [Option.bind_some] at hop
      split at hop
      · rename_i fs cs hk hx
        cases hf : fs[f]? with
        | none => rw [hf] at hop; cases hop
        | some of =>
          obtain ⟨off, ft⟩ := of
          rw [hf] at hop; simp only [Option.bind_some] at hop
          cases hft : tiOf P ft with
          | none => rw [hft] at hop; cases hop
          | some tif =>
            rw [hft] at hop; simp only [Option.bind_some] at hop
            split at hop
            · rename_i hoff
              cases hv : aOfCells tif (cs.drop off) with
              | none => rw [hv] at hop; cases hop
              | some v =>
                rw [hv] at hop; cases hop
                have e := ev x
                rw [hx] at e
                obtain ⟨z, q1, q2⟩ := field_ok (P := P) hti hk hf hft e hoff hv w
                exact good_of_value (s := Instr.field t (a.eval x) f) i r (by unfold execOp; rw [ho]) q1 (.inl q2)
            · cases hop
      · cases hop
  case indexAddr t x ix =>
    cases hti : tiOf P t with
    | none => rw [hti] at hop; cases hop
    | some ti =>
      rw [hti] at hop; simp only [Option.bind_some] at hop
      cases hte : elemOf P ti with
      | none => rw [hte] at hop; cases hop
      | some te =>
        rw [hte] at hop; simp only [Option.bind_some] at hop
        obtain ⟨e, hk, he⟩ := elemOf_some hte
        split at hop
        · rename_i k j hj
          cases hv : aIndexAddr te.size (aEval aa.tmps x) j with
          | none => rw [hv] at hop; cases hop
          | some v =>
            rw [hv] at hop; cases hop
            have e1 := ev ix
            rw [hj] at e1
            obtain ⟨z, q1, q2⟩ := indexAddr_ok (P := P) hti hk he (k := k) (ev x) hv w
            exact good_of_value (s := Instr.indexAt t (a.eval x) (.int k j)) i r (by unfold execOp; rw [ho]; simp only [e1.int]) q1 (.inl q2)
        · cases hop
  case index t x ix =>
    cases hti : tiOf P t with
    | none => rw [hti] at hop; cases hop
    | some ti =>
      rw [hti] at hop; simp only [Option.bind_some] at hop
      split at hop
      · rename_i s k j hk hx hj
        cases hv : aStrIndex s j with
        | none => rw [hv] at hop; cases hop
        | some v =>
          rw [hv] at hop; cases hop
          have e1 := ev ix
          have e2 := ev x
          rw [hj] at e1; rw [hx] at e2
          obtain ⟨z, q1, q2⟩ := strIndex_ok (P := P) hti hk (k := k) hv w G
          exact good_of_value (s := Instr.index t (.string s) (.int k j)) i r (by unfold execOp; rw [ho]; simp only [e1.int, e2.str]) q1 (.inl q2)
      · cases hop
  case extract x j =>
    split at hop
    · rename_i vs hx
      cases hv : vs[j]? with
      | none => rw [hv] at hop; cases hop
      | some v =>
        rw [hv] at hop; cases hop
        have e := ev x
        rw [hx] at e
        have e' := e.plain rfl
        generalize hu : a.eval x = u at e'
        cases e' with
        | tuple us hlen hr =>
          obtain ⟨z, q1, q2⟩ := VRL.get (vs := us) ⟨hlen, hr⟩ hv
          exact good_of_value (s := Instr.extract (.tuple us.toArray) j) i r (by unfold execOp; rw [ho]; simp only [hu]) (by simp [Instr.extract, q1]) (.inl q2)
    · cases hop
  case call cl =>
    obtain ⟨callee, xs, ts⟩ := cl
    cases callee with
    | builtin b => exact builtin_ok i r hb hr ho hop
    | _ => simp at hop
end
end Go.Ab
end
/- The abstract machine's sequences of operations, calls and functions: that the model's do what they say. -/
section
namespace Go.Ab

/-- A call's contract. -/
def ACalls (P : Program) (f : FuncId) (args : List AVal) (h : AHeap) (R : AVal → AHeap → Prop) : Prop :=
  ∀ G w vs, Inv G h w → VRL G args vs → Calls P f vs.toArray w fun e w' => ∃ v G' r h', e = .returned v ∧ Ext G noL w G' noL w' ∧ Inv G' h' w' ∧ VR G' r v ∧ R r h'

theorem ACalls.mono {P : Program} {f : FuncId} {args : List AVal} {h : AHeap} {R R' : AVal → AHeap → Prop} (k : ACalls P f args h R) (hr : ∀ r h', R r h' → R' r h') : ACalls P f args h R' :=
  fun G w vs i a => (k G w vs i a).mono fun _ _ ⟨v, G', r, h', e, x, j, c, q⟩ => ⟨v, G', r, h', e, x, j, c, hr _ _ q⟩

/-- Less is known. -/
def AVal.Le (c d : AVal) : Prop := ∀ G v, VR G c v → VR G d v
def AHeap.Le (h k : AHeap) : Prop := (∀ β cs, k.blk β = some cs → h.blk β = some cs) ∧ (∀ ρ, k.live ρ = true → h.live ρ = true)

theorem Inv.weak {G h k w} (i : Inv G h w) (l : h.Le k) : Inv G k w :=
  ⟨i.claims, fun β cs hc => i.blks β cs (l.1 β cs hc), fun ρ hρ => i.rows ρ (l.2 ρ hρ), i.supply, i.owned⟩

theorem ACalls.weaken {P : Program} {f : FuncId} {args : List AVal} {h : AHeap} {R R' : AVal → AHeap → Prop} (k : ACalls P f args h R) (hr : ∀ r h', R r h' → ∃ r₂ h₂, r.Le r₂ ∧ h'.Le h₂ ∧ R' r₂ h₂) : ACalls P f args h R' :=
  fun G w vs i a => (k G w vs i a).mono fun _ _ ⟨v, G', r, h', e, x, j, c, q⟩ => by
    obtain ⟨r₂, h₂, l1, l2, q₂⟩ := hr r h' q
    exact ⟨v, G', r₂, h₂, e, x, j.weak l2, l1 _ _ c, q₂⟩

/-- A function of the program that is entered when it is called. -/
def Callable (P : Program) (f : FuncId) : Prop := ∃ fn, P.funcs[f]? = some fn ∧ (fn.name == "runtime.NumGoroutine") = false ∧ fn.body.isNone = false

theorem run_callFunc {P : Program} {f : FuncId} (h : Callable P f) (args : Array Value) (w : World) : (callFunc f args).run P w = .ok (.enter f args) w := by
  obtain ⟨fn, h1, h2, h3⟩ := h
  simp only [callFunc, Sem.run_bind, run_program, Result.andThen_ok, h1, h2, h3, Bool.false_eq_true, if_false]
  rfl

/-- Whether a guard lets an operation run. -/
def aWanted (ops : List Oper) (tmps : List AVal) (o : Oper) : Option Bool :=
  match o.guard with
  | none => some true
  | some (j, want) => match (ops[j]?).bind (·.dst) with
    | none => none
    | some d => match tmps[d]? with
      | some (.bool b) => some (b == want)
      | some .undef => some false
      | _ => none

theorem wanted_ok {ops : List Oper} {G L w aa a} (r : ActRel G L w aa a) {o : Oper} {b : Bool} (h : aWanted ops aa.tmps o = some b) : Region.wanted o (yielded ops.toArray a.tmps) = b := by
  unfold aWanted at h
  split at h
  · rename_i hg; cases h; simp [Region.wanted, hg]
  · rename_i j want hg
    split at h
    · cases h
    · rename_i d hd
      have hd' : (ops.toArray[j]?).bind (·.dst) = some d := by simpa using hd
      split at h
      · rename_i t ht; cases h
        have hi := (List.getElem?_eq_some_iff.1 ht).1
        have hv : a.tmps[d]? = some (a.tmps[d]'(by rw [← r.size]; exact hi)) := Array.getElem?_eq_getElem (by rw [← r.size]; exact hi)
        have e := (r.tmps d _ _ ht hv).bool
        rw [e] at hv
        have hy : yielded ops.toArray a.tmps j = some t := by unfold yielded; rw [hd', Option.bind_some, hv]
        unfold Region.wanted
        rw [hg]
        simp only [hy]
        cases t <;> cases want <;> rfl
      · rename_i ht; cases h
        have hi := (List.getElem?_eq_some_iff.1 ht).1
        have hv : a.tmps[d]? = some (a.tmps[d]'(by rw [← r.size]; exact hi)) := Array.getElem?_eq_getElem (by rw [← r.size]; exact hi)
        have e := (r.tmps d _ _ ht hv).plain rfl
        generalize a.tmps[d]'(by rw [← r.size]; exact hi) = v at e hv
        cases e
        have hy : yielded ops.toArray a.tmps j = none := by unfold yielded; rw [hd', Option.bind_some, hv]
        unfold Region.wanted
        rw [hg]
        simp only [hy]
        cases want <;> rfl
      · cases h

def W {α : Type} (m : Option α) (k : α → Prop) : Prop := ∃ x, m = some x ∧ k x

/-- A yes and a no, each by itself. -/
def splitBool (c : AVal) (k : AVal → Prop) : Prop :=
  match c with
  | .bool b => (b = true → k (.bool true)) ∧ (b = false → k (.bool false))
  | c => k c

/-- Whether an operation takes a new number. -/
def allocates (κ : Tmp → Bool) (dst : Option Tmp) : Op → Bool
  | .alloc _ | .box _ _ => (dst.map κ).getD false
  | .buildSlice _ _ _ | .makeSlice _ _ _ => true
  | .call ⟨.builtin .append, _, _⟩ => true
  | _ => false

def isTest : Op → Bool
  | .binOp op _ _ _ _ => match op with
    | .eql | .neq | .lss | .leq | .gtr | .geq => true
    | _ => false
  | _ => false

/-- One operation. -/
def stepW (P : Program) (κ : Tmp → Bool) (o : Oper) (aa : AAct) (h : AHeap) (k : AAct → AHeap → Prop) : Prop :=
  match o.op with
  | .call ⟨.value f, args, _⟩ => match aEval aa.tmps f with
    | .func (.func fid) first captured => (args.toList.map (aEval aa.tmps)).any AVal.isLoc = false ∧ Callable P fid ∧
        ACalls P fid (first ++ args.toList.map (aEval aa.tmps) ++ captured) h fun r h' => k (aPut aa o.dst r) h'
    | _ => False
  | op =>
    if allocates κ o.dst op then ∀ n, h.blk n = none → h.live n = false → W (aOp P κ (aEval aa.tmps) aa.locs h n o.dst op) fun x => k (aPut { aa with locs := x.2.1 } o.dst x.1) x.2.2
    else W (aOp P κ (aEval aa.tmps) aa.locs h 0 o.dst op) fun x =>
      if isTest op then splitBool x.1 fun c => k (aPut { aa with locs := x.2.1 } o.dst c) x.2.2
      else k (aPut { aa with locs := x.2.1 } o.dst x.1) x.2.2

/-- Operations in a row. -/
def RL (P : Program) (κ : Tmp → Bool) (ops : List Oper) (K : AAct → AHeap → Prop) : List Oper → AAct → AHeap → Prop
  | [], aa, h => K aa h
  | o :: rest, aa, h => match aWanted ops aa.tmps o with
    | none => False
    | some false => RL P κ ops K rest (aPut aa o.dst .undef) h
    | some true => stepW P κ o aa h fun aa' h' => RL P κ ops K rest aa' h'

section
variable {P : Program} {κ : Tmp → Bool}

theorem aNew_number {ls : Locs} {h : AHeap} {dst : Option Tmp} (ha : (dst.map κ).getD false = false) (n m : Nat) (cs : List AVal) : aNew κ dst ls h n cs = aNew κ dst ls h m cs := by
  cases dst with
  | none => rfl
  | some d => simp at ha; simp [aNew, ha]

/-- Operations that take no number take none. -/
theorem aOp_number {ev : Operand → AVal} {ls : Locs} {h : AHeap} {dst : Option Tmp} {op : Op} (ha : allocates κ dst op = false) (n m : Nat) : aOp P κ ev ls h n dst op = aOp P κ ev ls h m dst op := by
  cases op with
  | slice t x lo hi mx => cases mx <;> rfl
  | alloc t =>
    simp only [aOp]
    congr 1; funext ti; congr 1; funext zs
    exact aNew_number ha n m zs
  | box t x =>
    simp only [aOp]
    congr 1; funext cs
    exact aNew_number ha n m cs
  | call c =>
    obtain ⟨callee, xs, ts⟩ := c
    cases callee with
    | builtin b =>
      cases b <;> first
        | rfl
        | (simp [allocates] at ha; done)
        | (simp only [aOp, aBuiltin]; split <;> first | rfl | (rename_i hb _ _; simp at hb))
    | _ => rfl
  | _ => first | rfl | simp [allocates] at ha

theorem isLoc_func_no {c : AVal} {fn : Fn} {a b : List AVal} (h : c = .func fn a b) : c.isLoc = false := by subst h; rfl

theorem ext_noL {G G' : Ghost} {w w' : World} (x : Ext G noL w G' noL w') (L : LMap) : Ext G L w G' L w' :=
  ⟨x.le, fun k _ h => .inl ⟨k, h⟩, x.size, fun b hb ho _ => x.keep b hb ho (fun k => by simp [noL]), x.os, x.tape, x.output⟩

theorem act_noL {G G' : Ghost} {L : LMap} {w w' : World} {aa : AAct} {a : Act} (r : ActRel G L w aa a) (x : Ext G noL w G' noL w') : ActRel G' L w' aa a :=
  ⟨r.defers, r.size, fun i c v h1 h2 => (r.tmps i c v h1 h2).le x.le, fun k cs hk => by
    obtain ⟨b, vs, T, h1, h2, h3, h4, h5, h6⟩ := r.locs.cells k cs hk
    obtain ⟨q1, q2, q3⟩ := x.keep b (lt_of_block h4) h2 (fun k => by simp [noL])
    exact ⟨b, vs, T, h1, q1, fun o => by rw [q3 o]; exact h3 o, by rw [q2]; exact h4, h5.le x.le, h6⟩, r.locs.dom, r.locs.inj⟩

theorem splitBool_ok {G L c v} {k : AVal → Prop} (h : splitBool c k) (hv : TR G L c v) : ∃ d, TR G L d v ∧ k d := by
  unfold splitBool at h
  split at h
  · rename_i b
    cases b
    · exact ⟨_, hv, h.2 rfl⟩
    · exact ⟨_, hv, h.1 rfl⟩
  · exact ⟨c, hv, h⟩

/-- One operation: in the model's terms. -/
theorem stepW_ok {o : Oper} {aa : AAct} {h : AHeap} {k : AAct → AHeap → Prop} (hs : stepW P κ o aa h k) {G L w a} (i : Inv G h w) (r : ActRel G L w aa a) {next : Act → World → Prop} {Q : Exit → Act → World → Prop}
    (hk : ∀ G' L' w' aa' a' h', Ext G L w G' L' w' → Inv G' h' w' → ActRel G' L' w' aa' a' → k aa' h' → next a' w') : o.wp P a w next Q := by
  obtain ⟨N, hN⟩ := i.supply
  have hb := (hN N (Nat.le_refl _)).1
  have hr := (hN N (Nat.le_refl _)).2
  have hfr := i.fresh hb hr
  have plain : ∀ c ls' h', aOp P κ (aEval aa.tmps) aa.locs h N o.dst o.op = some (c, ls', h') → (∃ d, (∀ G L v, TR G L c v → TR G L d v ∨ ∃ d', TR G L d' v ∧ k (aPut { aa with locs := ls' } o.dst d') h') ∧ k (aPut { aa with locs := ls' } o.dst d) h') → o.wp P a w next Q := by
    intro c ls' h' hop ⟨d, hd, hk0⟩
    obtain ⟨x, w', G', L', q1, q2, q3, q4, v, q5, q6⟩ := op_ok (P := P) i r hb hr hop
    unfold Oper.wp
    rw [q1]
    have fin : ∀ d', TR G' L' d' v → k (aPut { aa with locs := ls' } o.dst d') h' → next (a.put o.dst v) w' := fun d' e1 e2 => hk G' L' w' _ _ h' q2 q3 (aPut_ok q4 o.dst e1) e2
    have fin' : next (a.put o.dst v) w' := by
      rcases hd G' L' v q5 with e | ⟨d', e1, e2⟩
      · exact fin d e hk0
      · exact fin d' e1 e2
    rcases q6 with rfl | ⟨rfl, rfl⟩
    · exact fin'
    · exact fin'
  unfold stepW at hs
  split at hs
  · rename_i f args ts ho
    split at hs
    · rename_i fid first captured hf
      obtain ⟨h1, h2, h3⟩ := hs
      have ef := (aEval_ok r f)
      rw [hf] at ef
      have ef' := ef.plain rfl
      generalize hu : a.eval f = u at ef'
      cases ef' with
      | func vs us l1 v1 l2 v2 =>
        have hargs := evs_rel r args.toList h1
        have hall : VRL G (first ++ args.toList.map (aEval aa.tmps) ++ captured) (vs ++ args.toList.map a.eval ++ us) :=
          (VRL.append ⟨l1, v1⟩ hargs).append ⟨l2, v2⟩
        have hrun : (execOp a.eval o).run P w = .ok (.enter fid (vs ++ args.toList.map a.eval ++ us).toArray) w := by
          unfold execOp
          rw [ho]
          simp only [resolve, hu, Deferred.ofValue, Sem.run_bind, Sem.run_pure, Result.andThen_ok, invoke]
          rw [run_callFunc h2]
          congr 2
          apply Array.ext'
          simp
        unfold Oper.wp
        rw [hrun]
        refine (h3 G w _ i hall).mono ?_
        rintro e w' ⟨v, G', rv, h', rfl, x, i', c, q⟩
        exact hk G' L w' _ _ h' (ext_noL x L) i' (aPut_ok (act_noL r x) o.dst (.inl c)) q
    · exact hs.elim
  · rename_i op hno
    split at hs
    · obtain ⟨⟨c, ls', h'⟩, e1, e2⟩ := hs N hfr.1 hfr.2
      exact plain c ls' h' e1 ⟨c, fun _ _ _ e => .inl e, e2⟩
    · rename_i ha
      obtain ⟨⟨c, ls', h'⟩, e1, e2⟩ := hs
      rw [aOp_number (by simpa using ha) 0 N] at e1
      simp only at e2
      split at e2
      · cases c with
        | bool b =>
          simp only [splitBool] at e2
          cases b
          · exact plain _ ls' h' e1 ⟨.bool false, fun _ _ _ e => .inl e, e2.2 rfl⟩
          · exact plain _ ls' h' e1 ⟨.bool true, fun _ _ _ e => .inl e, e2.1 rfl⟩
        | _ => exact plain _ ls' h' e1 ⟨_, fun _ _ _ e => .inl e, e2⟩
      · exact plain c ls' h' e1 ⟨c, fun _ _ _ e => .inl e, e2⟩

theorem RL_ok {ops : List Oper} {K : AAct → AHeap → Prop} {Q : Exit → Act → World → Prop} : ∀ (l : List Oper) (aa : AAct) (h : AHeap), RL P κ ops K l aa h → ∀ {G L w a}, Inv G h w → ActRel G L w aa a →
    (∀ G' L' w' aa' a' h', Ext G L w G' L' w' → Inv G' h' w' → ActRel G' L' w' aa' a' → K aa' h' → Q .normal a' w') → wpList P ops.toArray Q l a w
  | [], aa, h, hs, G, L, w, a, i, r, hq => hq G L w aa a h (Ext.refl _ _ _) i r hs
  | o :: rest, aa, h, hs, G, L, w, a, i, r, hq => by
    unfold RL at hs
    split at hs
    · exact hs.elim
    · rename_i hw
      unfold wpList
      rw [if_neg (by rw [wanted_ok r hw]; simp)]
      exact RL_ok rest _ _ hs i (aPut_ok r o.dst (.inl .undef)) hq
    · rename_i hw
      unfold wpList
      rw [if_pos (wanted_ok r hw)]
      refine .inl (stepW_ok hs i r (fun G' L' w' aa' a' h' x i' r' hk => ?_))
      exact RL_ok rest aa' h' hk i' r' (fun G₂ L₂ w₂ aa₂ a₂ h₂ x₂ i₂ r₂ k₂ => hq G₂ L₂ w₂ aa₂ a₂ h₂ (x.trans x₂) i₂ r₂ k₂)

end
end Go.Ab
end
/- The abstract machine's code and functions: that the model's do what they say. -/
section
namespace Go.Ab

/-- What a function hands back. -/
def aResult (P : Program) (aa : AAct) (h : AHeap) : ResultVar → Option AVal
  | .tmp t => let v := aa.tmps.getD t .undef
    if v.isLoc then none else some v
  | .cell a t => (tiOf P t).bind fun ti => (aBehind aa.locs h (aa.tmps.getD a .undef)).bind fun cs => aOfCells ti cs

def aResultsL (P : Program) (aa : AAct) (h : AHeap) : List ResultVar → Option (List AVal)
  | [] => some []
  | x :: xs => (aResult P aa h x).bind fun v => (aResultsL P aa h xs).map fun vs => v :: vs

def aResults (P : Program) (rs : List ResultVar) (aa : AAct) (h : AHeap) : Option AVal :=
  match rs with
  | [x] => aResult P aa h x
  | xs => (aResultsL P aa h xs).map .tuple

/-- Behind a function's body. -/
def retPost (P : Program) (rs : List ResultVar) (R : AVal → AHeap → Prop) : Exit → AAct → AHeap → Prop
  | .normal, aa, h | .ret, aa, h => W (aResults P rs aa h) fun r => R r h
  | _, _, _ => False

section
variable {P : Program} {G : Ghost} {L : LMap} {w : World} {aa : AAct} {a : Act} {h : AHeap}

theorem result_ok (i : Inv G h w) (r : ActRel G L w aa a) {x : ResultVar} {c : AVal} (hx : aResult P aa h x = some c) :
    ∃ v, (match x with | .tmp t => pure (a.tmps.getD t undef) | .cell p t => do loadVar t (← asAddr (a.tmps.getD p undef)) : Sem Value).run P w = .ok v w ∧ VR G c v := by
  cases x with
  | tmp t =>
    simp only [aResult] at hx
    split at hx
    · cases hx
    · rename_i hl; cases hx
      have := aEval_ok r (.tmp t)
      simp only [aEval, Act.eval] at this
      exact ⟨_, rfl, this.plain (by simpa using hl)⟩
  | cell p t =>
    simp only [aResult] at hx
    cases hti : tiOf P t with
    | none => rw [hti] at hx; cases hx
    | some ti =>
      rw [hti] at hx; simp only [Option.bind_some] at hx
      cases hcs : aBehind aa.locs h (aa.tmps.getD p .undef) with
      | none => rw [hcs] at hx; cases hx
      | some cs =>
        rw [hcs] at hx; simp only [Option.bind_some] at hx
        have e := aEval_ok r (.tmp p)
        simp only [aEval, Act.eval] at e
        obtain ⟨b, off, q1, q2, us, q3, q4⟩ := behind_ok i r e hcs
        obtain ⟨v, q5, q6⟩ := load_ok (P := P) hti q3 q2 q4 hx
        exact ⟨v, by simp [q1, asAddr, q5], q6⟩

theorem resultsL_ok (i : Inv G h w) (r : ActRel G L w aa a) : ∀ {xs : List ResultVar} {cs : List AVal}, aResultsL P aa h xs = some cs →
    ∃ vs, (xs.mapM fun | .tmp t => pure (a.tmps.getD t undef) | .cell p t => do loadVar t (← asAddr (a.tmps.getD p undef)) : Sem (List Value)).run P w = .ok vs w ∧ VRL G cs vs ∧ vs.length = xs.length
  | [], cs, h0 => by simp [aResultsL] at h0; subst h0; exact ⟨[], by simp, VRL.nil, rfl⟩
  | x :: xs, cs, h0 => by
    simp only [aResultsL] at h0
    cases h1 : aResult P aa h x with
    | none => rw [h1] at h0; cases h0
    | some c =>
      rw [h1] at h0; simp only [Option.bind_some] at h0
      cases h2 : aResultsL P aa h xs with
      | none => rw [h2] at h0; cases h0
      | some ds =>
        rw [h2] at h0; cases h0
        obtain ⟨v, q1, q2⟩ := result_ok (P := P) i r h1
        obtain ⟨vs, q3, q4, q5⟩ := resultsL_ok i r h2
        refine ⟨v :: vs, ?_, VRL.cons q2 q4, by simp [q5]⟩
        rw [List.mapM_cons, Sem.run_bind, q1]
        simp only [Result.andThen_ok, Sem.run_bind, q3, Sem.run_pure]

theorem results_ok (i : Inv G h w) (r : ActRel G L w aa a) {fn : Func} {c : AVal} (hx : aResults P fn.results.toList aa h = some c) : ∃ v, (results fn a.tmps).run P w = .ok v w ∧ VR G c v := by
  have key : ∀ vs : List Value, (fn.results.toList.mapM fun | .tmp t => pure (a.tmps.getD t undef) | .cell p t => do loadVar t (← asAddr (a.tmps.getD p undef)) : Sem (List Value)).run P w = .ok vs w →
      (results fn a.tmps).run P w = .ok (if h : vs.length = 1 then vs[0] else .tuple vs.toArray) w := by
    intro vs hv
    unfold results
    rw [Array.mapM_eq_mapM_toList]
    simp only [Sem.run_bind, Sem.run_map]
    erw [hv]
    simp
  unfold aResults at hx
  split at hx
  · rename_i x hl
    obtain ⟨v, q1, q2⟩ := result_ok (P := P) i r hx
    refine ⟨v, ?_, q2⟩
    have := key [v] (by
      rw [hl, List.mapM_cons, Sem.run_bind, q1]
      simp)
    simpa using this
  · rename_i xs hne
    cases h2 : aResultsL P aa h fn.results.toList with
    | none => rw [h2] at hx; cases hx
    | some ds =>
      rw [h2] at hx; cases hx
      obtain ⟨vs, q3, q4, q5⟩ := resultsL_ok i r h2
      refine ⟨.tuple vs.toArray, ?_, .tuple vs q4.1 q4.2⟩
      have := key vs q3
      rw [dif_neg (fun e => by
        rw [q5] at e
        match hh : fn.results.toList, e with
        | [x], _ => exact hne x hh)] at this
      exact this
end

/-- A function's contract, out of its body. -/
theorem acalls_of {P : Program} {f : FuncId} {fn : Func} {c : Code} {args : List AVal} {h : AHeap} {R : AVal → AHeap → Prop} (hf : P.funcs[f]? = some fn) (hb : fn.body = some c) 
    (k : AWp P c (retPost P fn.results.toList R) ⟨args ++ List.replicate (fn.ntmps - args.length) .undef, []⟩ h) : ACalls P f args h R := by
  intro G w vs i hv
  refine calls_of_wp hf hb ?_
  have r : ActRel G noL w ⟨args ++ List.replicate (fn.ntmps - args.length) .undef, []⟩ { tmps := vs.toArray ++ Array.replicate (fn.ntmps - vs.toArray.size) undef, defers := [] } := by
    refine ⟨rfl, by simp [hv.1], fun j d v h1 h2 => .inl ?_, ⟨fun k cs hk => by simp [lget] at hk, fun k b hk => by simp [noL] at hk, fun k j b hk => by simp [noL] at hk⟩⟩
    by_cases hj : j < args.length
    · rw [List.getElem?_append_left hj] at h1
      rw [Array.getElem?_append_left (by simp [← hv.1, hj])] at h2
      exact hv.2 j d v h1 (by simpa using h2)
    · rw [List.getElem?_append_right (by omega), List.getElem?_replicate] at h1
      rw [Array.getElem?_append_right (by simp [← hv.1]; omega), Array.getElem?_replicate] at h2
      split at h1
      · split at h2
        · cases h1; cases h2; exact .undef
        · cases h2
      · cases h1
  refine Go.wp_mono (k G noL w _ i r) ?_
  rintro e a' w' ⟨G', L', aa', h', x, i', r', q⟩
  have fin : W (aResults P fn.results.toList aa' h') (fun r => R r h') → a'.defers = [] ∧ ∃ v, (results fn a'.tmps).run P w' = .ok v w' ∧ ∃ v', ∃ G' r h', Ending.returned v = .returned v' ∧ Ext G noL w G' noL w' ∧ Inv G' h' w' ∧ VR G' r v' ∧ R r h' := by
    rintro ⟨c, e1, e2⟩
    obtain ⟨v, q1, q2⟩ := results_ok (P := P) i' r' e1
    exact ⟨r'.defers, v, q1, v, G', c, h', rfl, ⟨x.le, fun k b hk => by simp [noL] at hk, x.size, x.keep, x.os, x.tape, x.output⟩, i', q2, e2⟩
  cases e <;> first | exact fin q | exact q.elim

/-- Code: in the abstract machine's terms. -/
def RC (P : Program) (κ : Tmp → Bool) : Code → (Exit → AAct → AHeap → Prop) → AAct → AHeap → Prop
  | .skip, Q, aa, h => Q .normal aa h
  | .region id ops draw, Q, aa, h => if draw then AWp P (.region id ops draw) Q aa h else RL P κ ops.toList (fun aa h => Q .normal aa h) ops.toList aa h
  | .seq x y, Q, aa, h => RC P κ x (thenE (RC P κ y Q) Q) aa h
  | .cond c x y, Q, aa, h => match aEval aa.tmps c with
    | .bool t => (t = true → RC P κ x Q aa h) ∧ (t = false → RC P κ y Q aa h)
    | _ => False
  | .block id c, Q, aa, h => RC P κ c (inBlockE id Q) aa h
  | .loop c, Q, aa, h => AWp P (.loop c) Q aa h
  | .exit id, Q, aa, h => Q (.exit id) aa h
  | .ret, Q, aa, h => Q .ret aa h
  | _, _, _, _ => False

theorem rc_ok {P : Program} {κ : Tmp → Bool} : ∀ (c : Code) {Q : Exit → AAct → AHeap → Prop} {aa : AAct} {h : AHeap}, RC P κ c Q aa h → AWp P c Q aa h
  | .skip, _, _, _, k => AWp.skip k
  | .region id ops draw, Q, aa, h, k => by
    simp only [RC] at k
    split at k
    · exact k
    · rename_i hd
      have hd' : draw = false := by simpa using hd
      subst hd'
      intro G L w a i r
      have := RL_ok (P := P) (κ := κ) (Q := Lift Q G L w) ops.toList aa h k i r (fun G' L' w' aa' a' h' x i' r' hk => ⟨G', L', aa', h', x, i', r', hk⟩)
      rw [Array.toArray_toList] at this
      exact wp_region_list this
  | .seq x y, Q, aa, h, k => by
    simp only [RC] at k
    refine AWp.seq (AWp.mono (rc_ok x k) ?_)
    intro e aa h q
    cases e <;> first | exact rc_ok y q | exact q
  | .cond c x y, Q, aa, h, k => by
    simp only [RC] at k
    split at k
    · rename_i t ht
      exact AWp.cond ht (fun e => rc_ok x (k.1 e)) (fun e => rc_ok y (k.2 e))
    · exact k.elim
  | .block id c, Q, aa, h, k => AWp.block (rc_ok c k)
  | .loop c, _, _, _, k => k
  | .exit id, _, _, _, k => AWp.exit k
  | .ret, _, _, _, k => AWp.ret k
  | .rangeFunc .., _, _, _, k => by simp [RC] at k
  | .scope _, _, _, _, k => by simp [RC] at k
  | .label _, _, _, _, k => by simp [RC] at k
  | .goto _, _, _, _, k => by simp [RC] at k
  | .refuse _, _, _, _, k => by simp [RC] at k

end Go.Ab
end
/- Rules for carrying out the abstract machine by 'simp': one for each form of code and of operation. -/
section
namespace Go.Ab

section
variable {α β : Type} {k : α → Prop}
theorem W_some (x : α) : W (some x) k = k x := by simp [W]
theorem W_none : W (none : Option α) k = False := by simp [W]
theorem W_map (m : Option β) (f : β → α) : W (m.map f) k = W m fun x => k (f x) := by
  cases m <;> simp [W]
theorem W_bind (m : Option β) (f : β → Option α) : W (m.bind f) k = W m fun x => W (f x) k := by
  cases m <;> simp [W]
theorem W_ite (c : Prop) [Decidable c] (x : Option α) : W (if c then x else none) k = (c ∧ W x k) := by
  by_cases h : c <;> simp [h, W]
theorem W_ite' (c : Prop) [Decidable c] (x : Option α) : W (if c then none else x) k = (¬ c ∧ W x k) := by
  by_cases h : c <;> simp [h, W]
theorem W_some_ite (c : Prop) [Decidable c] (x y : α) : W (some (if c then x else y)) k = if c then k x else k y := by
  by_cases h : c <;> simp [h, W]
end

theorem splitBool_bool (b : Bool) (k : AVal → Prop) : splitBool (.bool b) k = ((b = true → k (.bool true)) ∧ (b = false → k (.bool false))) := rfl

/-- What a call is asked for by its caller. -/
def CallK (P : Program) (f : FuncId) (args : List AVal) (h : AHeap) (aa : AAct) (dst : Option Tmp) (k : AAct → AHeap → Prop) : Prop :=
  Callable P f ∧ ACalls P f args h fun r h' => k (aPut aa dst r) h'

theorem CallK.of {P : Program} {f : FuncId} {args : List AVal} {h : AHeap} {aa : AAct} {dst : Option Tmp} {k : AAct → AHeap → Prop} {R : AVal → AHeap → Prop} (hc : Callable P f) (c : ACalls P f args h R)
    (hk : ∀ r h', R r h' → k (aPut aa dst r) h') : CallK P f args h aa dst k := ⟨hc, c.mono hk⟩

section
variable {P : Program} {κ : Tmp → Bool} {Q : Exit → AAct → AHeap → Prop} {t : List AVal} {l : Locs} {h : AHeap}

theorem rc_skip : RC P κ .skip Q ⟨t, l⟩ h = Q .normal ⟨t, l⟩ h := rfl
theorem rc_ret : RC P κ .ret Q ⟨t, l⟩ h = Q .ret ⟨t, l⟩ h := rfl
theorem rc_exit {id : Nat} : RC P κ (.exit id) Q ⟨t, l⟩ h = Q (.exit id) ⟨t, l⟩ h := rfl
theorem rc_seq {x y : Code} : RC P κ (.seq x y) Q ⟨t, l⟩ h = RC P κ x (thenE (RC P κ y Q) Q) ⟨t, l⟩ h := rfl
theorem rc_block {id : Nat} {c : Code} : RC P κ (.block id c) Q ⟨t, l⟩ h = RC P κ c (inBlockE id Q) ⟨t, l⟩ h := rfl
theorem rc_loop {c : Code} : RC P κ (.loop c) Q ⟨t, l⟩ h = AWp P (.loop c) Q ⟨t, l⟩ h := rfl
def normalK (Q : Exit → AAct → AHeap → Prop) : AAct → AHeap → Prop := fun aa h => Q .normal aa h
theorem normalK_eq {aa : AAct} : normalK Q aa h = Q .normal aa h := rfl
theorem rc_region {id : Nat} {ops : List Oper} : RC P κ (.region id ops.toArray false) Q ⟨t, l⟩ h = RL P κ ops (normalK Q) ops ⟨t, l⟩ h := by
  simp only [RC, Bool.false_eq_true, if_false]
  rfl
def condK (P : Program) (κ : Tmp → Bool) (x y : Code) (Q : Exit → AAct → AHeap → Prop) (aa : AAct) (h : AHeap) : AVal → Prop
  | .bool b => (b = true → RC P κ x Q aa h) ∧ (b = false → RC P κ y Q aa h)
  | _ => False
theorem rc_cond {c : Operand} {x y : Code} : RC P κ (.cond c x y) Q ⟨t, l⟩ h = condK P κ x y Q ⟨t, l⟩ h (aEval t c) := by
  simp only [RC, condK] <;> cases aEval t c <;> rfl
theorem condK_true {x y : Code} {aa : AAct} : condK P κ x y Q aa h (.bool true) = RC P κ x Q aa h := by simp [condK]
theorem condK_false {x y : Code} {aa : AAct} : condK P κ x y Q aa h (.bool false) = RC P κ y Q aa h := by simp [condK]
theorem condK_bool {x y : Code} {aa : AAct} {b : Bool} : condK P κ x y Q aa h (.bool b) = ((b = true → RC P κ x Q aa h) ∧ (b = false → RC P κ y Q aa h)) := rfl

theorem then_normal {n : AAct → AHeap → Prop} : thenE n Q .normal ⟨t, l⟩ h = n ⟨t, l⟩ h := rfl
theorem then_ret {n : AAct → AHeap → Prop} {aa : AAct} : thenE n Q .ret aa h = Q .ret aa h := rfl
theorem then_exit {n : AAct → AHeap → Prop} {id : Nat} {aa : AAct} : thenE n Q (.exit id) aa h = Q (.exit id) aa h := rfl
theorem inBlock_normal {id : Nat} {aa : AAct} : inBlockE id Q .normal aa h = Q .normal aa h := rfl
theorem inBlock_ret {id : Nat} {aa : AAct} : inBlockE id Q .ret aa h = Q .ret aa h := rfl
theorem inBlock_exit_same {id : Nat} {aa : AAct} : inBlockE id Q (.exit id) aa h = Q .normal aa h := by simp [inBlockE]
theorem inBlock_exit {id id' : Nat} {aa : AAct} : inBlockE id Q (.exit id') aa h = if id' = id then Q .normal aa h else Q (.exit id') aa h := rfl

variable {ops : List Oper} {K : AAct → AHeap → Prop} {rest : List Oper} {o : Oper}
theorem rl_nil : RL P κ ops K [] ⟨t, l⟩ h = K ⟨t, l⟩ h := rfl
theorem rl_plain {dst : Option Tmp} {op : Op} {ty : TypeId} {pos : String} {after : Array Edge} : RL P κ ops K (⟨dst, op, ty, pos, after, none⟩ :: rest) ⟨t, l⟩ h = stepW P κ ⟨dst, op, ty, pos, after, none⟩ ⟨t, l⟩ h (RL P κ ops K rest) := rfl
def guardK (P : Program) (κ : Tmp → Bool) (o : Oper) (want : Bool) (aa : AAct) (h : AHeap) (k : AAct → AHeap → Prop) : AVal → Prop
  | .bool b => if b = want then stepW P κ o aa h k else k (aPut aa o.dst .undef) h
  | .undef => k (aPut aa o.dst .undef) h
  | _ => False
theorem rl_guard {dst : Option Tmp} {op : Op} {ty : TypeId} {pos : String} {after : Array Edge} {j : Nat} {want : Bool} :
    RL P κ ops K (⟨dst, op, ty, pos, after, some (j, want)⟩ :: rest) ⟨t, l⟩ h =
      match (ops[j]?).bind (·.dst) with
      | none => False
      | some d => guardK P κ ⟨dst, op, ty, pos, after, some (j, want)⟩ want ⟨t, l⟩ h (RL P κ ops K rest) ((t[d]?).getD .any) := by
  simp only [RL, aWanted]
  cases (ops[j]?).bind (·.dst) with
  | none => rfl
  | some d =>
    simp only
    cases hd : t[d]? with
    | none => rfl
    | some c =>
      cases c <;> simp only [guardK, Option.getD_some]
      rename_i b
      by_cases e : b = want
      · subst e; simp
      · have : (b == want) = false := by simpa using e
        simp [e, this]
theorem guardK_true {o : Oper} {aa : AAct} {k : AAct → AHeap → Prop} : guardK P κ o true aa h k (.bool true) = stepW P κ o aa h k := by simp [guardK]
theorem guardK_false {o : Oper} {aa : AAct} {k : AAct → AHeap → Prop} : guardK P κ o false aa h k (.bool false) = stepW P κ o aa h k := by simp [guardK]
theorem guardK_not {o : Oper} {aa : AAct} {k : AAct → AHeap → Prop} : guardK P κ o true aa h k (.bool false) = k (aPut aa o.dst .undef) h := by simp [guardK]
theorem guardK_not' {o : Oper} {aa : AAct} {k : AAct → AHeap → Prop} : guardK P κ o false aa h k (.bool true) = k (aPut aa o.dst .undef) h := by simp [guardK]
theorem guardK_undef {o : Oper} {b : Bool} {aa : AAct} {k : AAct → AHeap → Prop} : guardK P κ o b aa h k .undef = k (aPut aa o.dst .undef) h := by simp [guardK]

theorem put_some {d : Tmp} {v : AVal} : aPut ⟨t, l⟩ (some d) v = ⟨t.set d v, l⟩ := rfl
theorem put_none {v : AVal} : aPut ⟨t, l⟩ none v = ⟨t, l⟩ := rfl
theorem eval_tmp {n : Nat} : aEval t (.tmp n) = t.getD n .undef := rfl
theorem eval_const {v : Value} : aEval t (.const v) = aOfValue v := rfl
theorem eval_func {f : FuncId} : aEval t (.func f) = .func (.func f) [] [] := rfl

section steps
variable {dst : Option Tmp} {d : Tmp} {ty : TypeId} {pos : String} {after : Array Edge} {g : Option (Nat × Bool)} {k : AAct → AHeap → Prop} {x y z : Operand}

theorem st_move : stepW P κ ⟨some d, .move x, ty, pos, after, g⟩ ⟨t, l⟩ h k = k ⟨t.set d (aEval t x), l⟩ h := by
  simp [stepW, allocates, isTest, aOp, W_some, aPut]
theorem st_assign : stepW P κ ⟨some d, .assign x, ty, pos, after, g⟩ ⟨t, l⟩ h k = k ⟨t.set d (aEval t x), l⟩ h := by
  simp [stepW, allocates, isTest, aOp, W_some, aPut]
def pickK (k : AVal → Prop) (c a b : AVal) : Prop :=
  match c with
  | .bool t => k (if t then a else b)
  | _ => False
theorem pickK_true {k : AVal → Prop} {a b : AVal} : pickK k (.bool true) a b = k a := rfl
theorem pickK_false {k : AVal → Prop} {a b : AVal} : pickK k (.bool false) a b = k b := rfl
theorem st_pick : stepW P κ ⟨some d, .pick x y z, ty, pos, after, g⟩ ⟨t, l⟩ h k = pickK (fun v => k ⟨t.set d v, l⟩ h) (aEval t x) (aEval t y) (aEval t z) := by
  simp only [stepW, allocates, isTest, aOp, pickK, Bool.false_eq_true, if_false]
  cases aEval t x <;> simp [W_none, W_some, aPut]
theorem W_congr {α : Type} {m : Option α} {k k' : α → Prop} (h : ∀ x, k x = k' x) : W m k = W m k' := by
  rw [show k = k' from funext h]
theorem lget_none (d : Tmp) : (lget l d).isNone = true ↔ lget l d = none := by simp

theorem st_alloc_loc (hd : κ d = false) {ty' : TypeId} : stepW P κ ⟨some d, .alloc ty', ty, pos, after, g⟩ ⟨t, l⟩ h k = W (tiOf P ty') fun ti => W (zeroOf ti) fun zs => lget l d = none ∧ k ⟨t.set d (.loc d 0), lset l d zs⟩ h := by
  simp only [stepW, allocates, Option.map_some, Option.getD_some, hd, Bool.false_eq_true, if_false, isTest, aOp, W_bind, aNew, W_ite, W_some, aPut, lget_none]
theorem st_alloc_heap (hd : κ d = true) {ty' : TypeId} : stepW P κ ⟨some d, .alloc ty', ty, pos, after, g⟩ ⟨t, l⟩ h k =
    ∀ n, h.blk n = none → h.live n = false → W (tiOf P ty') fun ti => W (zeroOf ti) fun zs => k ⟨t.set d (.ptr n 0), l⟩ { h with blk := upd h.blk n (some zs) } := by
  simp only [stepW, allocates, Option.map_some, Option.getD_some, hd, if_true, aOp, W_bind, aNew, W_some, aPut]
theorem st_box_loc (hd : κ d = false) {ty' : TypeId} : stepW P κ ⟨some d, .box ty' x, ty, pos, after, g⟩ ⟨t, l⟩ h k = W (aEval t x).cells fun zs => lget l d = none ∧ k ⟨t.set d (.loc d 0), lset l d zs⟩ h := by
  simp only [stepW, allocates, Option.map_some, Option.getD_some, hd, Bool.false_eq_true, if_false, isTest, aOp, W_bind, aNew, W_ite, W_some, aPut, lget_none]
theorem st_box_heap (hd : κ d = true) {ty' : TypeId} : stepW P κ ⟨some d, .box ty' x, ty, pos, after, g⟩ ⟨t, l⟩ h k =
    ∀ n, h.blk n = none → h.live n = false → W (aEval t x).cells fun zs => k ⟨t.set d (.ptr n 0), l⟩ { h with blk := upd h.blk n (some zs) } := by
  simp only [stepW, allocates, Option.map_some, Option.getD_some, hd, if_true, aOp, W_bind, aNew, W_some, aPut]
theorem st_build {ty' : TypeId} {parts : List (Nat × Operand)} : stepW P κ ⟨some d, .build ty' parts.toArray, ty, pos, after, g⟩ ⟨t, l⟩ h k =
    W (tiOf P ty') fun ti => W (zeroOf ti) fun zs => kindKnown P ti.kind = true ∧ W (aFill (aPlaces P ti) zs (vals (aEval t) parts)) fun cs => k ⟨t.set d (.agg cs), l⟩ h := by
  simp only [stepW, allocates, Bool.false_eq_true, if_false, isTest, aOp, W_bind, W_ite, W_map, aPut]
theorem st_buildSlice_list (hd : κ d = false) {ty' : TypeId} {len : Nat} {parts : List (Nat × Operand)} : stepW P κ ⟨some d, .buildSlice ty' len parts.toArray, ty, pos, after, g⟩ ⟨t, l⟩ h k =
    ∀ n, h.blk n = none → h.live n = false → W (tiOf P ty') fun ti => W (elemOf P ti) fun te => W (zeroOf te) fun zs => len * te.size ≤ 16777216 ∧
      W (aFillS te.size (List.replicate len zs) (vals (aEval t) parts)) fun ys => k ⟨t.set d (.list (some n) te.size ys), l⟩ { h with live := upd h.live n true } := by
  simp only [stepW, allocates, if_true, aOp, W_bind, W_ite, W_map, aPut, Option.map_some, Option.getD_some, hd, Bool.false_eq_true, if_false]
theorem st_buildSlice_ref (hd : κ d = true) {ty' : TypeId} {len : Nat} {parts : List (Nat × Operand)} : stepW P κ ⟨some d, .buildSlice ty' len parts.toArray, ty, pos, after, g⟩ ⟨t, l⟩ h k =
    ∀ n, h.blk n = none → h.live n = false → W (tiOf P ty') fun ti => W (elemOf P ti) fun te => W (zeroOf te) fun zs => len * te.size ≤ 16777216 ∧
      W (aFillS te.size (List.replicate len zs) (vals (aEval t) parts)) fun ys => k ⟨t.set d (.ref n 0 len te.size), l⟩ { h with blk := upd h.blk n (some ys.flatten) } := by
  simp only [stepW, allocates, if_true, aOp, W_bind, W_ite, W_map, aPut, Option.map_some, Option.getD_some, hd]
theorem st_load {ty' : TypeId} : stepW P κ ⟨some d, .load ty' x, ty, pos, after, g⟩ ⟨t, l⟩ h k = W (tiOf P ty') fun ti => W (aBehind l h (aEval t x)) fun cs => W (aOfCells ti cs) fun v => k ⟨t.set d v, l⟩ h := by
  simp only [stepW, allocates, isTest, Bool.false_eq_true, if_false, aOp, W_bind, W_map, aPut]
theorem st_store {ty' : TypeId} : stepW P κ ⟨none, .store ty' x y, ty, pos, after, g⟩ ⟨t, l⟩ h k = W (tiOf P ty') fun ti => W (aEval t y).cells fun ds => ds.length = ti.size ∧ W (aStore h l (aEval t x) ds) fun s => k ⟨t, s.1⟩ s.2 := by
  simp only [stepW, allocates, isTest, Bool.false_eq_true, if_false, aOp, W_bind, W_ite, W_map, aPut]
def nilCheckK (k : AVal → Prop) : AVal → Prop
  | .ptr β o => k (.ptr β o)
  | .pin cs => k (.pin cs)
  | .loc n o => k (.loc n o)
  | _ => False
theorem st_nilCheck : stepW P κ ⟨some d, .nilCheck x, ty, pos, after, g⟩ ⟨t, l⟩ h k = nilCheckK (fun v => k ⟨t.set d v, l⟩ h) (aEval t x) := by
  simp only [stepW, allocates, isTest, Bool.false_eq_true, if_false, aOp]
  cases aEval t x <;> simp [nilCheckK, W_some, W_none, aPut]
theorem st_test {op : BinOp} {ty' ty2 : TypeId} (ho : isTest (.binOp op ty' x y ty2) = true) : stepW P κ ⟨some d, .binOp op ty' x y ty2, ty, pos, after, g⟩ ⟨t, l⟩ h k =
    W (tiOf P ty') fun ti => W (aBin ti.kind op (aEval t x) (aEval t y)) fun v => splitBool v fun c => k ⟨t.set d c, l⟩ h := by
  simp only [stepW, allocates, ho, if_true, Bool.false_eq_true, if_false, aOp, W_bind, W_map, aPut]
theorem st_bin {op : BinOp} {ty' ty2 : TypeId} (ho : isTest (.binOp op ty' x y ty2) = false) : stepW P κ ⟨some d, .binOp op ty' x y ty2, ty, pos, after, g⟩ ⟨t, l⟩ h k =
    W (tiOf P ty') fun ti => W (aBin ti.kind op (aEval t x) (aEval t y)) fun v => k ⟨t.set d v, l⟩ h := by
  simp only [stepW, allocates, ho, Bool.false_eq_true, if_false, aOp, W_bind, W_map, aPut]
theorem st_eql {ty' ty2 : TypeId} : stepW P κ ⟨some d, .binOp .eql ty' x y ty2, ty, pos, after, g⟩ ⟨t, l⟩ h k =
    W (tiOf P ty') fun ti => W (aBin ti.kind .eql (aEval t x) (aEval t y)) fun v => splitBool v fun c => k ⟨t.set d c, l⟩ h := st_test rfl
theorem st_neq {ty' ty2 : TypeId} : stepW P κ ⟨some d, .binOp .neq ty' x y ty2, ty, pos, after, g⟩ ⟨t, l⟩ h k =
    W (tiOf P ty') fun ti => W (aBin ti.kind .neq (aEval t x) (aEval t y)) fun v => splitBool v fun c => k ⟨t.set d c, l⟩ h := st_test rfl
theorem st_lss {ty' ty2 : TypeId} : stepW P κ ⟨some d, .binOp .lss ty' x y ty2, ty, pos, after, g⟩ ⟨t, l⟩ h k =
    W (tiOf P ty') fun ti => W (aBin ti.kind .lss (aEval t x) (aEval t y)) fun v => splitBool v fun c => k ⟨t.set d c, l⟩ h := st_test rfl
theorem st_leq {ty' ty2 : TypeId} : stepW P κ ⟨some d, .binOp .leq ty' x y ty2, ty, pos, after, g⟩ ⟨t, l⟩ h k =
    W (tiOf P ty') fun ti => W (aBin ti.kind .leq (aEval t x) (aEval t y)) fun v => splitBool v fun c => k ⟨t.set d c, l⟩ h := st_test rfl
theorem st_gtr {ty' ty2 : TypeId} : stepW P κ ⟨some d, .binOp .gtr ty' x y ty2, ty, pos, after, g⟩ ⟨t, l⟩ h k =
    W (tiOf P ty') fun ti => W (aBin ti.kind .gtr (aEval t x) (aEval t y)) fun v => splitBool v fun c => k ⟨t.set d c, l⟩ h := st_test rfl
theorem st_geq {ty' ty2 : TypeId} : stepW P κ ⟨some d, .binOp .geq ty' x y ty2, ty, pos, after, g⟩ ⟨t, l⟩ h k =
    W (tiOf P ty') fun ti => W (aBin ti.kind .geq (aEval t x) (aEval t y)) fun v => splitBool v fun c => k ⟨t.set d c, l⟩ h := st_test rfl
theorem st_add {ty' ty2 : TypeId} : stepW P κ ⟨some d, .binOp .add ty' x y ty2, ty, pos, after, g⟩ ⟨t, l⟩ h k =
    W (tiOf P ty') fun ti => W (aBin ti.kind .add (aEval t x) (aEval t y)) fun v => k ⟨t.set d v, l⟩ h := st_bin rfl
theorem st_sub {ty' ty2 : TypeId} : stepW P κ ⟨some d, .binOp .sub ty' x y ty2, ty, pos, after, g⟩ ⟨t, l⟩ h k =
    W (tiOf P ty') fun ti => W (aBin ti.kind .sub (aEval t x) (aEval t y)) fun v => k ⟨t.set d v, l⟩ h := st_bin rfl
theorem st_mul {ty' ty2 : TypeId} : stepW P κ ⟨some d, .binOp .mul ty' x y ty2, ty, pos, after, g⟩ ⟨t, l⟩ h k =
    W (tiOf P ty') fun ti => W (aBin ti.kind .mul (aEval t x) (aEval t y)) fun v => k ⟨t.set d v, l⟩ h := st_bin rfl
theorem st_quo {ty' ty2 : TypeId} : stepW P κ ⟨some d, .binOp .quo ty' x y ty2, ty, pos, after, g⟩ ⟨t, l⟩ h k =
    W (tiOf P ty') fun ti => W (aBin ti.kind .quo (aEval t x) (aEval t y)) fun v => k ⟨t.set d v, l⟩ h := st_bin rfl
theorem st_rem {ty' ty2 : TypeId} : stepW P κ ⟨some d, .binOp .rem ty' x y ty2, ty, pos, after, g⟩ ⟨t, l⟩ h k =
    W (tiOf P ty') fun ti => W (aBin ti.kind .rem (aEval t x) (aEval t y)) fun v => k ⟨t.set d v, l⟩ h := st_bin rfl
theorem st_un {op : UnOp} {ty' : TypeId} : stepW P κ ⟨some d, .unOp op ty' x, ty, pos, after, g⟩ ⟨t, l⟩ h k = W (aUn op (aEval t x)) fun v => k ⟨t.set d v, l⟩ h := by
  simp only [stepW, allocates, isTest, Bool.false_eq_true, if_false, aOp, W_map, aPut]
def convK (P : Program) (tis ti : TI) (k : AVal → Prop) : AVal → Prop
  | .int kk n => W (aConv ti (.int kk n)) k
  | .str s => W (aConv ti (.str s)) k
  | c => W (elemOf P tis) fun te => match te.kind with
    | .int .u8 => W (aConv ti c) k
    | _ => False
theorem st_convert {s' t' : TypeId} : stepW P κ ⟨some d, .convert s' t' x, ty, pos, after, g⟩ ⟨t, l⟩ h k = W (tiOf P s') fun tis => W (tiOf P t') fun ti => convK P tis ti (fun v => k ⟨t.set d v, l⟩ h) (aEval t x) := by
  simp only [stepW, allocates, isTest, Bool.false_eq_true, if_false, aOp, W_bind]
  refine W_congr fun tis => W_congr fun ti => ?_
  have key : ∀ (te : TI) (m : Option AVal) (q : Out → Prop), W (match te.kind with | .int .u8 => m.map fun v => (v, l, h) | _ => none) q = (match te.kind with | .int .u8 => W m fun v => q (v, l, h) | _ => False) := by
    intro te m q
    obtain ⟨kd, _, _, _⟩ := te
    cases kd <;> first | exact W_none | (rename_i kk; cases kk <;> simp only [W_map, W_none])
  cases aEval t x <;> simp only [convK, W_map, aPut, W_bind] <;> (refine W_congr fun te => ?_) <;> exact key te _ _
theorem st_makeInterface {t' : TypeId} : stepW P κ ⟨some d, .makeInterface t' x, ty, pos, after, g⟩ ⟨t, l⟩ h k = W (tiOf P t') fun ti => ¬ (ti.kind.isIface || (aEval t x).isLoc) = true ∧ k ⟨t.set d (.iface t' (aEval t x)), l⟩ h := by
  simp only [stepW, allocates, isTest, Bool.false_eq_true, if_false, aOp, W_bind, W_ite', W_some, aPut]
def makeK (te : TI) (c m : AVal) (k : Int → Prop) : Prop :=
  match c, m with
  | .int _ i, .int _ j => (0 ≤ i ∧ i ≤ j ∧ j ≤ 4294967296 ∧ te.bytes ≤ 4096) ∧ k i
  | _, _ => False
theorem st_makeSlice_list (hd : κ d = false) {t' : TypeId} : stepW P κ ⟨some d, .makeSlice t' x y, ty, pos, after, g⟩ ⟨t, l⟩ h k =
    ∀ n, h.blk n = none → h.live n = false → W (tiOf P t') fun ti => W (elemOf P ti) fun te => W (zeroOf te) fun zs =>
      makeK te (aEval t x) (aEval t y) fun i => k ⟨t.set d (.list (some n) te.size (List.replicate i.toNat zs)), l⟩ { h with live := upd h.live n true } := by
  simp only [stepW, allocates, if_true, aOp, W_bind, Option.map_some, Option.getD_some, hd, Bool.false_eq_true, if_false]
  refine forall_congr fun n => forall_congr fun _ => forall_congr fun _ => W_congr fun ti => W_congr fun te => W_congr fun zs => ?_
  cases aEval t x with
  | int _ _ => cases aEval t y <;> simp only [makeK, W_none, W_ite, W_some, aPut]
  | _ => simp only [makeK, W_none]
theorem st_makeSlice_ref (hd : κ d = true) {t' : TypeId} : stepW P κ ⟨some d, .makeSlice t' x y, ty, pos, after, g⟩ ⟨t, l⟩ h k =
    ∀ n, h.blk n = none → h.live n = false → W (tiOf P t') fun ti => W (elemOf P ti) fun te => W (zeroOf te) fun zs =>
      makeK te (aEval t x) (aEval t y) fun i => k ⟨t.set d (.ref n 0 i.toNat te.size), l⟩ { h with blk := upd h.blk n (some (List.replicate i.toNat zs).flatten) } := by
  simp only [stepW, allocates, if_true, aOp, W_bind, Option.map_some, Option.getD_some, hd]
  refine forall_congr fun n => forall_congr fun _ => forall_congr fun _ => W_congr fun ti => W_congr fun te => W_congr fun zs => ?_
  cases aEval t x with
  | int _ _ => cases aEval t y <;> simp only [makeK, W_none, W_ite, W_some, aPut]
  | _ => simp only [makeK, W_none]
def sliceK (P : Program) (ti : TI) (c : AVal) (lo hi : Option Int) (k : AVal → Prop) : Prop :=
  match ti.kind with
  | .str => W (aSlice 0 c lo hi) k
  | _ => W (elemOf P ti) fun te => W (aSlice te.size c lo hi) k
theorem st_slice {t' : TypeId} {lo hi : Option Operand} : stepW P κ ⟨some d, .slice t' x lo hi none, ty, pos, after, g⟩ ⟨t, l⟩ h k =
    W (tiOf P t') fun ti => W (aOptInt (aEval t) lo) fun a => W (aOptInt (aEval t) hi) fun b => fitsKind (aEval t x) ti.kind = true ∧ sliceK P ti (aEval t x) a.2 b.2 fun v => k ⟨t.set d v, l⟩ h := by
  simp only [stepW, allocates, isTest, Bool.false_eq_true, if_false, aOp, W_bind, W_ite]
  refine W_congr fun ti => W_congr fun a => W_congr fun b => ?_
  unfold sliceK
  congr 1
  cases ti.kind <;> simp only [W_map, W_bind, aPut]
def fieldsK (ti : TI) (f : Nat) (k : Nat × TypeId → Prop) : Prop :=
  match ti.kind with
  | .struct fs => W (fs[f]?) k
  | _ => False
theorem st_fieldAddr {t' : TypeId} {f : Nat} : stepW P κ ⟨some d, .fieldAddr t' x f, ty, pos, after, g⟩ ⟨t, l⟩ h k =
    W (tiOf P t') fun ti => fieldsK ti f fun p => W (tiOf P p.2) fun tif => ¬ tif.size = 0 ∧ W (aFieldAddr p.1 (aEval t x)) fun v => k ⟨t.set d v, l⟩ h := by
  simp only [stepW, allocates, isTest, Bool.false_eq_true, if_false, aOp, W_bind]
  refine W_congr fun ti => ?_
  unfold fieldsK
  cases ti.kind <;> simp only [W_bind, W_ite', W_map, W_none, aPut]
def aggK (c : AVal) (k : List AVal → Prop) : Prop :=
  match c with
  | .agg cs => k cs
  | _ => False
theorem st_field {t' : TypeId} {f : Nat} : stepW P κ ⟨some d, .field t' x f, ty, pos, after, g⟩ ⟨t, l⟩ h k =
    W (tiOf P t') fun ti => aggK (aEval t x) fun cs => fieldsK ti f fun p => W (tiOf P p.2) fun tif => p.1 + tif.size ≤ cs.length ∧ W (aOfCells tif (cs.drop p.1)) fun v => k ⟨t.set d v, l⟩ h := by
  simp only [stepW, allocates, isTest, Bool.false_eq_true, if_false, aOp, W_bind]
  refine W_congr fun ti => ?_
  unfold fieldsK
  cases aEval t x with
  | agg cs => cases ti.kind <;> simp only [aggK, W_bind, W_ite, W_map, W_none, aPut]
  | _ => cases ti.kind <;> simp only [aggK, W_none]
def intK (c : AVal) (k : Int → Prop) : Prop :=
  match c with
  | .int _ i => k i
  | _ => False
theorem st_indexAddr {t' : TypeId} : stepW P κ ⟨some d, .indexAddr t' x y, ty, pos, after, g⟩ ⟨t, l⟩ h k =
    W (tiOf P t') fun ti => W (elemOf P ti) fun te => intK (aEval t y) fun i => W (aIndexAddr te.size (aEval t x) i) fun v => k ⟨t.set d v, l⟩ h := by
  simp only [stepW, allocates, isTest, Bool.false_eq_true, if_false, aOp, W_bind]
  refine W_congr fun ti => W_congr fun te => ?_
  cases aEval t y <;> simp only [intK, W_map, W_none, aPut]
def strK (c : AVal) (k : ByteArray → Prop) : Prop :=
  match c with
  | .str s => k s
  | _ => False
theorem st_index {t' : TypeId} : stepW P κ ⟨some d, .index t' x y, ty, pos, after, g⟩ ⟨t, l⟩ h k =
    W (tiOf P t') fun ti => ti.kind.isStr = true ∧ strK (aEval t x) fun s => intK (aEval t y) fun i => W (aStrIndex s i) fun v => k ⟨t.set d v, l⟩ h := by
  simp only [stepW, allocates, isTest, Bool.false_eq_true, if_false, aOp, W_bind]
  refine W_congr fun ti => ?_
  cases ti.kind with
  | str => cases aEval t x with
    | str s => cases aEval t y <;> simp [intK, strK, TK.isStr, W_map, W_none, aPut]
    | _ => simp [strK, W_none]
  | _ => simp [TK.isStr, W_none]
def tupleK (c : AVal) (k : List AVal → Prop) : Prop :=
  match c with
  | .tuple cs => k cs
  | _ => False
theorem st_extract {i : Nat} : stepW P κ ⟨some d, .extract x i, ty, pos, after, g⟩ ⟨t, l⟩ h k = tupleK (aEval t x) fun vs => W (vs[i]?) fun v => k ⟨t.set d v, l⟩ h := by
  simp only [stepW, allocates, isTest, Bool.false_eq_true, if_false, aOp]
  cases aEval t x <;> simp only [tupleK, W_map, W_none, aPut]
theorem st_len {ts : TypeId} : stepW P κ ⟨some d, .call ⟨.builtin .len, #[x], #[ts]⟩, ty, pos, after, g⟩ ⟨t, l⟩ h k =
    W (tiOf P ts) fun ti => fitsKind (aEval t x) ti.kind = true ∧ W (aLen (aEval t x)) fun n => k ⟨t.set d (.int .i64 n), l⟩ h := by
  simp only [stepW, allocates, isTest, Bool.false_eq_true, if_false, aOp, aBuiltin, W_bind, W_ite, W_map, aPut]
theorem st_append {ts tx : TypeId} : stepW P κ ⟨some d, .call ⟨.builtin .append, #[x, y], #[ts, tx]⟩, ty, pos, after, g⟩ ⟨t, l⟩ h k =
    ∀ n, h.blk n = none → h.live n = false → W (tiOf P ts) fun ti => W (elemOf P ti) fun te => W (zeroOf te) fun _ => W (tiOf P tx) fun tix => fitsKind (aEval t y) tix.kind = true ∧
      W (aNews te.size (aEval t y)) fun ys => W (aAppend te (κ d) h n (aEval t x) ys) fun r => k ⟨t.set d r.1, l⟩ r.2 := by
  simp only [stepW, allocates, if_true, aOp, aBuiltin, W_bind, W_ite, W_map, aPut, Option.map_some, Option.getD_some]
def int2K (c m : AVal) (k : IntKind → Int → Int → Prop) : Prop :=
  match c, m with
  | .int kk i, .int _ j => k kk i j
  | _, _ => False
theorem st_min {tt : Array TypeId} : stepW P κ ⟨some d, .call ⟨.builtin .min, #[x, y], tt⟩, ty, pos, after, g⟩ ⟨t, l⟩ h k =
    int2K (aEval t x) (aEval t y) fun kk i j => k ⟨t.set d (.int kk (if j < i then j else i)), l⟩ h := by
  simp only [stepW, allocates, isTest, Bool.false_eq_true, if_false, aOp, aBuiltin]
  cases aEval t x with
  | int _ _ => cases aEval t y <;> simp only [int2K, W_some, W_none, aPut]
  | _ => simp only [int2K, W_none]
theorem st_max {tt : Array TypeId} : stepW P κ ⟨some d, .call ⟨.builtin .max, #[x, y], tt⟩, ty, pos, after, g⟩ ⟨t, l⟩ h k =
    int2K (aEval t x) (aEval t y) fun kk i j => k ⟨t.set d (.int kk (if j > i then j else i)), l⟩ h := by
  simp only [stepW, allocates, isTest, Bool.false_eq_true, if_false, aOp, aBuiltin]
  cases aEval t x with
  | int _ _ => cases aEval t y <;> simp only [int2K, W_some, W_none, aPut]
  | _ => simp only [int2K, W_none]
theorem st_call {f : FuncId} {args : List Operand} {tt : Array TypeId} : stepW P κ ⟨dst, .call ⟨.value (.func f), args.toArray, tt⟩, ty, pos, after, g⟩ ⟨t, l⟩ h k =
    ((args.map (aEval t)).any AVal.isLoc = false ∧ CallK P f (args.map (aEval t)) h ⟨t, l⟩ dst k) := by
  simp only [stepW, CallK, eval_func, List.nil_append, List.append_nil]
end steps
end
end Go.Ab
end
