/-
  Regions whose order is open: operations that only read, or make memory, in whatever order; then the rest in a row.
-/
import Derived.Orders
import Derived.Test.YtdgfmdjlhkjbaaaBa
set_option linter.all false
section
namespace Go.Ab

/-- A name: slot t is 2 t, variable k of the call is 2 k + 1. -/
def nv (aa : AAct) (x : Nat) : Option (List AVal) := if x % 2 = 0 then (aa.tmps[x / 2]?).map fun c => [c] else lget aa.locs (x / 2)

def applyL (ls : Locs) : Option (Nat × List AVal) → Locs
  | none => ls
  | some (k, cs) => lset ls k cs

def aBehindQ (lg blk : Nat → Option (List AVal)) : AVal → Option (List AVal)
  | .pin cs => some cs
  | .loc k off => (lg k).map (·.drop off)
  | .ptr β off => (blk β).map (·.drop off)
  | _ => none

/-- Operations that neither read nor write memory. -/
def valueOp : Op → Bool
  | .move _ | .assign _ | .pick _ _ _ | .build _ _ | .nilCheck _ | .binOp _ _ _ _ _ | .unOp _ _ _ | .convert _ _ _ | .makeInterface _ _ | .makeFunc _ _ _ | .slice _ _ _ _ none
  | .fieldAddr _ _ _ | .field _ _ _ | .indexAddr _ _ _ | .index _ _ _ | .extract _ _ => true
  | .call ⟨.builtin b, _, _⟩ => match b with
    | .len | .min | .max => true
    | _ => false
  | _ => false

/-- What an operation that neither reads nor writes memory hands back. -/
def aVal (P : Program) (ev : Operand → AVal) (op : Op) : Option AVal :=
  match op with
  | .move x | .assign x => some (ev x)
  | .pick c x y => match ev c with
    | .bool t => some (if t then ev x else ev y)
    | _ => none
  | .build t parts => (tiOf P t).bind fun ti => (zeroOf ti).bind fun zs =>
      if kindKnown P ti.kind then (aFill (aPlaces P ti) zs (vals ev parts.toList)).map fun cs => .agg cs else none
  | .nilCheck x => match ev x with
    | .ptr β o => some (.ptr β o)
    | .pin cs => some (.pin cs)
    | .loc k o => some (.loc k o)
    | _ => none
  | .binOp op t x y _ => (tiOf P t).bind fun ti => aBin ti.kind op (ev x) (ev y)
  | .unOp op _ x => aUn op (ev x)
  | .convert s t x => (tiOf P s).bind fun tis => (tiOf P t).bind fun ti =>
      match ev x with
      | .int k n => aConv ti (.int k n)
      | .str s => aConv ti (.str s)
      | c => (elemOf P tis).bind fun te => match te.kind with
        | .int .u8 => aConv ti c
        | _ => none
  | .makeInterface t x => (tiOf P t).bind fun ti => if ti.kind.isIface || (ev x).isLoc then none else some (.iface t (ev x))
  | .makeFunc fn first captured => if (first.toList.map ev).any AVal.isLoc || (captured.toList.map ev).any AVal.isLoc then none else some (.func fn (first.toList.map ev) (captured.toList.map ev))
  | .slice t x lo hi none => (tiOf P t).bind fun ti => (aOptInt ev lo).bind fun l => (aOptInt ev hi).bind fun m =>
      if fitsKind (ev x) ti.kind then
        match ti.kind with
        | .str => aSlice 0 (ev x) l.2 m.2
        | _ => (elemOf P ti).bind fun te => aSlice te.size (ev x) l.2 m.2
      else none
  | .fieldAddr t x f => (tiOf P t).bind fun ti => match ti.kind with
    | .struct fs => (fs[f]?).bind fun (off, ft) => (tiOf P ft).bind fun tif => if tif.size = 0 then none else aFieldAddr off (ev x)
    | _ => none
  | .field t x f => (tiOf P t).bind fun ti => match ti.kind, ev x with
    | .struct fs, .agg cs => (fs[f]?).bind fun (off, ft) => (tiOf P ft).bind fun tif => if off + tif.size ≤ cs.length then aOfCells tif (cs.drop off) else none
    | _, _ => none
  | .indexAddr t x i => (tiOf P t).bind fun ti => (elemOf P ti).bind fun te => match ev i with
    | .int _ i => aIndexAddr te.size (ev x) i
    | _ => none
  | .index t x i => (tiOf P t).bind fun ti => match ti.kind, ev x, ev i with
    | .str, .str s, .int _ i => aStrIndex s i
    | _, _, _ => none
  | .extract x i => match ev x with
    | .tuple vs => vs[i]?
    | _ => none
  | .call ⟨.builtin .len, xs, ts⟩ => match ts.toList, xs.toList with
    | [t], [x] => (tiOf P t).bind fun ti => if fitsKind (ev x) ti.kind then (aLen (ev x)).map fun n => .int .i64 n else none
    | _, _ => none
  | .call ⟨.builtin .min, xs, _⟩ => match xs.toList with
    | [x, y] => match ev x, ev y with
      | .int k a, .int _ b => some (.int k (if b < a then b else a))
      | _, _ => none
    | _ => none
  | .call ⟨.builtin .max, xs, _⟩ => match xs.toList with
    | [x, y] => match ev x, ev y with
      | .int k a, .int _ b => some (.int k (if b > a then b else a))
      | _, _ => none
    | _ => none
  | _ => none

theorem bind_map_congr {α β γ : Type} {m : Option α} {f : α → Option β} {g : α → Option γ} {q : γ → β} (h : ∀ x, f x = (g x).map q) : m.bind f = (m.bind g).map q := by
  cases m <;> simp [h]
theorem ite_map_congr {β γ : Type} {c : Prop} [Decidable c] {f : Option β} {g : Option γ} {q : γ → β} (h : f = g.map q) : (if c then f else none) = (if c then g else none).map q := by
  by_cases hc : c <;> simp [hc, h]
theorem ite_map_congr' {β γ : Type} {c : Prop} [Decidable c] {f : Option β} {g : Option γ} {q : γ → β} (h : f = g.map q) : (if c then none else f) = (if c then none else g).map q := by
  by_cases hc : c <;> simp [hc, h]

theorem aVal_aOp {P : Program} {κ : Tmp → Bool} {ev : Operand → AVal} {dst : Option Tmp} {op : Op} {ls : Locs} {h : AHeap} {n : Nat} {c : AVal} (hv : aVal P ev op = some c) :
    aOp P κ ev ls h n dst op = some (c, ls, h) := by
  have goal : ∀ {m : Option Out}, m = (aVal P ev op).map (fun v => (v, ls, h)) → m = some (c, ls, h) := fun e => by rw [e, hv]; rfl
  cases op <;> simp only [aVal, reduceCtorEq] at hv
  case call cl =>
    obtain ⟨callee, xs, ts⟩ := cl
    cases callee with
    | builtin b =>
      cases b <;> simp only [reduceCtorEq] at hv
      case len =>
        split at hv
        · rename_i t x e1 e2
          simp only [aOp, e1, e2, aBuiltin]
          cases hti : tiOf P t with
          | none => rw [hti] at hv; cases hv
          | some ti =>
            rw [hti] at hv; simp only [Option.bind_some] at hv ⊢
            split at hv
            · rename_i hf; rw [if_pos hf]
              cases hl : aLen (ev x) with
              | none => rw [hl] at hv; cases hv
              | some m => rw [hl] at hv; cases hv; rfl
            · cases hv
        · cases hv
      case min =>
        split at hv
        · rename_i x y e2
          simp only [aOp, e2, aBuiltin]
          split at hv
          · cases hv; rename_i k a k' b h1 h2; rw [h1, h2]
          · cases hv
        · cases hv
      case max =>
        split at hv
        · rename_i x y e2
          simp only [aOp, e2, aBuiltin]
          split at hv
          · cases hv; rename_i k a k' b h1 h2; rw [h1, h2]
          · cases hv
        · cases hv
    | _ => cases hv
  case slice t x lo hi mx =>
    cases mx with
    | some _ => simp at hv
    | none =>
      apply goal
      simp only [aOp, aVal]
      refine bind_map_congr fun ti => bind_map_congr fun l => bind_map_congr fun m => ite_map_congr ?_
      cases ti.kind <;> first | rfl | exact bind_map_congr fun te => rfl
  case move x => cases hv; rfl
  case assign x => cases hv; rfl
  case pick p x y =>
    apply goal
    simp only [aOp, aVal]
    cases ev p <;> rfl
  case build t parts =>
    apply goal
    simp only [aOp, aVal]
    exact bind_map_congr fun ti => bind_map_congr fun zs => ite_map_congr (by rw [Option.map_map]; rfl)
  case nilCheck x =>
    apply goal
    simp only [aOp, aVal]
    cases ev x <;> rfl
  case binOp => apply goal; simp only [aOp, aVal]; exact bind_map_congr fun ti => rfl
  case unOp => apply goal; simp only [aOp, aVal]
  case convert s t x =>
    apply goal
    simp only [aOp, aVal]
    refine bind_map_congr fun tis => bind_map_congr fun ti => ?_
    have key : ∀ (te : TI) (m : Option AVal), (match te.kind with | .int .u8 => m.map fun v => (v, ls, h) | _ => none) = (match te.kind with | .int .u8 => m | _ => none).map fun v => (v, ls, h) := by
      intro te m
      obtain ⟨kd, _, _, _⟩ := te
      cases kd <;> first | rfl | (rename_i kk; cases kk <;> rfl)
    cases ev x <;> first | rfl | exact bind_map_congr fun te => key te _
  case makeInterface => apply goal; simp only [aOp, aVal]; exact bind_map_congr fun ti => ite_map_congr' rfl
  case makeFunc => apply goal; simp only [aOp, aVal]; exact ite_map_congr' rfl
  case fieldAddr t x f =>
    apply goal
    simp only [aOp, aVal]
    refine bind_map_congr fun ti => ?_
    cases ti.kind <;> first | rfl | exact bind_map_congr fun p => bind_map_congr fun tif => ite_map_congr' rfl
  case field t x f =>
    apply goal
    simp only [aOp, aVal]
    refine bind_map_congr fun ti => ?_
    cases ti.kind with
    | struct fs => cases ev x with
      | agg cs => exact bind_map_congr fun p => bind_map_congr fun tif => ite_map_congr rfl
      | _ => rfl
    | _ => rfl
  case indexAddr t x i =>
    apply goal
    simp only [aOp, aVal]
    refine bind_map_congr fun ti => bind_map_congr fun te => ?_
    cases ev i <;> rfl
  case index t x i =>
    apply goal
    simp only [aOp, aVal]
    refine bind_map_congr fun ti => ?_
    cases ti.kind with
    | str => cases ev x with
      | str s => cases ev i <;> rfl
      | _ => rfl
    | _ => rfl
  case extract x i =>
    apply goal
    simp only [aOp, aVal]
    cases ev x <;> rfl

/-- A quiet operation: what it hands back, and the variable that it lays or writes. -/
def aOpQ (P : Program) (κ : Tmp → Bool) (ev : Operand → AVal) (lg blk : Nat → Option (List AVal)) (dst : Option Tmp) (op : Op) : Option (AVal × Option (Nat × List AVal)) :=
  match op with
  | .load t x => (tiOf P t).bind fun ti => (aBehindQ lg blk (ev x)).bind fun cs => (aOfCells ti cs).map fun v => (v, none)
  | .alloc t => match dst with
    | some d => if κ d then none else if (lg d).isNone then (tiOf P t).bind fun ti => (zeroOf ti).map fun zs => (.loc d 0, some (d, zs)) else none
    | none => none
  | .store t x y => match ev x with
    | .loc k off => (tiOf P t).bind fun ti => (ev y).cells.bind fun ds => (lg k).bind fun cs => if ds.length = ti.size ∧ off + ds.length ≤ cs.length then some (.undef, some (k, splice cs off ds)) else none
    | _ => none
  | .buildSlice t len parts => (tiOf P t).bind fun ti => (elemOf P ti).bind fun te => (zeroOf te).bind fun zs =>
      if len * te.size ≤ 16777216 then (aFillS te.size (List.replicate len zs) (vals ev parts.toList)).map fun ys => (.list none te.size ys, none) else none
  | op => (aVal P ev op).map fun x => (x, none)

section
variable {P : Program} {G : Ghost} {L : LMap} {w : World} {aa : AAct} {a : Act} {h h' : AHeap} {o : Oper} {c : AVal} {κ : Tmp → Bool}

theorem list_forget {G ρ sz xs v} (h : VR G (.list ρ sz xs) v) : VR G (.list none sz xs) v := by
  cases h with
  | list vs hsz hone hcap hcl hv hρ => exact .list vs hsz hone hcap hcl hv (by simp)

theorem done_forget {s : Sem Value} {n sz : Nat} {ys : List (List AVal)} {ls : Locs} (hn : h.live n = false) (d : Done P G L w aa a s (.list (some n) sz ys) ls { h with live := upd h.live n true }) : Done P G L w aa a s (.list none sz ys) ls h := by
  obtain ⟨v, w', G', L', x1, x2, x3, x4, x5⟩ := d
  have x5' : VR G' (.list (some n) sz ys) v := x5.plain rfl
  have hle : AHeap.Le { h with live := upd h.live n true } h := ⟨fun _ _ z => z, fun ρ hρ => by
    have hne : ρ ≠ n := fun e => by subst e; rw [hn] at hρ; cases hρ
    simp only [upd_ne _ _ hne]; exact hρ⟩
  exact ⟨v, w', G', L', x1, x2, x3.weak hle, x4, .inl (list_forget x5')⟩

set_option maxHeartbeats 800000 in
theorem opQ_ok (i : Inv G h w) (r : ActRel G L w aa a) {lw : Option (Nat × List AVal)} (hop : aOpQ P κ (aEval aa.tmps) (lget aa.locs) h.blk o.dst o.op = some (c, lw)) : Good P G L w aa a o c (applyL aa.locs lw) h := by
  obtain ⟨N, hN⟩ := i.supply
  have hb := (hN N (Nat.le_refl _)).1
  have hr := (hN N (Nat.le_refl _)).2
  have val : ∀ v, (aVal P (aEval aa.tmps) o.op).map (fun x => (x, (none : Option (Nat × List AVal)))) = some (v, lw) → Good P G L w aa a o v (applyL aa.locs lw) h := fun v hv => by
    cases hx : aVal P (aEval aa.tmps) o.op with
    | none => rw [hx] at hv; cases hv
    | some x =>
      rw [hx] at hv; cases hv
      exact op_ok (κ := κ) i r hb hr (aVal_aOp hx)
  cases ho : o.op <;> rw [ho] at hop <;> simp only [aOpQ] at hop
  case load t x =>
    refine op_ok (κ := κ) i r hb hr ?_
    rw [ho]
    have hbh : aBehindQ (lget aa.locs) h.blk (aEval aa.tmps x) = aBehind aa.locs h (aEval aa.tmps x) := by cases aEval aa.tmps x <;> rfl
    rw [hbh] at hop
    simp only [aOp]
    cases h1 : tiOf P t with
    | none => rw [h1] at hop; cases hop
    | some ti =>
      rw [h1] at hop; simp only [Option.bind_some] at hop ⊢
      cases h2 : aBehind aa.locs h (aEval aa.tmps x) with
      | none => rw [h2] at hop; cases hop
      | some cs =>
        rw [h2] at hop; simp only [Option.bind_some] at hop ⊢
        cases h3 : aOfCells ti cs with
        | none => rw [h3] at hop; cases hop
        | some v => rw [h3] at hop; cases hop; rfl
  case alloc t =>
    refine op_ok (κ := κ) i r hb hr ?_
    rw [ho]
    simp only [aOp]
    cases hd : o.dst with
    | none => rw [hd] at hop; cases hop
    | some d =>
      rw [hd] at hop
      simp only at hop
      split at hop
      · cases hop
      · rename_i hk
        split at hop
        · rename_i hl
          cases h1 : tiOf P t with
          | none => rw [h1] at hop; cases hop
          | some ti =>
            rw [h1] at hop; simp only [Option.bind_some] at hop ⊢
            cases h2 : zeroOf ti with
            | none => rw [h2] at hop; cases hop
            | some zs =>
              rw [h2] at hop; cases hop
              simp only [Option.bind_some, aNew]
              rw [if_neg hk, if_pos hl]; rfl
        · cases hop
  case store t x y =>
    refine op_ok (κ := κ) i r hb hr ?_
    rw [ho]
    simp only [aOp]
    split at hop
    · rename_i k off hx
      cases h1 : tiOf P t with
      | none => rw [h1] at hop; cases hop
      | some ti =>
        rw [h1] at hop; simp only [Option.bind_some] at hop ⊢
        cases h2 : (aEval aa.tmps y).cells with
        | none => rw [h2] at hop; cases hop
        | some ds =>
          rw [h2] at hop; simp only [Option.bind_some] at hop ⊢
          cases h3 : lget aa.locs k with
          | none => rw [h3] at hop; cases hop
          | some cs =>
            rw [h3] at hop; simp only [Option.bind_some] at hop
            split at hop
            · rename_i hc; cases hop
              rw [if_pos hc.1, hx]
              simp only [aStore, h3]
              rw [if_pos hc.2]; rfl
            · cases hop
    · cases hop
  case buildSlice t len parts =>
    cases h1 : tiOf P t with
    | none => rw [h1] at hop; cases hop
    | some ti =>
      rw [h1] at hop; simp only [Option.bind_some] at hop
      cases h2 : elemOf P ti with
      | none => rw [h2] at hop; cases hop
      | some te =>
        rw [h2] at hop; simp only [Option.bind_some] at hop
        obtain ⟨e, hk, he⟩ := elemOf_some h2
        cases h3 : zeroOf te with
        | none => rw [h3] at hop; cases hop
        | some zs =>
          rw [h3] at hop; simp only [Option.bind_some] at hop
          obtain ⟨z1, z2, z3⟩ := zeroOf_some h3
          split at hop
          · rename_i hsz
            cases hf : aFillS te.size (List.replicate len zs) (vals (aEval aa.tmps) parts.toList) with
            | none => rw [hf] at hop; cases hop
            | some ys =>
              rw [hf] at hop; cases hop
              obtain ⟨q1, _⟩ := buildSlice_ok h1 hk he z1 z2 z3 i r (parts := vals (aEval aa.tmps) parts.toList) (vs := parts.toList.map fun (i, x) => (i, a.eval x)) (by simp [vals]) (vals_rel r parts.toList (fillS_noLoc hf)) hsz hf hb hr
              have e1 : (parts.toList.map fun (i, x) => (i, a.eval x)).toArray = parts.map fun (i, x) => (i, a.eval x) := by apply Array.ext'; simp
              rw [e1] at q1
              exact good_of_done (s := Instr.buildSlice t len (parts.map fun (i, x) => (i, a.eval x))) (by unfold execOp; rw [ho]) (done_forget (i.fresh hb hr).2 q1)
          · cases hop
  all_goals exact val c (by rw [ho]; exact hop)
end
end Go.Ab
end
/- Regions whose order is open (the second part): what an operation looks at. -/
section
namespace Go.Ab

section
variable {P : Program} {κ : Tmp → Bool} {ev ev' : Operand → AVal} {op : Op}

theorem vals_congr {parts : List (Nat × Operand)} (h : ∀ p ∈ parts, ev p.2 = ev' p.2) : vals ev parts = vals ev' parts := by
  unfold vals
  exact List.map_congr_left fun p hp => by show (p.1, ev p.2) = (p.1, ev' p.2); rw [h p hp]

theorem optInt_congr {x : Option Operand} (h : ∀ y, x = some y → ev y = ev' y) : aOptInt ev x = aOptInt ev' x := by
  cases x with
  | none => rfl
  | some y => simp only [aOptInt, h y rfl]

theorem aVal_congr (h : ∀ x ∈ op.operands, ev x = ev' x) : aVal P ev op = aVal P ev' op := by
  cases op with
  | move x | assign x => simp only [aVal]; rw [h x (by simp [Op.operands])]
  | pick c x y => simp only [aVal]; rw [h c (by simp [Op.operands]), h x (by simp [Op.operands]), h y (by simp [Op.operands])]
  | build t parts => simp only [aVal]; rw [vals_congr fun p hp => h p.2 (by simp [Op.operands]; exact ⟨p.1, by simpa using hp⟩)]
  | nilCheck x => simp only [aVal]; rw [h x (by simp [Op.operands])]
  | binOp op t x y _ => simp only [aVal]; rw [h x (by simp [Op.operands]), h y (by simp [Op.operands])]
  | unOp op t x => simp only [aVal]; rw [h x (by simp [Op.operands])]
  | convert s t x => simp only [aVal]; rw [h x (by simp [Op.operands])]
  | makeInterface t x => simp only [aVal]; rw [h x (by simp [Op.operands])]
  | makeFunc fn first captured =>
    simp only [aVal]
    have e1 : first.toList.map ev = first.toList.map ev' := List.map_congr_left fun x hx => h x (by simp [Op.operands]; exact .inl (by simpa using hx))
    have e2 : captured.toList.map ev = captured.toList.map ev' := List.map_congr_left fun x hx => h x (by simp [Op.operands]; exact .inr (by simpa using hx))
    rw [e1, e2]
  | slice t x lo hi mx =>
    cases mx with
    | some _ => rfl
    | none =>
      simp only [aVal]
      rw [h x (by simp [Op.operands]), optInt_congr (x := lo) (fun y hy => h y (by subst hy; simp [Op.operands])), optInt_congr (x := hi) (fun y hy => h y (by subst hy; simp [Op.operands]))]
  | fieldAddr t x f => simp only [aVal]; rw [h x (by simp [Op.operands])]
  | field t x f => simp only [aVal]; rw [h x (by simp [Op.operands])]
  | indexAddr t x i => simp only [aVal]; rw [h x (by simp [Op.operands]), h i (by simp [Op.operands])]
  | index t x i => simp only [aVal]; rw [h x (by simp [Op.operands]), h i (by simp [Op.operands])]
  | extract x i => simp only [aVal]; rw [h x (by simp [Op.operands])]
  | call cl =>
    obtain ⟨callee, xs, ts⟩ := cl
    have hx : ∀ x ∈ xs.toList, ev x = ev' x := fun x hx => h x (by simp [Op.operands, Call.operands]; exact .inr (by simpa using hx))
    cases callee with
    | builtin b =>
      cases b <;> simp only [aVal]
      · split
        · rename_i e1 e2; rw [e2] at hx; rw [hx _ (by simp)]
        · rfl
      · split
        · rename_i e2; rw [e2] at hx; rw [hx _ (by simp), hx _ (by simp)]
        · rfl
      · split
        · rename_i e2; rw [e2] at hx; rw [hx _ (by simp), hx _ (by simp)]
        · rfl
    | _ => rfl
  | _ => rfl

/-- The variables of the call that an operation looks at. -/
def locNames (ev : Operand → AVal) (dst : Option Tmp) : Op → List Nat
  | .load _ x => match ev x with
    | .loc k _ => [2 * k + 1]
    | _ => []
  | .store _ x _ => match ev x with
    | .loc k _ => [2 * k + 1]
    | _ => []
  | .alloc _ => match dst with
    | some d => [2 * d + 1]
    | none => []
  | _ => []

def tmpNames (xs : List Operand) : List Nat := xs.filterMap fun
  | .tmp t => some (2 * t)
  | _ => none

theorem aOpQ_congr {lg lg' blk : Nat → Option (List AVal)} {dst : Option Tmp} (h : ∀ x ∈ op.operands, ev x = ev' x) (hl : ∀ k, 2 * k + 1 ∈ locNames ev dst op → lg k = lg' k) :
    aOpQ P κ ev lg blk dst op = aOpQ P κ ev' lg' blk dst op := by
  cases op with
  | load t x =>
    simp only [aOpQ]
    rw [← h x (by simp [Op.operands])]
    congr 1; funext ti; congr 1
    cases hx : ev x <;> simp only [aBehindQ]
    rw [hl _ (by simp [locNames, hx])]
  | alloc t =>
    simp only [aOpQ]
    cases dst with
    | none => rfl
    | some d => simp only; rw [hl d (by simp [locNames])]
  | store t x y =>
    simp only [aOpQ]
    rw [← h x (by simp [Op.operands]), ← h y (by simp [Op.operands])]
    cases hx : ev x <;> simp only
    rw [hl _ (by simp [locNames, hx])]
  | buildSlice t len parts =>
    simp only [aOpQ]
    rw [vals_congr fun p hp => h p.2 (by simp [Op.operands]; exact ⟨p.1, by simpa using hp⟩)]
  | _ => simp only [aOpQ]; rw [aVal_congr h]

end

/-- A call that turns nothing, and hands back always the same. -/
def QCall (P : Program) (f : FuncId) (args : List AVal) (blk : Nat → Option (List AVal)) (r : AVal) : Prop :=
  ∀ h : AHeap, h.blk = blk → ACalls P f args h fun r' h' => r' = r ∧ h' = h

/-- One operation of a region whose order is open, as it was carried out: the slots and variables that it looked at, what it handed back, the variable that it wrote. -/
structure QRec where
  o : Oper
  rd : List Nat
  c : AVal
  lw : Option (Nat × List AVal)

def QRec.wr (r : QRec) : List Nat := (match r.o.dst with | some d => [2 * d] | none => []) ++ (match r.lw with | some (k, _) => [2 * k + 1] | none => [])
def QRec.app (r : QRec) (aa : AAct) : AAct := ⟨(aPut aa r.o.dst r.c).tmps, applyL aa.locs r.lw⟩

def guardNames (ops : List Oper) (o : Oper) : List Nat :=
  match o.guard with
  | none => []
  | some (j, _) => match (ops[j]?).bind (·.dst) with
    | some d => [2 * d]
    | none => []

/-- The model's step at an operation that may be passed over. -/
def bodyWp (P : Program) (ops : Array Oper) (o : Oper) (a : Act) (w : World) (next : Act → World → Prop) (Q : Exit → Act → World → Prop) : Prop :=
  if Region.wanted o (yielded ops a.tmps) then o.wp P a w next Q ∨ (o.asks P a w ∧ LetsOut Q) else next (a.put o.dst undef) w

/-- What an operation did it does in whatever state has what it looked at. -/
def QEv (P : Program) (ops : List Oper) (blk : Nat → Option (List AVal)) (aa : AAct) (r : QRec) : Prop :=
  ∀ (aa' : AAct) (h : AHeap), h.blk = blk → aa'.tmps.length = aa.tmps.length → (∀ x ∈ r.rd, nv aa' x = nv aa x) → ∀ G L w a, Inv G h w → ActRel G L w aa' a → ∀ (next : Act → World → Prop) (Q : Exit → Act → World → Prop),
    (∀ G' L' w' a', Ext G L w G' L' w' → Inv G' h w' → ActRel G' L' w' (r.app aa') a' → next a' w') → bodyWp P ops.toArray r.o a w next Q

def quietK (P : Program) (κ : Tmp → Bool) (blk : Nat → Option (List AVal)) (o : Oper) (aa : AAct) (k : AVal → Option (Nat × List AVal) → Prop) : Prop :=
  match o.op with
  | .call ⟨.value (.func f), args, _⟩ => (args.toList.map (aEval aa.tmps)).any AVal.isLoc = false ∧ Callable P f ∧ ∃ r, QCall P f (args.toList.map (aEval aa.tmps)) blk r ∧ k r none
  | op => W (aOpQ P κ (aEval aa.tmps) (lget aa.locs) blk o.dst op) fun x => if isTest op then splitBool x.1 fun c => k c x.2 else k x.1 x.2

/-- Operations that only read, or make memory, in the order of the text. -/
def RQ (P : Program) (κ : Tmp → Bool) (ops : List Oper) (blk : Nat → Option (List AVal)) : List Oper → List QRec → AAct → (List QRec → AAct → Prop) → Prop
  | [], acc, aa, k => k acc aa
  | o :: rest, acc, aa, k => match aWanted ops aa.tmps o with
    | none => False
    | some false => RQ P κ ops blk rest (acc ++ [⟨o, guardNames ops o, .undef, none⟩]) (QRec.app ⟨o, guardNames ops o, .undef, none⟩ aa) k
    | some true => quietK P κ blk o aa fun c lw =>
        RQ P κ ops blk rest (acc ++ [⟨o, guardNames ops o ++ (tmpNames o.op.operands.toList ++ locNames (aEval aa.tmps) o.dst o.op), c, lw⟩])
          (QRec.app ⟨o, guardNames ops o ++ (tmpNames o.op.operands.toList ++ locNames (aEval aa.tmps) o.dst o.op), c, lw⟩ aa) k

section
variable {P : Program} {κ : Tmp → Bool} {ops : List Oper} {blk : Nat → Option (List AVal)}

theorem nv_tmp (aa : AAct) (t : Nat) : nv aa (2 * t) = (aa.tmps[t]?).map fun c => [c] := by
  unfold nv; rw [if_pos (by omega), show 2 * t / 2 = t by omega]
theorem nv_loc (aa : AAct) (k : Nat) : nv aa (2 * k + 1) = lget aa.locs k := by
  unfold nv; rw [if_neg (by omega), show (2 * k + 1) / 2 = k by omega]
theorem nv_tmp_eq {aa aa' : AAct} {t : Nat} (h : nv aa' (2 * t) = nv aa (2 * t)) : aa'.tmps[t]? = aa.tmps[t]? := by
  rw [nv_tmp, nv_tmp] at h
  cases h1 : aa'.tmps[t]? <;> cases h2 : aa.tmps[t]? <;> rw [h1, h2] at h <;> simp at h ⊢
  exact h

theorem ev_names {aa aa' : AAct} {xs : List Operand} (h : ∀ x ∈ tmpNames xs, nv aa' x = nv aa x) : ∀ x ∈ xs, aEval aa.tmps x = aEval aa'.tmps x := by
  intro x hx
  cases x with
  | tmp t =>
    have := nv_tmp_eq (h (2 * t) (List.mem_filterMap.2 ⟨_, hx, rfl⟩))
    simp only [aEval, List.getD_eq_getElem?_getD, this]
  | _ => rfl

theorem wanted_names {aa aa' : AAct} {o : Oper} (h : ∀ x ∈ guardNames ops o, nv aa' x = nv aa x) : aWanted ops aa'.tmps o = aWanted ops aa.tmps o := by
  unfold aWanted
  unfold guardNames at h
  cases hg : o.guard with
  | none => rfl
  | some jw =>
    obtain ⟨j, want⟩ := jw
    rw [hg] at h
    simp only at h ⊢
    cases hd : (ops[j]?).bind (·.dst) with
    | none => rfl
    | some d =>
      rw [hd] at h
      simp only at h ⊢
      rw [nv_tmp_eq (h (2 * d) (by simp))]

theorem skip_ev {aa : AAct} {o : Oper} (hw : aWanted ops aa.tmps o = some false) : QEv P ops blk aa ⟨o, guardNames ops o, .undef, none⟩ := by
  intro aa' h _ _ hrd G L w a i r next Q hk
  unfold bodyWp
  have hw' : aWanted ops aa'.tmps o = some false := by rw [wanted_names hrd]; exact hw
  rw [if_neg (by rw [wanted_ok r hw']; simp)]
  refine hk G L w _ (Ext.refl _ _ _) i ?_
  have := aPut_ok r o.dst (.inl (VR.undef (G := G)))
  have e : (⟨(aPut aa' o.dst .undef).tmps, aa'.locs⟩ : AAct) = aPut aa' o.dst .undef := by cases o.dst <;> rfl
  show ActRel G L w ⟨(aPut aa' o.dst .undef).tmps, aa'.locs⟩ (a.put o.dst undef)
  rw [e]; exact this

theorem applyL_put {aa : AAct} {dst : Option Tmp} {c : AVal} {lw : Option (Nat × List AVal)} : aPut ⟨aa.tmps, applyL aa.locs lw⟩ dst c = ⟨(aPut aa dst c).tmps, applyL aa.locs lw⟩ := by
  cases dst <;> rfl

theorem good_wp {o : Oper} {G L w aa a h} {c : AVal} {lw : Option (Nat × List AVal)} (g : Good P G L w aa a o c (applyL aa.locs lw) h) {next : Act → World → Prop} {Q : Exit → Act → World → Prop}
    (hk : ∀ G' L' w' a', Ext G L w G' L' w' → Inv G' h w' → ActRel G' L' w' ⟨(aPut aa o.dst c).tmps, applyL aa.locs lw⟩ a' → next a' w') : o.wp P a w next Q := by
  obtain ⟨x, w', G', L', q1, q2, q3, q4, v, q5, q6⟩ := g
  unfold Oper.wp
  rw [q1]
  have fin : next (a.put o.dst v) w' := by
    refine hk G' L' w' _ q2 q3 ?_
    rw [← applyL_put]
    exact aPut_ok q4 o.dst q5
  rcases q6 with rfl | ⟨rfl, rfl⟩
  · exact fin
  · exact fin

theorem op_ev {aa : AAct} {o : Oper} {c c' : AVal} {lw : Option (Nat × List AVal)} (hw : aWanted ops aa.tmps o = some true) (hop : aOpQ P κ (aEval aa.tmps) (lget aa.locs) blk o.dst o.op = some (c, lw)) (hc : c' = c) :
    QEv P ops blk aa ⟨o, guardNames ops o ++ (tmpNames o.op.operands.toList ++ locNames (aEval aa.tmps) o.dst o.op), c', lw⟩ := by
  subst hc
  intro aa' h hblk _ hrd G L w a i r next Q hk
  unfold bodyWp
  have hw' : aWanted ops aa'.tmps o = some true := by rw [wanted_names fun x hx => hrd x (List.mem_append_left _ hx)]; exact hw
  rw [if_pos (wanted_ok r hw')]
  have h1 := ev_names (aa := aa) (aa' := aa') (xs := o.op.operands.toList) fun x hx => hrd x (List.mem_append_right _ (List.mem_append_left _ hx))
  have hop' : aOpQ P κ (aEval aa'.tmps) (lget aa'.locs) h.blk o.dst o.op = some (c', lw) := by
    rw [hblk, ← aOpQ_congr (ev := aEval aa.tmps) (lg := lget aa.locs) (fun x hx => h1 x (by simpa using hx)) (fun k hk => ?_)]
    · exact hop
    · have := hrd (2 * k + 1) (List.mem_append_right _ (List.mem_append_right _ hk))
      rw [nv_loc, nv_loc] at this
      exact this.symm
  exact .inl (good_wp (opQ_ok i r hop') hk)

theorem call_ev {aa : AAct} {o : Oper} {f : FuncId} {args : Array Operand} {ts : Array TypeId} {c : AVal} (ho : o.op = .call ⟨.value (.func f), args, ts⟩) (hw : aWanted ops aa.tmps o = some true)
    (hl : (args.toList.map (aEval aa.tmps)).any AVal.isLoc = false) (hf : Callable P f) (hq : QCall P f (args.toList.map (aEval aa.tmps)) blk c) :
    QEv P ops blk aa ⟨o, guardNames ops o ++ (tmpNames o.op.operands.toList ++ locNames (aEval aa.tmps) o.dst o.op), c, none⟩ := by
  intro aa' h hblk _ hrd G L w a i r next Q hk
  unfold bodyWp
  have hw' : aWanted ops aa'.tmps o = some true := by rw [wanted_names fun x hx => hrd x (List.mem_append_left _ hx)]; exact hw
  rw [if_pos (wanted_ok r hw')]
  have h1 := ev_names (aa := aa) (aa' := aa') (xs := o.op.operands.toList) fun x hx => hrd x (List.mem_append_right _ (List.mem_append_left _ hx))
  have hm : args.toList.map (aEval aa'.tmps) = args.toList.map (aEval aa.tmps) := List.map_congr_left fun x hx => (h1 x (by rw [ho]; simp [Op.operands, Call.operands]; exact .inr (by simpa using hx))).symm
  refine .inl (stepW_ok (κ := fun _ => false) (h := h) (k := fun aa₂ h₂ => aa₂ = aPut aa' o.dst c ∧ h₂ = h) ?_ i r ?_)
  · unfold stepW
    rw [ho]
    simp only [aEval, hm]
    refine ⟨hl, hf, ?_⟩
    simp only [List.nil_append, List.append_nil]
    exact (hq h hblk).mono fun r' h' ⟨e1, e2⟩ => by subst e1; subst e2; exact ⟨rfl, rfl⟩
  · rintro G' L' w' aa₂ a' h₂ x i' r' ⟨rfl, rfl⟩
    refine hk G' L' w' a' x i' ?_
    have e : (⟨(aPut aa' o.dst c).tmps, aa'.locs⟩ : AAct) = aPut aa' o.dst c := by cases o.dst <;> rfl
    show ActRel G' L' w' ⟨(aPut aa' o.dst c).tmps, aa'.locs⟩ a'
    rw [e]; exact r'
end
end Go.Ab
end
/- Regions whose order is open (the third part): in whatever order, it comes to the same. -/
section
namespace Go.Ab

def st (aa : AAct) (recs : List QRec) (k : Nat) : AAct := (recs.take k).foldl (fun aa r => r.app aa) aa

theorem st_zero (aa : AAct) (recs : List QRec) : st aa recs 0 = aa := rfl
theorem st_succ {aa : AAct} {recs : List QRec} {k : Nat} {r : QRec} (h : recs[k]? = some r) : st aa recs (k + 1) = r.app (st aa recs k) := by
  have hk := (List.getElem?_eq_some_iff.1 h).1
  unfold st
  rw [List.take_succ_eq_append_getElem hk, List.foldl_append]
  have : recs[k] = r := by rw [List.getElem?_eq_getElem hk] at h; exact Option.some.inj h
  rw [this]; rfl
theorem st_cons (aa : AAct) (r : QRec) (recs : List QRec) (k : Nat) : st aa (r :: recs) (k + 1) = st (r.app aa) recs k := rfl

section
variable {P : Program} {κ : Tmp → Bool} {ops : List Oper} {blk : Nat → Option (List AVal)}

theorem rq_ok : ∀ (l : List Oper) (acc : List QRec) (aa : AAct) (k : List QRec → AAct → Prop), RQ P κ ops blk l acc aa k →
    ∃ recs, recs.length = l.length ∧ k (acc ++ recs) (st aa recs recs.length) ∧ ∀ (i : Nat) r, recs[i]? = some r → l[i]? = some r.o ∧ QEv P ops blk (st aa recs i) r
  | [], acc, aa, k, h => ⟨[], rfl, by simp only [RQ] at h; simpa [st] using h, fun i r hr => by simp at hr⟩
  | o :: rest, acc, aa, k, h => by
    have fin : ∀ r : QRec, r.o = o → QEv P ops blk aa r → RQ P κ ops blk rest (acc ++ [r]) (r.app aa) k →
        ∃ recs, recs.length = (o :: rest).length ∧ k (acc ++ recs) (st aa recs recs.length) ∧ ∀ (i : Nat) r, recs[i]? = some r → (o :: rest)[i]? = some r.o ∧ QEv P ops blk (st aa recs i) r := by
      intro r ho he hr
      obtain ⟨recs, h1, h2, h3⟩ := rq_ok rest _ _ _ hr
      refine ⟨r :: recs, by simp [h1], ?_, fun i r' hr' => ?_⟩
      · rw [List.length_cons, st_cons]; simpa using h2
      · cases i with
        | zero => simp at hr'; subst hr'; exact ⟨by simp [ho], he⟩
        | succ i => simp only [List.getElem?_cons_succ] at hr' ⊢; rw [st_cons]; exact h3 i r' hr'
    simp only [RQ] at h
    split at h
    · exact h.elim
    · rename_i hw
      exact fin _ rfl (skip_ev hw) h
    · rename_i hw
      unfold quietK at h
      split at h
      · rename_i f args ts ho
        obtain ⟨h1, h2, r, h3, h4⟩ := h
        exact fin _ rfl (call_ev ho hw h1 h2 h3) h4
      · obtain ⟨⟨c, lw⟩, e1, e2⟩ := h
        simp only at e2
        split at e2
        · cases c with
          | bool b =>
            simp only [splitBool] at e2
            cases b
            · exact fin _ rfl (op_ev hw e1 rfl) (e2.2 rfl)
            · exact fin _ rfl (op_ev hw e1 rfl) (e2.1 rfl)
          | _ => exact fin _ rfl (op_ev hw e1 rfl) e2
        · exact fin _ rfl (op_ev hw e1 rfl) e2

/-- Operation i comes ahead of operation j, whatever the order. -/
def befB (ops : List Oper) (i j : Nat) : Bool := ((Region.before ops.toArray).getD j 0).testBit i

def apartB (a b : QRec) : Bool := a.wr.all (fun x => !(b.rd ++ b.wr).contains x) && a.rd.all (fun x => !b.wr.contains x)

/-- Two that look at or write one name come in one order. -/
def traceB (ops : List Oper) (recs : List QRec) : Bool :=
  recs.zipIdx.all fun (b, j) => recs.zipIdx.all fun (a, i) => decide (j ≤ i) || (befB ops i j || apartB a b)

/-- Every edge leads back; from m on each operation comes behind all ahead of it. -/
def edgesB (ops : List Oper) : Bool := ops.zipIdx.all fun (o, j) => o.after.all fun e => !Region.binds .any e || decide (e.on < j)
def tailB (ops : List Oper) (m : Nat) : Bool := (List.range ops.length).all fun k => decide (k < m) || (List.range k).all fun i => befB ops i k

theorem nv_app_out {r : QRec} {aa : AAct} {x : Nat} (h : x ∉ r.wr) : nv (r.app aa) x = nv aa x := by
  unfold QRec.wr at h
  simp only [List.mem_append, not_or] at h
  obtain ⟨h1, h2⟩ := h
  rcases Nat.mod_two_eq_zero_or_one x with hx | hx
  · obtain ⟨t, rfl⟩ : ∃ t, x = 2 * t := ⟨x / 2, by omega⟩
    rw [nv_tmp, nv_tmp]
    unfold QRec.app
    cases hd : r.o.dst with
    | none => rfl
    | some d =>
      rw [hd] at h1
      simp at h1
      simp only [aPut]
      rw [List.getElem?_set_ne (by omega)]
  · obtain ⟨k, rfl⟩ : ∃ k, x = 2 * k + 1 := ⟨x / 2, by omega⟩
    rw [nv_loc, nv_loc]
    unfold QRec.app
    cases hl : r.lw with
    | none => rfl
    | some kc =>
      obtain ⟨k', cs⟩ := kc
      rw [hl] at h2
      simp at h2
      simp only [applyL, lget_lset]
      rw [if_neg (by omega)]

theorem app_len {r : QRec} {aa : AAct} : (r.app aa).tmps.length = aa.tmps.length := by
  unfold QRec.app aPut; cases r.o.dst <;> simp

theorem nv_app_in {r : QRec} {aa aa' : AAct} {x : Nat} (h : x ∈ r.wr) (hl : aa'.tmps.length = aa.tmps.length) : nv (r.app aa') x = nv (r.app aa) x := by
  unfold QRec.wr at h
  rcases List.mem_append.1 h with h | h
  · cases hd : r.o.dst with
    | none => rw [hd] at h; simp at h
    | some d =>
      rw [hd] at h; simp at h; subst h
      rw [nv_tmp, nv_tmp]
      unfold QRec.app
      simp only [hd, aPut]
      rw [List.getElem?_set, List.getElem?_set, if_pos rfl, if_pos rfl, hl]
  · cases hd : r.lw with
    | none => rw [hd] at h; simp at h
    | some kc =>
      obtain ⟨k, cs⟩ := kc
      rw [hd] at h; simp at h; subst h
      rw [nv_loc, nv_loc]
      unfold QRec.app
      simp only [hd, applyL, lget_lset, if_true]

def wrAt (recs : List QRec) (k : Nat) : List Nat := match recs[k]? with | some r => r.wr | none => []

/-- What a name holds when just these have been carried out. -/
def lastv (aa : AAct) (recs : List QRec) (S : Nat → Bool) (x : Nat) : Nat → Option (List AVal)
  | 0 => nv aa x
  | k + 1 => if S k = true ∧ x ∈ wrAt recs k then nv (st aa recs (k + 1)) x else lastv aa recs S x k

theorem lastv_all {aa : AAct} {recs : List QRec} {S : Nat → Bool} {x : Nat} : ∀ k, k ≤ recs.length → (∀ i, i < k → S i = true ∨ x ∉ wrAt recs i) → lastv aa recs S x k = nv (st aa recs k) x
  | 0, _, _ => rfl
  | k + 1, hk, h => by
    simp only [lastv]
    have hr : recs[k]? = some recs[k] := List.getElem?_eq_getElem (by omega)
    split
    · rfl
    · rename_i hc
      rw [lastv_all k (by omega) fun i hi => h i (by omega), st_succ hr]
      have hn : x ∉ wrAt recs k := by
        rcases h k (by omega) with h | h
        · exact fun hx => hc ⟨h, hx⟩
        · exact h
      unfold wrAt at hn
      rw [hr] at hn
      rw [nv_app_out hn]

theorem lastv_stop {aa : AAct} {recs : List QRec} {S : Nat → Bool} {x : Nat} {j : Nat} : ∀ k, j ≤ k → (∀ i, j ≤ i → i < k → ¬ (S i = true ∧ x ∈ wrAt recs i)) → lastv aa recs S x k = lastv aa recs S x j
  | 0, hj, _ => by rw [Nat.le_zero.1 hj]
  | k + 1, hj, h => by
    by_cases e : j = k + 1
    · rw [e]
    · simp only [lastv]
      rw [if_neg (h k (by omega) (by omega))]
      exact lastv_stop k (by omega) fun i h1 h2 => h i h1 (by omega)

theorem lastv_congr {aa : AAct} {recs : List QRec} {S S' : Nat → Bool} {x : Nat} : ∀ k, (∀ i, i < k → x ∈ wrAt recs i → S i = S' i) → lastv aa recs S x k = lastv aa recs S' x k
  | 0, _ => rfl
  | k + 1, h => by
    simp only [lastv]
    rw [lastv_congr k fun i hi => h i (by omega)]
    by_cases hx : x ∈ wrAt recs k
    · rw [h k (by omega) hx]
    · simp [hx]

/-- The set of those that have been carried out holds, with each, those that come ahead of it. -/
def Closed (ops : List Oper) (S : Nat → Bool) : Prop := ∀ (j : Nat) o, ops[j]? = some o → S j = true → ∀ e ∈ o.after, Region.binds .any e = true → S e.on = true

def befF (acc : Array Nat) (o : Oper) : Nat := o.after.toList.foldl (fun s e => if Region.binds .any e then s ||| 2 ^ e.on ||| acc.getD e.on 0 else s) 0
def befL (l : List Oper) (acc : Array Nat) : Array Nat := l.foldl (fun acc o => acc.push (befF acc o)) acc

theorem before_eq (l : List Oper) : Region.before l.toArray = befL l #[] := by
  unfold Region.before befL
  rw [← Array.foldl_toList]
  congr 1
  funext acc o
  rw [← Array.foldl_toList]; rfl

theorem befL_pre : ∀ (l : List Oper) (acc : Array Nat), ∃ ext : List Nat, befL l acc = acc ++ ext.toArray
  | [], acc => ⟨[], by simp [befL]⟩
  | o :: l, acc => by
    obtain ⟨ext, he⟩ := befL_pre l (acc.push (befF acc o))
    exact ⟨befF acc o :: ext, by
      have : befL (o :: l) acc = befL l (acc.push (befF acc o)) := rfl
      rw [this, he]; simp⟩

theorem befL_size : ∀ (l : List Oper) (acc : Array Nat), (befL l acc).size = acc.size + l.length
  | [], acc => by simp [befL]
  | o :: l, acc => by
    have : befL (o :: l) acc = befL l (acc.push (befF acc o)) := rfl
    rw [this, befL_size l]; simp; omega

theorem before_get {ops : List Oper} {j : Nat} {o : Oper} (ho : ops[j]? = some o) {i : Nat} (hb : ((befL ops #[]).getD j 0).testBit i = true) :
    ∃ e ∈ o.after, Region.binds .any e = true ∧ (i = e.on ∨ ((befL (ops.take j) #[]).getD e.on 0).testBit i = true) := by
  have hj := (List.getElem?_eq_some_iff.1 ho).1
  have hoj : ops[j] = o := by rw [List.getElem?_eq_getElem hj] at ho; exact Option.some.inj ho
  have hsplit : ops = ops.take j ++ o :: ops.drop (j + 1) := by
    rw [← hoj, List.getElem_cons_drop, List.take_append_drop]
  have key : (befL ops #[]).getD j 0 = befF (befL (ops.take j) #[]) o := by
    have h1 : befL ops #[] = befL (ops.drop (j + 1)) ((befL (ops.take j) #[]).push (befF (befL (ops.take j) #[]) o)) := by
      conv => lhs; rw [hsplit]
      unfold befL
      rw [List.foldl_append, List.foldl_cons]
    obtain ⟨ext, he⟩ := befL_pre (ops.drop (j + 1)) ((befL (ops.take j) #[]).push (befF (befL (ops.take j) #[]) o))
    have hsz := befL_size (ops.take j) #[]
    have hsz' : (befL (ops.take j) #[]).size = j := by rw [hsz]; simp; omega
    rw [h1, he, Array.getD_eq_getD_getElem?, Array.getElem?_append_left (by rw [Array.size_push, hsz']; omega), Array.getElem?_push, if_pos hsz'.symm]
    rfl
  rw [key] at hb
  have fold : ∀ (l : List Edge) (s : Nat), (l.foldl (fun s e => if Region.binds .any e then s ||| 2 ^ e.on ||| (befL (ops.take j) #[]).getD e.on 0 else s) s).testBit i = true →
      s.testBit i = true ∨ ∃ e ∈ l, Region.binds .any e = true ∧ (i = e.on ∨ ((befL (ops.take j) #[]).getD e.on 0).testBit i = true) := by
    intro l
    induction l with
    | nil => intro s h; exact .inl h
    | cons e l ih =>
      intro s h
      rw [List.foldl_cons] at h
      rcases ih _ h with h | ⟨e', h1, h2⟩
      · split at h
        · rename_i hbi
          simp only [Nat.testBit_or, Bool.or_eq_true, Nat.testBit_two_pow, decide_eq_true_eq] at h
          rcases h with (h | h) | h
          · exact .inl h
          · exact .inr ⟨e, by simp, hbi, .inl h.symm⟩
          · exact .inr ⟨e, by simp, hbi, .inr h⟩
        · exact .inl h
      · exact .inr ⟨e', by simp [h1], h2⟩
  rcases fold _ _ hb with h | ⟨e, h1, h2⟩
  · simp at h
  · exact ⟨e, by simpa using h1, h2⟩

theorem before_in {S : Nat → Bool} : ∀ (n : Nat) {ops : List Oper}, ops.length = n → Closed ops S → ∀ {j : Nat} {o : Oper}, ops[j]? = some o → (∀ e ∈ o.after, Region.binds .any e = true → S e.on = true) →
    ∀ {i : Nat}, ((befL ops #[]).getD j 0).testBit i = true → S i = true := by
  intro n
  induction n using Nat.strongRecOn with
  | _ n ih =>
    intro ops hn hc j o ho he i hb
    obtain ⟨e, h1, h2, h3⟩ := before_get ho hb
    rcases h3 with rfl | h3
    · exact he e h1 h2
    · have hj := (List.getElem?_eq_some_iff.1 ho).1
      cases ho' : (ops.take j)[e.on]? with
      | none =>
        have hsz := befL_size (ops.take j) #[]
        have : (befL (ops.take j) #[])[e.on]? = none := Array.getElem?_eq_none (by
          have := List.getElem?_eq_none_iff.1 ho'
          rw [hsz]; simpa using this)
        rw [Array.getD_eq_getD_getElem?, this] at h3
        simp at h3
      | some o' =>
        have ho2 : ops[e.on]? = some o' := by
          rw [List.getElem?_take] at ho'
          split at ho'
          · exact ho'
          · cases ho'
        refine ih (ops.take j).length (by simp; omega) rfl (fun k q hq => hc k q ?_) ho' (hc _ _ ho2 (he e h1 h2)) h3
        rw [List.getElem?_take] at hq
        split at hq
        · exact hq
        · cases hq

theorem bef_in {S : Nat → Bool} (hc : Closed ops S) {j : Nat} {o : Oper} (ho : ops[j]? = some o) (he : ∀ e ∈ o.after, Region.binds .any e = true → S e.on = true) {i : Nat} (hb : befB ops i j = true) : S i = true := by
  unfold befB at hb
  rw [before_eq] at hb
  exact before_in _ rfl hc ho he hb

theorem trace_spec {recs : List QRec} (h : traceB ops recs = true) {i j : Nat} {a b : QRec} (ha : recs[i]? = some a) (hb : recs[j]? = some b) (hij : i < j) : befB ops i j = true ∨ apartB a b = true := by
  unfold traceB at h
  have h1 := List.all_eq_true.1 h (b, j) (List.mem_zipIdx_iff_getElem?.2 hb)
  have h2 := List.all_eq_true.1 h1 (a, i) (List.mem_zipIdx_iff_getElem?.2 ha)
  simp only [Bool.or_eq_true, decide_eq_true_eq] at h2
  rcases h2 with h2 | h2
  · omega
  · exact h2

theorem apart_wr_rd {a b : QRec} (h : apartB a b = true) {x : Nat} (ha : x ∈ a.wr) : x ∉ b.rd ∧ x ∉ b.wr := by
  unfold apartB at h
  rw [Bool.and_eq_true] at h
  have := List.all_eq_true.1 h.1 x ha
  simpa using this
theorem apart_rd_wr {a b : QRec} (h : apartB a b = true) {x : Nat} (ha : x ∈ a.rd) : x ∉ b.wr := by
  unfold apartB at h
  rw [Bool.and_eq_true] at h
  have := List.all_eq_true.1 h.2 x ha
  simpa using this

end
end Go.Ab
end
/- Regions whose order is open (the fourth part): in whatever order, it comes to the same. -/
section
namespace Go.Ab

theorem countP_set {p q : Nat → Bool} {i : Nat} : ∀ {n : Nat}, i < n → p i = true → q i = false → (∀ j, j ≠ i → q j = p j) → (List.range n).countP p = (List.range n).countP q + 1
  | 0, h, _, _, _ => by omega
  | n + 1, h, h1, h2, h3 => by
    rw [List.range_succ, List.countP_append, List.countP_append]
    by_cases e : i = n
    · subst e
      have : (List.range i).countP p = (List.range i).countP q := List.countP_congr fun x hx => by rw [h3 x (by have := List.mem_range.1 hx; omega)]
      simp [this, h1, h2]
    · rw [countP_set (by omega) h1 h2 h3]
      simp [h3 n (fun e' => e e'.symm)]
      omega

section
variable {P : Program} {κ : Tmp → Bool} {ops : List Oper} {blk : Nat → Option (List AVal)}

theorem mem_any_ready {listed : Array Bool} {j : Nat} : j ∈ Region.ready .any ops.toArray listed ↔ listed.getD j true = false ∧ ∃ o, ops[j]? = some o ∧ ∀ e ∈ o.after, Region.binds .any e = true → listed.getD e.on false = true := by
  rw [mem_ready]; simp

theorem set_get {listed : Array Bool} {i j : Nat} (hi : i < listed.size) (b : Bool) : (listed.setIfInBounds i true).getD j b = if j = i then true else listed.getD j b := by
  rw [Array.getD_eq_getD_getElem?, Array.getElem?_setIfInBounds]
  by_cases e : i = j
  · subst e; simp [hi]
  · rw [if_neg e, if_neg (fun e' => e e'.symm), Array.getD_eq_getD_getElem?]

theorem getD_same {listed : Array Bool} {j : Nat} (hj : j < listed.size) (b c : Bool) : listed.getD j b = listed.getD j c := by
  rw [Array.getD_eq_getD_getElem?, Array.getD_eq_getD_getElem?, Array.getElem?_eq_getElem hj]; rfl

/-- The tail: one behind the other. -/
theorem tail_phase {K : AAct → AHeap → Prop} {Q : Exit → Act → World → Prop} {m : Nat} (ht : tailB ops m = true) (_hE : edgesB ops = true) : ∀ (f k : Nat) (listed : Array Bool) (aa : AAct) (h : AHeap), k + f = ops.length → m ≤ k → listed.size = ops.length →
    (∀ i, i < ops.length → listed.getD i true = decide (i < k)) → RL P κ ops K (ops.drop k) aa h → ∀ {G L w a}, Inv G h w → ActRel G L w aa a →
    (∀ G' L' w' aa' a' h', Ext G L w G' L' w' → Inv G' h' w' → ActRel G' L' w' aa' a' → K aa' h' → Q .normal a' w') → wpAny P .any ops.toArray Q f listed a w := by
  intro f
  induction f with
  | zero =>
    intro k listed aa h hk hm hs hl hrl G L w a i r hq
    have hd : ops.drop k = [] := List.drop_eq_nil_of_le (by omega)
    rw [hd] at hrl
    refine ⟨?_, hq G L w aa a h (Ext.refl _ _ _) i r hrl⟩
    apply List.eq_nil_iff_forall_not_mem.2
    intro j hj
    obtain ⟨h1, o, h2, _⟩ := mem_any_ready.1 hj
    have hjl := (List.getElem?_eq_some_iff.1 h2).1
    rw [hl j hjl] at h1
    simp at h1; omega
  | succ f ih =>
    intro k listed aa h hk hm hs hl hrl G L w a i r hq
    have hkl : k < ops.length := by omega
    have hready : ∀ j, j ∈ Region.ready .any ops.toArray listed → j = k := by
      intro j hj
      obtain ⟨h1, o, h2, h3⟩ := mem_any_ready.1 hj
      have hjl := (List.getElem?_eq_some_iff.1 h2).1
      rw [hl j hjl] at h1
      simp at h1
      rcases Nat.lt_or_ge k j with hlt | hge
      · exfalso
        unfold tailB at ht
        have q1 := List.all_eq_true.1 ht j (List.mem_range.2 hjl)
        simp only [Bool.or_eq_true, decide_eq_true_eq] at q1
        have q2 : (List.range j).all (fun i => befB ops i j) = true := by rcases q1 with q1 | q1; omega; exact q1
        have q3 := List.all_eq_true.1 q2 k (List.mem_range.2 hlt)
        have hcl : Closed ops (fun i => decide (i < k)) := by
          intro j' o' ho' hS e he hb
          simp only [decide_eq_true_eq] at hS ⊢
          unfold edgesB at _hE
          have q4 := List.all_eq_true.1 _hE (o', j') (List.mem_zipIdx_iff_getElem?.2 ho')
          have q5 := Array.all_eq_true_iff_forall_mem.1 q4 e he
          simp [hb] at q5
          omega
        have q6 := bef_in hcl h2 (fun e he hb => by
          have q7 := h3 e he hb
          have hlt' : e.on < ops.length := by
            rcases Nat.lt_or_ge e.on ops.length with hh | hh
            · exact hh
            · rw [Array.getD_eq_getD_getElem?, Array.getElem?_eq_none (by omega)] at q7; simp at q7
          rw [getD_same (by omega) false true, hl _ hlt'] at q7
          exact q7) q3
        simp at q6
      · omega
    refine ⟨fun hnil => ?_, fun j hj => ?_⟩
    · exfalso
      have : k ∈ Region.ready .any ops.toArray listed := by
        refine mem_any_ready.2 ⟨by rw [hl k hkl]; simp, ops[k], List.getElem?_eq_getElem hkl, fun e he hb => ?_⟩
        unfold edgesB at _hE
        have q4 := List.all_eq_true.1 _hE (ops[k], k) (List.mem_zipIdx_iff_getElem?.2 (List.getElem?_eq_getElem hkl))
        have q5 := Array.all_eq_true_iff_forall_mem.1 q4 e he
        simp [hb] at q5
        rw [getD_same (by omega) false true, hl _ (by omega)]
        simpa using q5
      rw [hnil] at this; simp at this
    · have := hready j hj
      subst this
      have hdrop : ops.drop j = ops[j] :: ops.drop (j + 1) := (List.getElem_cons_drop hkl).symm
      rw [hdrop] at hrl
      have hoj : ops.toArray[j]? = some ops[j] := by simp [hkl]
      have hl' : ∀ i, i < ops.length → (listed.setIfInBounds j true).getD i true = decide (i < j + 1) := fun i hi => by
        rw [set_get (by omega), hl i hi]
        by_cases e : i = j
        · subst e; simp
        · rw [if_neg e]; congr 1; simp; omega
      unfold wpOp
      rw [hoj]
      simp only
      unfold RL at hrl
      split at hrl
      · exact hrl.elim
      · rename_i hw
        rw [if_neg (by rw [wanted_ok r hw]; simp)]
        exact ih (j + 1) _ _ h (by omega) (by omega) (by simpa using hs) hl' hrl i (aPut_ok r _ (.inl .undef)) hq
      · rename_i hw
        rw [if_pos (wanted_ok r hw)]
        refine .inl (stepW_ok hrl i r fun G' L' w' aa' a' h' x i' r' hk' => ?_)
        exact ih (j + 1) _ aa' h' (by omega) (by omega) (by simpa using hs) hl' hk' i' r' fun G₂ L₂ w₂ aa₂ a₂ h₂ x₂ i₂ r₂ k₂ => hq G₂ L₂ w₂ aa₂ a₂ h₂ (x.trans x₂) i₂ r₂ k₂

theorem act_same {G L w aa aa' a} (r : ActRel G L w aa a) (hl : aa'.tmps.length = aa.tmps.length) (h : ∀ x, nv aa' x = nv aa x) : ActRel G L w aa' a := by
  have ht : aa'.tmps = aa.tmps := List.ext_getElem? fun t => nv_tmp_eq (h (2 * t))
  have hg : ∀ k, lget aa'.locs k = lget aa.locs k := fun k => by have := h (2 * k + 1); rwa [nv_loc, nv_loc] at this
  exact ⟨r.defers, by rw [hl]; exact r.size, by rw [ht]; exact r.tmps, ⟨fun k cs hk => r.locs.cells k cs (by rw [← hg]; exact hk), fun k b hk => by rw [hg]; exact r.locs.dom k b hk, r.locs.inj⟩⟩

theorem state_len (aa : AAct) (recs : List QRec) : ∀ k, k ≤ recs.length → (st aa recs k).tmps.length = aa.tmps.length
  | 0, _ => rfl
  | k + 1, hk => by
    rw [st_succ (List.getElem?_eq_getElem (by omega)), app_len, state_len aa recs k (by omega)]

/-- The operations that come first, in whatever order. -/
theorem quiet_phase {K : AAct → AHeap → Prop} {Q : Exit → Act → World → Prop} {m : Nat} (ht : tailB ops m = true) (hE : edgesB ops = true) (hm : m ≤ ops.length) {aa0 : AAct} {recs : List QRec} {h : AHeap} (hrl : recs.length = m)
    (hrec : ∀ (i : Nat) r, recs[i]? = some r → ops[i]? = some r.o ∧ QEv P ops h.blk (st aa0 recs i) r) (htr : traceB ops recs = true) (hk : RL P κ ops K (ops.drop m) (st aa0 recs m) h) :
    ∀ (f : Nat) (listed : Array Bool) (aa : AAct), listed.size = ops.length → (List.range ops.length).countP (fun i => !listed.getD i true) = f → (∀ i, m ≤ i → i < ops.length → listed.getD i true = false) →
      Closed ops (fun i => listed.getD i false) → aa.tmps.length = aa0.tmps.length → (∀ x, nv aa x = lastv aa0 recs (fun i => listed.getD i false) x m) → ∀ {G L w a}, Inv G h w → ActRel G L w aa a →
      (∀ G' L' w' aa' a' h', Ext G L w G' L' w' → Inv G' h' w' → ActRel G' L' w' aa' a' → K aa' h' → Q .normal a' w') → wpAny P .any ops.toArray Q f listed a w := by
  have hedge : ∀ {j : Nat} {o : Oper}, ops[j]? = some o → ∀ e ∈ o.after, Region.binds .any e = true → e.on < j := by
    intro j o ho e he hb
    unfold edgesB at hE
    have q4 := List.all_eq_true.1 hE (o, j) (List.mem_zipIdx_iff_getElem?.2 ho)
    have q5 := Array.all_eq_true_iff_forall_mem.1 q4 e he
    simpa [hb] using q5
  -- when all of them are done, the tail
  have turn : ∀ (f : Nat) (listed : Array Bool) (aa : AAct), listed.size = ops.length → (List.range ops.length).countP (fun i => !listed.getD i true) = f → (∀ i, m ≤ i → i < ops.length → listed.getD i true = false) →
      (∀ i, i < m → listed.getD i true = true) → aa.tmps.length = aa0.tmps.length → (∀ x, nv aa x = lastv aa0 recs (fun i => listed.getD i false) x m) → ∀ {G L w a}, Inv G h w → ActRel G L w aa a →
      (∀ G' L' w' aa' a' h', Ext G L w G' L' w' → Inv G' h' w' → ActRel G' L' w' aa' a' → K aa' h' → Q .normal a' w') → wpAny P .any ops.toArray Q f listed a w := by
    intro f listed aa hs hf hlate hall hlen hnv G L w a i r hq
    have hfe : m + f = ops.length := by
      rw [← hf]
      have h1 : ∀ n, n ≤ ops.length → (List.range n).countP (fun i => !listed.getD i true) = n - m := by
        intro n
        induction n with
        | zero => intro _; simp
        | succ n ihn =>
          intro hn
          rw [List.range_succ, List.countP_append, ihn (by omega)]
          by_cases e : n < m
          · have h0 : [n].countP (fun i => !listed.getD i true) = 0 := by rw [List.countP_cons, List.countP_nil, hall n e]; rfl
            omega
          · have h0 : [n].countP (fun i => !listed.getD i true) = 1 := by rw [List.countP_cons, List.countP_nil, hlate n (by omega) (by omega)]; rfl
            omega
      rw [h1 _ (Nat.le_refl _)]; omega
    refine tail_phase (κ := κ) ht hE f m listed (st aa0 recs m) h hfe (Nat.le_refl _) hs (fun j hj => ?_) hk i (act_same r (by rw [state_len aa0 recs m (by omega)]; exact hlen.symm) fun x => ?_) hq
    · by_cases e : j < m
      · rw [hall j e]; simp [e]
      · rw [hlate j (by omega) hj]; simp [e]
    · rw [hnv x, lastv_all m (by omega) fun j hj => .inl (by rw [getD_same (by omega) false true]; exact hall j hj)]
  intro f
  induction f with
  | zero =>
    intro listed aa hs hf hlate hcl hlen hnv G L w a i r hq
    refine turn 0 listed aa hs hf hlate (fun j hj => ?_) hlen hnv i r hq
    have := List.countP_eq_zero.1 hf j (List.mem_range.2 (by omega))
    simpa using this
  | succ f ih =>
    intro listed aa hs hf hlate hcl hlen hnv G L w a i r hq
    by_cases hall : ∀ j, j < m → listed.getD j true = true
    · exact turn (f + 1) listed aa hs hf hlate hall hlen hnv i r hq
    · refine ⟨fun hnil => ?_, fun j hj => ?_⟩
      · -- the first that is left is ready
        exfalso
        have hex : ∃ j, j < m ∧ listed.getD j true = false := by
          apply Classical.byContradiction
          intro hn
          refine hall fun j hj => ?_
          cases hc : listed.getD j true with
          | true => rfl
          | false => exact absurd ⟨j, hj, hc⟩ hn
        have hmin : ∀ n, (∃ j, j < m ∧ listed.getD j true = false ∧ j ≤ n) → ∃ j, j < m ∧ listed.getD j true = false ∧ ∀ i, i < j → listed.getD i true = true := by
          intro n
          induction n with
          | zero => rintro ⟨j, h1, h2, h3⟩; exact ⟨j, h1, h2, fun i hi => by omega⟩
          | succ n ihn =>
            rintro ⟨j, h1, h2, h3⟩
            by_cases hh : ∃ j, j < m ∧ listed.getD j true = false ∧ j ≤ n
            · exact ihn hh
            · refine ⟨j, h1, h2, fun i hi => ?_⟩
              cases hc : listed.getD i true with
              | true => rfl
              | false => exact absurd ⟨i, by omega, hc, by omega⟩ hh
        obtain ⟨j0, e1, e2⟩ := hex
        obtain ⟨j, h1, h2, h3⟩ := hmin j0 ⟨j0, e1, e2, Nat.le_refl _⟩
        have hjl : j < ops.length := by omega
        have : j ∈ Region.ready .any ops.toArray listed := by
          refine mem_any_ready.2 ⟨h2, ops[j], List.getElem?_eq_getElem hjl, fun e he hb => ?_⟩
          have := hedge (List.getElem?_eq_getElem hjl) e he hb
          rw [getD_same (by omega) false true]; exact h3 _ this
        rw [hnil] at this; simp at this
      · obtain ⟨h1, o, h2, h3⟩ := mem_any_ready.1 hj
        have hjl := (List.getElem?_eq_some_iff.1 h2).1
        have hSj : listed.getD j false = false := by rw [getD_same (by omega) false true]; exact h1
        by_cases hjm : j < m
        · obtain ⟨rj, hrj⟩ : ∃ rj, recs[j]? = some rj := ⟨_, List.getElem?_eq_getElem (by omega)⟩
          obtain ⟨g1, g2⟩ := hrec j rj hrj
          have hoj : o = rj.o := by rw [h2] at g1; exact Option.some.inj g1
          subst hoj
          -- what it looks at is there
          have look : ∀ x ∈ rj.rd, nv aa x = nv (st aa0 recs j) x := by
            intro x hx
            have l1 : lastv aa0 recs (fun i => listed.getD i false) x m = lastv aa0 recs (fun i => listed.getD i false) x j := by
              refine lastv_stop m (by omega) (fun k hk1 hk2 ⟨hSk, hxk⟩ => ?_)
              obtain ⟨rk, hrk⟩ : ∃ rk, recs[k]? = some rk := ⟨_, List.getElem?_eq_getElem (by omega)⟩
              unfold wrAt at hxk; rw [hrk] at hxk
              by_cases e : k = j
              · subst e; rw [hSj] at hSk; cases hSk
              · rcases trace_spec htr hrj hrk (by omega) with hb | hb
                · have := bef_in hcl (hrec k rk hrk).1 (fun e he hb' => hcl k _ (hrec k rk hrk).1 hSk e he hb') hb
                  rw [hSj] at this; cases this
                · exact apart_rd_wr hb hx hxk
            have l2 : lastv aa0 recs (fun i => listed.getD i false) x j = nv (st aa0 recs j) x := by
              refine lastv_all j (by omega) (fun k hk' => ?_)
              by_cases hxk : x ∈ wrAt recs k
              · left
                obtain ⟨rk, hrk⟩ : ∃ rk, recs[k]? = some rk := ⟨_, List.getElem?_eq_getElem (by omega)⟩
                unfold wrAt at hxk; rw [hrk] at hxk
                rcases trace_spec htr hrk hrj hk' with hb | hb
                · exact bef_in hcl h2 h3 hb
                · exact absurd hx (apart_wr_rd hb hxk).1
              · exact .inr hxk
            rw [hnv x, l1, l2]
          have hget : ∀ i b, (listed.setIfInBounds j true).getD i b = if i = j then true else listed.getD i b := fun i b => set_get (by omega) b
          unfold wpOp
          have hoj' : ops.toArray[j]? = some rj.o := by simpa using h2
          rw [hoj']
          refine g2 aa h rfl (by rw [state_len aa0 recs j (by omega)]; exact hlen) look G L w a i r _ Q fun G' L' w' a' x i' r' => ?_
          refine ih _ (rj.app aa) (by simpa using hs) ?_ (fun i hi1 hi2 => ?_) ?_ (by rw [app_len]; exact hlen) (fun x => ?_) i' r' (fun G₂ L₂ w₂ aa₂ a₂ h₂ x₂ i₂ r₂ k₂ => hq G₂ L₂ w₂ aa₂ a₂ h₂ (x.trans x₂) i₂ r₂ k₂)
          · have := countP_set (p := fun i => !listed.getD i true) (q := fun i => !(listed.setIfInBounds j true).getD i true) hjl (by show (!listed.getD j true) = true; rw [h1]; rfl) (by show (!(listed.setIfInBounds j true).getD j true) = false; rw [hget]; simp) (fun k hk => by show (!(listed.setIfInBounds j true).getD k true) = (!listed.getD k true); rw [hget, if_neg hk])
            omega
          · rw [hget, if_neg (by omega)]; exact hlate i hi1 hi2
          · intro k q hq hS e he hb
            simp only at hS ⊢
            rw [hget] at hS ⊢
            split
            · rfl
            · by_cases e2 : k = j
              · subst e2
                rw [h2] at hq; cases hq
                exact h3 e he hb
              · rw [if_neg e2] at hS
                exact hcl k q hq hS e he hb
          · by_cases hx : x ∈ rj.wr
            · rw [nv_app_in hx (by rw [state_len aa0 recs j (by omega)]; exact hlen), ← st_succ hrj]
              have l3 : lastv aa0 recs (fun i => (listed.setIfInBounds j true).getD i false) x m = lastv aa0 recs (fun i => (listed.setIfInBounds j true).getD i false) x (j + 1) := by
                refine lastv_stop m (by omega) (fun k hk1 hk2 ⟨hSk, hxk⟩ => ?_)
                obtain ⟨rk, hrk⟩ : ∃ rk, recs[k]? = some rk := ⟨_, List.getElem?_eq_getElem (by omega)⟩
                unfold wrAt at hxk; rw [hrk] at hxk
                replace hSk : (listed.setIfInBounds j true).getD k false = true := hSk
                rw [hget, if_neg (by omega)] at hSk
                rcases trace_spec htr hrj hrk (by omega) with hb | hb
                · have := bef_in hcl (hrec k rk hrk).1 (fun e he hb' => hcl k _ (hrec k rk hrk).1 hSk e he hb') hb
                  replace this : listed.getD j false = true := this
                  rw [hSj] at this; cases this
                · exact (apart_wr_rd hb hx).2 hxk
              rw [l3]
              show _ = if _ then _ else _
              rw [if_pos ⟨by show (listed.setIfInBounds j true).getD j false = true; rw [hget]; simp, by unfold wrAt; rw [hrj]; exact hx⟩]
            · rw [nv_app_out hx, hnv x]
              refine lastv_congr m fun k _ hxk => ?_
              show listed.getD k false = (listed.setIfInBounds j true).getD k false
              rw [hget]
              split
              · rename_i e; subst e; unfold wrAt at hxk; rw [hrj] at hxk; exact absurd hxk hx
              · rfl
        · -- one of the tail is not ready yet
          exfalso
          refine hall fun k hk' => ?_
          unfold tailB at ht
          have q1 := List.all_eq_true.1 ht j (List.mem_range.2 hjl)
          simp only [Bool.or_eq_true, decide_eq_true_eq] at q1
          have q2 : (List.range j).all (fun i => befB ops i j) = true := by rcases q1 with q1 | q1; omega; exact q1
          have q3 := List.all_eq_true.1 q2 k (List.mem_range.2 (by omega))
          have q4 := bef_in hcl h2 h3 q3
          rw [getD_same (by omega) true false]; exact q4

end
end Go.Ab
end
