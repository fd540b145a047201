/-
  Code with regions whose order is open.
-/
import Derived.Test.YtdgfmdjlhkjbaaaBa
import Derived.Test.YtdgfmdjlhkjbaaaBb
set_option linter.all false
section
namespace Go.Ab

theorem aOp_val {P : Program} {κ : Tmp → Bool} {ev : Operand → AVal} {dst : Option Tmp} {op : Op} {ls : Locs} {h : AHeap} {n : Nat} (hv : valueOp op = true) :
    aOp P κ ev ls h n dst op = (aVal P ev op).map fun c => (c, ls, h) := by
  cases op <;> simp only [valueOp, Bool.false_eq_true] at hv
  case call cl =>
    obtain ⟨callee, xs, ts⟩ := cl
    cases callee with
    | builtin b =>
      cases b <;> simp only [Bool.false_eq_true] at hv
      case len =>
        simp only [aOp, aVal]
        cases e1 : ts.toList with
        | nil => cases e2 : xs.toList <;> simp [aBuiltin]
        | cons t ts' =>
          cases ts' with
          | cons _ _ => cases e2 : xs.toList <;> simp [aBuiltin]
          | nil =>
            cases e2 : xs.toList with
            | nil => simp [aBuiltin]
            | cons x xs' =>
              cases xs' with
              | cons _ _ => simp [aBuiltin]
              | nil =>
                simp only [aBuiltin]
                exact bind_map_congr fun ti => ite_map_congr (by rw [Option.map_map]; rfl)
      case min =>
        simp only [aOp, aVal]
        cases e2 : xs.toList with
        | nil => simp [aBuiltin]
        | cons x xs' =>
          cases xs' with
          | nil => simp [aBuiltin]
          | cons y xs'' =>
            cases xs'' with
            | cons _ _ => simp [aBuiltin]
            | nil =>
              simp only [aBuiltin]
              cases ev x <;> first | rfl | (cases ev y <;> rfl)
      case max =>
        simp only [aOp, aVal]
        cases e2 : xs.toList with
        | nil => simp [aBuiltin]
        | cons x xs' =>
          cases xs' with
          | nil => simp [aBuiltin]
          | cons y xs'' =>
            cases xs'' with
            | cons _ _ => simp [aBuiltin]
            | nil =>
              simp only [aBuiltin]
              cases ev x <;> first | rfl | (cases ev y <;> rfl)
    | _ => simp only [Bool.false_eq_true] at hv
  case slice t x lo hi mx =>
    cases mx with
    | some _ => simp at hv
    | none =>
      simp only [aOp, aVal]
      refine bind_map_congr fun ti => bind_map_congr fun l => bind_map_congr fun m => ite_map_congr ?_
      cases ti.kind <;> first | rfl | exact bind_map_congr fun te => rfl
  case move x => rfl
  case assign x => rfl
  case pick p x y =>
    simp only [aOp, aVal]
    cases ev p <;> rfl
  case build t parts =>
    simp only [aOp, aVal]
    exact bind_map_congr fun ti => bind_map_congr fun zs => ite_map_congr (by rw [Option.map_map]; rfl)
  case nilCheck x =>
    simp only [aOp, aVal]
    cases ev x <;> rfl
  case binOp => simp only [aOp, aVal]; exact bind_map_congr fun ti => rfl
  case unOp => simp only [aOp, aVal]
  case convert s t x =>
    simp only [aOp, aVal]
    refine bind_map_congr fun tis => bind_map_congr fun ti => ?_
    have key : ∀ (te : TI) (m : Option AVal), (match te.kind with | .int .u8 => m.map fun v => (v, ls, h) | _ => none) = (match te.kind with | .int .u8 => m | _ => none).map fun v => (v, ls, h) := by
      intro te m
      obtain ⟨kd, _, _, _⟩ := te
      cases kd <;> first | rfl | (rename_i kk; cases kk <;> rfl)
    cases ev x <;> first | rfl | exact bind_map_congr fun te => key te _
  case makeInterface => simp only [aOp, aVal]; exact bind_map_congr fun ti => ite_map_congr' rfl
  case makeFunc => simp only [aOp, aVal]; exact ite_map_congr' rfl
  case fieldAddr t x f =>
    simp only [aOp, aVal]
    refine bind_map_congr fun ti => ?_
    cases ti.kind <;> first | rfl | exact bind_map_congr fun p => bind_map_congr fun tif => ite_map_congr' rfl
  case field t x f =>
    simp only [aOp, aVal]
    refine bind_map_congr fun ti => ?_
    cases ti.kind with
    | struct fs => cases ev x with
      | agg cs => exact bind_map_congr fun p => bind_map_congr fun tif => ite_map_congr rfl
      | _ => rfl
    | _ => rfl
  case indexAddr t x i =>
    simp only [aOp, aVal]
    refine bind_map_congr fun ti => bind_map_congr fun te => ?_
    cases ev i <;> rfl
  case index t x i =>
    simp only [aOp, aVal]
    refine bind_map_congr fun ti => ?_
    cases ti.kind with
    | str => cases ev x with
      | str s => cases ev i <;> rfl
      | _ => rfl
    | _ => rfl
  case extract x i =>
    simp only [aOp, aVal]
    cases ev x <;> rfl

/-- Slots and variables that an operation looks at, and that it writes: from its text, and from the variable that it loads, stores or lays. -/
def rdS (ops : List Oper) (o : Oper) (p : List Nat) : List Nat := guardNames ops o ++ (tmpNames o.op.operands.toList ++ p)
def dstS (o : Oper) : List Nat := match o.dst with | some d => [2 * d] | none => []
def isLS : Op → Bool
  | .load _ _ | .store _ _ _ | .alloc _ => true
  | _ => false
def isW : Op → Bool
  | .store _ _ _ | .alloc _ => true
  | _ => false
def wrS (o : Oper) (p : List Nat) : List Nat := dstS o ++ if isW o.op then p else []

def namesS (ops : List Oper) : List Oper → List (List Nat) → List (List Nat × List Nat)
  | [], _ => []
  | o :: rest, pr => (rdS ops o (pr.headD []), wrS o (pr.headD [])) :: namesS ops rest pr.tail

def apartN (a b : List Nat × List Nat) : Bool := a.2.all (fun x => !(b.1 ++ b.2).contains x) && a.1.all (fun x => !b.2.contains x)
def traceN (ops : List Oper) (ns : List (List Nat × List Nat)) : Bool :=
  ns.zipIdx.all fun (b, j) => ns.zipIdx.all fun (a, i) => decide (j ≤ i) || (befB ops i j || apartN a b)

def Sub (r : QRec) (n : List Nat × List Nat) : Prop := (∀ x ∈ r.rd, x ∈ n.1) ∧ (∀ x ∈ r.wr, x ∈ n.2)
inductive Subs : List QRec → List (List Nat × List Nat) → Prop
  | nil : Subs [] []
  | cons {r n rs ns} : Sub r n → Subs rs ns → Subs (r :: rs) (n :: ns)

theorem Subs.get {rs ns} (h : Subs rs ns) : ∀ {i : Nat} {r : QRec}, rs[i]? = some r → ∃ n, ns[i]? = some n ∧ Sub r n := by
  induction h with
  | nil => intro i r hr; simp at hr
  | @cons r' n rs ns h _ ih =>
    intro i r hr
    cases i with
    | zero => simp at hr; subst hr; exact ⟨n, rfl, h⟩
    | succ i => simp only [List.getElem?_cons_succ] at hr ⊢; exact ih hr

theorem Subs.snoc {rs ns} (h : Subs rs ns) {r n} (h' : Sub r n) : Subs (rs ++ [r]) (ns ++ [n]) := by
  induction h with
  | nil => exact .cons h' .nil
  | cons h _ ih => exact .cons h ih

theorem apartN_apartB {a b : QRec} {m n : List Nat × List Nat} (ha : Sub a m) (hb : Sub b n) (h : apartN m n = true) : apartB a b = true := by
  unfold apartN at h
  unfold apartB
  simp only [Bool.and_eq_true, List.all_eq_true, Bool.not_eq_true', List.contains_eq_mem, decide_eq_false_iff_not, List.mem_append, not_or] at h ⊢
  exact ⟨fun x hx => ⟨fun hx' => (h.1 x (ha.2 x hx)).1 (hb.1 x hx'), fun hx' => (h.1 x (ha.2 x hx)).2 (hb.2 x hx')⟩, fun x hx hx' => h.2 x (ha.1 x hx) (hb.2 x hx')⟩

theorem traceN_traceB {ops : List Oper} {recs : List QRec} {ns : List (List Nat × List Nat)} (hs : Subs recs ns) (h : traceN ops ns = true) : traceB ops recs = true := by
  unfold traceN at h
  unfold traceB
  simp only [List.all_eq_true] at h ⊢
  rintro ⟨b, j⟩ hb ⟨a, i⟩ ha
  have hb' := List.mem_zipIdx_iff_getElem?.1 hb
  have ha' := List.mem_zipIdx_iff_getElem?.1 ha
  obtain ⟨n, hn, sn⟩ := hs.get hb'
  obtain ⟨m, hm, sm⟩ := hs.get ha'
  have := h (n, j) (List.mem_zipIdx_iff_getElem?.2 hn) (m, i) (List.mem_zipIdx_iff_getElem?.2 hm)
  simp only [Bool.or_eq_true, decide_eq_true_eq] at this ⊢
  rcases this with h1 | h1 | h1
  · exact .inl h1
  · exact .inr (.inl h1)
  · exact .inr (.inr (apartN_apartB sm sn h1))

section
variable {P : Program} {κ : Tmp → Bool}

def quietS (P : Program) (κ : Tmp → Bool) (h : AHeap) (o : Oper) (p : List Nat) (aa : AAct) (k : AAct → Prop) : Prop :=
  (isLS o.op = true → locNames (aEval aa.tmps) o.dst o.op = p) ∧ quietK P κ h.blk o aa fun c lw => k ⟨(aPut aa o.dst c).tmps, applyL aa.locs lw⟩

/-- Operations that only read, or make memory, in the order of the text. -/
def RS (P : Program) (κ : Tmp → Bool) (ops : List Oper) (h : AHeap) : List Oper → List (List Nat) → AAct → (AAct → Prop) → Prop
  | [], _, aa, k => k aa
  | o :: rest, pr, aa, k => match aWanted ops aa.tmps o with
    | none => False
    | some false => RS P κ ops h rest pr.tail (aPut aa o.dst .undef) k
    | some true => quietS P κ h o (pr.headD []) aa fun aa' => RS P κ ops h rest pr.tail aa' k

theorem locNames_nil {ev : Operand → AVal} {dst : Option Tmp} {op : Op} (h : isLS op = false) : locNames ev dst op = [] := by
  cases op <;> first | rfl | (simp [isLS] at h)

/-- Only an operation that stores or lays a variable writes one. -/
theorem lw_names {ev : Operand → AVal} {lg blk : Nat → Option (List AVal)} {dst : Option Tmp} {op : Op} {c : AVal} {lw : Option (Nat × List AVal)} (h : aOpQ P κ ev lg blk dst op = some (c, lw)) {k : Nat} {cs : List AVal} (hl : lw = some (k, cs)) :
    isW op = true ∧ 2 * k + 1 ∈ locNames ev dst op := by
  subst hl
  cases op with
  | load t x =>
    simp only [aOpQ, Option.bind_eq_some_iff, Option.map_eq_some_iff] at h
    obtain ⟨_, _, _, _, _, _, hh⟩ := h
    simp at hh
  | alloc t =>
    cases dst with
    | none => simp [aOpQ] at h
    | some d =>
      simp only [aOpQ] at h
      split at h
      · cases h
      · split at h
        · simp only [Option.bind_eq_some_iff, Option.map_eq_some_iff, Prod.mk.injEq, Option.some.injEq] at h
          obtain ⟨_, _, _, _, _, hh, _⟩ := h
          subst hh
          exact ⟨rfl, by simp [locNames]⟩
        · cases h
  | store t x y =>
    simp only [aOpQ] at h
    split at h
    · rename_i k' off hx
      simp only [Option.bind_eq_some_iff, Option.ite_none_right_eq_some, Prod.mk.injEq, Option.some.injEq] at h
      obtain ⟨_, _, _, _, _, _, _, _, hh, _⟩ := h
      subst hh
      exact ⟨rfl, by simp [locNames, hx]⟩
    · cases h
  | buildSlice t len parts =>
    simp only [aOpQ, Option.bind_eq_some_iff, Option.map_eq_some_iff, Option.ite_none_right_eq_some] at h
    obtain ⟨_, _, _, _, _, _, _, _, _, hh⟩ := h
    simp at hh
  | _ => simp only [aOpQ] at h; simp at h

theorem rs_rq {ops : List Oper} {h : AHeap} : ∀ (l : List Oper) (pr : List (List Nat)) (acc : List QRec) (ns : List (List Nat × List Nat)) (aa : AAct) (k : AAct → Prop), Subs acc ns → RS P κ ops h l pr aa k →
    RQ P κ ops h.blk l acc aa fun recs aa' => Subs recs (ns ++ namesS ops l pr) ∧ k aa'
  | [], pr, acc, ns, aa, k, hs, hr => ⟨by simpa [namesS] using hs, hr⟩
  | o :: rest, pr, acc, ns, aa, k, hs, hr => by
    have next : ∀ (r : QRec), r.o = o → (∀ x ∈ r.rd, x ∈ rdS ops o (pr.headD [])) → (∀ k' cs, r.lw = some (k', cs) → isW o.op = true ∧ 2 * k' + 1 ∈ pr.headD []) → RS P κ ops h rest pr.tail (r.app aa) k →
        RQ P κ ops h.blk rest (acc ++ [r]) (r.app aa) fun recs aa' => Subs recs (ns ++ namesS ops (o :: rest) pr) ∧ k aa' := by
      intro r ho hrd hlw hk
      have := rs_rq rest pr.tail (acc ++ [r]) (ns ++ [(rdS ops o (pr.headD []), wrS o (pr.headD []))]) (r.app aa) k (hs.snoc ⟨hrd, fun x hx => by
        unfold QRec.wr at hx
        rw [ho] at hx
        unfold wrS dstS
        rcases List.mem_append.1 hx with hx | hx
        · exact List.mem_append.2 (.inl hx)
        · refine List.mem_append.2 (.inr ?_)
          cases hl : r.lw with
          | none => rw [hl] at hx; simp at hx
          | some kc =>
            obtain ⟨k', cs⟩ := kc
            rw [hl] at hx; simp at hx; subst hx
            obtain ⟨w1, w2⟩ := hlw k' cs hl
            rw [if_pos w1]; exact w2⟩) hk
      rw [List.append_assoc] at this
      exact this
    unfold RQ
    unfold RS at hr
    split at hr
    · exact hr.elim
    · rename_i hw
      rw [hw]
      simp only
      refine next ⟨o, guardNames ops o, .undef, none⟩ rfl (fun x hx => List.mem_append.2 (.inl hx)) (fun _ _ hl => by cases hl) ?_
      unfold QRec.app applyL aPut
      exact (show RS P κ ops h rest pr.tail (aPut aa o.dst .undef) k ↔ _ from by cases o.dst <;> rfl).1 hr
    · rename_i hw
      rw [hw]
      simp only
      obtain ⟨hn, hq⟩ := hr
      have hsub : ∀ x ∈ guardNames ops o ++ (tmpNames o.op.operands.toList ++ locNames (aEval aa.tmps) o.dst o.op), x ∈ rdS ops o (pr.headD []) := by
        intro x hx
        unfold rdS
        cases e : isLS o.op with
        | true => rw [← hn e]; exact hx
        | false => rw [locNames_nil e] at hx; simp only [List.append_nil] at hx; simp only [List.mem_append] at hx ⊢; rcases hx with hx | hx; exact .inl hx; exact .inr (.inl hx)
      unfold quietK at hq ⊢
      split at hq
      · obtain ⟨h1, h2, r, h3, h4⟩ := hq
        exact ⟨h1, h2, r, h3, next ⟨o, _, r, none⟩ rfl hsub (fun _ _ hl => by cases hl) h4⟩
      · rename_i hnc
        obtain ⟨⟨c, lw⟩, e1, e2⟩ := hq
        refine ⟨(c, lw), e1, ?_⟩
        have fin : ∀ c', RS P κ ops h rest pr.tail ⟨(aPut aa o.dst c').tmps, applyL aa.locs lw⟩ k → RQ P κ ops h.blk rest (acc ++ [⟨o, guardNames ops o ++ (tmpNames o.op.operands.toList ++ locNames (aEval aa.tmps) o.dst o.op), c', lw⟩])
            (QRec.app ⟨o, guardNames ops o ++ (tmpNames o.op.operands.toList ++ locNames (aEval aa.tmps) o.dst o.op), c', lw⟩ aa) fun recs aa' => Subs recs (ns ++ namesS ops (o :: rest) pr) ∧ k aa' := by
          intro c' hk
          refine next ⟨o, _, c', lw⟩ rfl hsub (fun k' cs hl => ?_) hk
          obtain ⟨w1, w2⟩ := lw_names e1 hl
          refine ⟨w1, ?_⟩
          have : isLS o.op = true := by cases ho : o.op <;> rw [ho] at w1 <;> simp [isW] at w1 <;> rfl
          rw [← hn this]; exact w2
        simp only at e2 ⊢
        split
        · rename_i ht
          rw [if_pos ht] at e2
          cases c with
          | bool b => exact ⟨fun hb => fin _ (e2.1 hb), fun hb => fin _ (e2.2 hb)⟩
          | _ => exact fin _ e2
        · rename_i ht
          rw [if_neg ht] at e2
          exact fin _ e2

def drawB (ops : List Oper) (d : Nat × List (List Nat)) : Bool := decide (d.1 ≤ ops.length) && edgesB ops && tailB ops d.1 && traceN ops (namesS ops (ops.take d.1) d.2)

/-- A region whose order is open. -/
theorem draw_ok {Q : Exit → AAct → AHeap → Prop} {id : Nat} {ops : List Oper} {d : Nat × List (List Nat)} (hP : P.follows .mixedOrders = true) (hd : drawB ops d = true) {aa : AAct} {h : AHeap}
    (hr : RS P κ ops h (ops.take d.1) d.2 aa fun aa' => RL P κ ops (fun aa h => Q .normal aa h) (ops.drop d.1) aa' h) : AWp P (.region id ops.toArray true) Q aa h := by
  intro G L w a i r
  unfold drawB at hd
  simp only [Bool.and_eq_true, decide_eq_true_eq] at hd
  obtain ⟨⟨⟨d1, d2⟩, d3⟩, d4⟩ := hd
  obtain ⟨recs, e1, ⟨e2, e3⟩, e4⟩ := rq_ok _ _ _ _ (rs_rq _ _ [] [] aa _ .nil hr)
  simp only [List.nil_append] at e2
  have hm : recs.length = d.1 := by rw [e1]; simp; omega
  have htr := traceN_traceB e2 d4
  rw [hm] at e3
  refine wp_region_any hP ?_
  have dr : Drawn w { w with drawn := w.drawn + 1 } := ⟨rfl, rfl, rfl, rfl⟩
  have hsz : ops.toArray.size = ops.length := by simp
  rw [hsz]
  have hrep : ∀ (i : Nat) (b : Bool), i < ops.length → (Array.replicate ops.length false).getD i b = false := fun i b hi => by
    rw [Array.getD_eq_getD_getElem?]; simp [hi]
  have h0 : (fun i => (Array.replicate ops.length false).getD i false) = fun _ => false := funext fun i => by
    rw [Array.getD_eq_getD_getElem?, Array.getElem?_replicate]; split <;> rfl
  refine quiet_phase (κ := κ) d3 d2 d1 hm (fun i r hr => ?_) htr e3 ops.length _ aa (by simp) ?_ (fun i _ hi => hrep i true hi) (by rw [h0]; intro _ _ _ hS; cases hS) rfl (fun x => ?_) (i.drawn dr) ⟨r.defers, r.size, r.tmps, r.locs.drawn dr⟩ fun G' L' w' aa' a' h' x i' r' hk => ?_
  · obtain ⟨g1, g2⟩ := e4 i r hr
    refine ⟨?_, g2⟩
    rw [List.getElem?_take] at g1
    split at g1
    · exact g1
    · cases g1
  · have : ∀ n, n ≤ ops.length → (List.range n).countP (fun i => !(Array.replicate ops.length false).getD i true) = n := by
      intro n
      induction n with
      | zero => intro _; rfl
      | succ n ihn =>
        intro hn
        rw [List.range_succ, List.countP_append, ihn (by omega), List.countP_cons, List.countP_nil, hrep n true (by omega)]; rfl
    exact this _ (Nat.le_refl _)
  · rw [h0]
    have : ∀ m, lastv aa recs (fun _ => false) x m = nv aa x := by
      intro m
      induction m with
      | zero => rfl
      | succ m ihm => simp only [lastv]; rw [if_neg (by simp), ihm]
    exact (this _).symm
  · exact ⟨G', L', aa', h', (Ext.drawn dr).trans x, i', r', hk⟩

/-- Code: with regions whose order is open. -/
def RD (P : Program) (κ : Tmp → Bool) (δ : Nat → Nat × List (List Nat)) : Code → (Exit → AAct → AHeap → Prop) → AAct → AHeap → Prop
  | .skip, Q, aa, h => Q .normal aa h
  | .region id ops draw, Q, aa, h => if draw then RS P κ ops.toList h (ops.toList.take (δ id).1) (δ id).2 aa fun aa' => RL P κ ops.toList (fun aa h => Q .normal aa h) (ops.toList.drop (δ id).1) aa' h
      else RL P κ ops.toList (fun aa h => Q .normal aa h) ops.toList aa h
  | .seq x y, Q, aa, h => RD P κ δ x (thenE (RD P κ δ y Q) Q) aa h
  | .cond c x y, Q, aa, h => match aEval aa.tmps c with
    | .bool t => (t = true → RD P κ δ x Q aa h) ∧ (t = false → RD P κ δ y Q aa h)
    | _ => False
  | .block id c, Q, aa, h => RD P κ δ c (inBlockE id Q) aa h
  | .loop c, Q, aa, h => AWp P (.loop c) Q aa h
  | .exit id, Q, aa, h => Q (.exit id) aa h
  | .ret, Q, aa, h => Q .ret aa h
  | _, _, _, _ => False

def drawsB (δ : Nat → Nat × List (List Nat)) : Code → Bool
  | .region id ops draw => !draw || drawB ops.toList (δ id)
  | .seq x y => drawsB δ x && drawsB δ y
  | .cond _ x y => drawsB δ x && drawsB δ y
  | .block _ c => drawsB δ c
  | _ => true

end
end Go.Ab
end
/- Code with regions whose order is open: the rules. -/
section
namespace Go.Ab

theorem rd_ok {P : Program} (hP : P.follows .mixedOrders = true) {κ : Tmp → Bool} (δ : Nat → Nat × List (List Nat)) : ∀ (c : Code), drawsB δ c = true → ∀ {Q : Exit → AAct → AHeap → Prop} {aa : AAct} {h : AHeap}, RD P κ δ c Q aa h → AWp P c Q aa h
  | .skip, _, _, _, _, k => AWp.skip k
  | .region id ops draw, hd, Q, aa, h, k => by
    simp only [RD] at k
    split at k
    · rename_i hd'
      subst hd'
      unfold drawsB at hd
      have := draw_ok (id := id) hP (by simpa using hd) k
      rwa [Array.toArray_toList] at this
    · rename_i hd
      have hd' : draw = false := by simpa using hd
      subst hd'
      intro G L w a i r
      have := RL_ok (P := P) (κ := κ) (Q := Lift Q G L w) ops.toList aa h k i r (fun G' L' w' aa' a' h' x i' r' hk => ⟨G', L', aa', h', x, i', r', hk⟩)
      rw [Array.toArray_toList] at this
      exact wp_region_list this
  | .seq x y, hd, Q, aa, h, k => by
    simp only [RD] at k
    unfold drawsB at hd
    simp only [Bool.and_eq_true] at hd
    refine AWp.seq (AWp.mono (rd_ok hP δ x hd.1 k) ?_)
    intro e aa h q
    cases e <;> first | exact rd_ok hP δ y hd.2 q | exact q
  | .cond c x y, hd, Q, aa, h, k => by
    simp only [RD] at k
    unfold drawsB at hd
    simp only [Bool.and_eq_true] at hd
    split at k
    · rename_i t ht
      exact AWp.cond ht (fun e => rd_ok hP δ x hd.1 (k.1 e)) (fun e => rd_ok hP δ y hd.2 (k.2 e))
    · exact k.elim
  | .block id c, hd, Q, aa, h, k => AWp.block (rd_ok hP δ c hd k)
  | .loop c, _, _, _, _, k => k
  | .exit id, _, _, _, _, k => AWp.exit k
  | .ret, _, _, _, _, k => AWp.ret k
  | .rangeFunc .., _, _, _, _, k => by simp [RD] at k
  | .scope _, _, _, _, _, k => by simp [RD] at k
  | .label _, _, _, _, _, k => by simp [RD] at k
  | .goto _, _, _, _, _, k => by simp [RD] at k
  | .refuse _, _, _, _, _, k => by simp [RD] at k

section
variable {P : Program} {κ : Tmp → Bool} {δ : Nat → Nat × List (List Nat)} {Q : Exit → AAct → AHeap → Prop} {t : List AVal} {l : Locs} {h : AHeap}

theorem rd_skip : RD P κ δ .skip Q ⟨t, l⟩ h = Q .normal ⟨t, l⟩ h := rfl
theorem rd_ret : RD P κ δ .ret Q ⟨t, l⟩ h = Q .ret ⟨t, l⟩ h := rfl
theorem rd_exit {id : Nat} : RD P κ δ (.exit id) Q ⟨t, l⟩ h = Q (.exit id) ⟨t, l⟩ h := rfl
theorem rd_seq {x y : Code} : RD P κ δ (.seq x y) Q ⟨t, l⟩ h = RD P κ δ x (thenE (RD P κ δ y Q) Q) ⟨t, l⟩ h := rfl
theorem rd_block {id : Nat} {c : Code} : RD P κ δ (.block id c) Q ⟨t, l⟩ h = RD P κ δ c (inBlockE id Q) ⟨t, l⟩ h := rfl
theorem rd_loop {c : Code} : RD P κ δ (.loop c) Q ⟨t, l⟩ h = AWp P (.loop c) Q ⟨t, l⟩ h := rfl
theorem rd_region {id : Nat} {ops : List Oper} : RD P κ δ (.region id ops.toArray false) Q ⟨t, l⟩ h = RL P κ ops (normalK Q) ops ⟨t, l⟩ h := by
  simp only [RD, Bool.false_eq_true, if_false]
  rfl
def rsThen (P : Program) (κ : Tmp → Bool) (ops : List Oper) (Q : Exit → AAct → AHeap → Prop) (h : AHeap) (rest : List Oper) : AAct → Prop := fun aa => RL P κ ops (normalK Q) rest aa h
theorem rsThen_eq {ops rest : List Oper} : rsThen P κ ops Q h rest ⟨t, l⟩ = RL P κ ops (normalK Q) rest ⟨t, l⟩ h := rfl
theorem rd_draw {id : Nat} {ops : List Oper} : RD P κ δ (.region id ops.toArray true) Q ⟨t, l⟩ h = RS P κ ops h (ops.take (δ id).1) (δ id).2 ⟨t, l⟩ (rsThen P κ ops Q h (ops.drop (δ id).1)) := by
  simp only [RD, if_true]
  rfl
def condD (P : Program) (κ : Tmp → Bool) (δ : Nat → Nat × List (List Nat)) (x y : Code) (Q : Exit → AAct → AHeap → Prop) (aa : AAct) (h : AHeap) : AVal → Prop
  | .bool b => (b = true → RD P κ δ x Q aa h) ∧ (b = false → RD P κ δ y Q aa h)
  | _ => False
theorem rd_cond {c : Operand} {x y : Code} : RD P κ δ (.cond c x y) Q ⟨t, l⟩ h = condD P κ δ x y Q ⟨t, l⟩ h (aEval t c) := by
  simp only [RD, condD] <;> cases aEval t c <;> rfl
theorem condD_true {x y : Code} {aa : AAct} : condD P κ δ x y Q aa h (.bool true) = RD P κ δ x Q aa h := by simp [condD]
theorem condD_false {x y : Code} {aa : AAct} : condD P κ δ x y Q aa h (.bool false) = RD P κ δ y Q aa h := by simp [condD]
theorem condD_bool {x y : Code} {aa : AAct} {b : Bool} : condD P κ δ x y Q aa h (.bool b) = ((b = true → RD P κ δ x Q aa h) ∧ (b = false → RD P κ δ y Q aa h)) := rfl

variable {ops : List Oper} {k : AAct → Prop} {rest : List Oper} {pr : List (List Nat)} {p : List Nat}
theorem rs_nil : RS P κ ops h [] pr ⟨t, l⟩ k = k ⟨t, l⟩ := rfl
theorem rs_plain {dst : Option Tmp} {op : Op} {ty : TypeId} {pos : String} {after : Array Edge} : RS P κ ops h (⟨dst, op, ty, pos, after, none⟩ :: rest) (p :: pr) ⟨t, l⟩ k = quietS P κ h ⟨dst, op, ty, pos, after, none⟩ p ⟨t, l⟩ fun aa' => RS P κ ops h rest pr aa' k := rfl
def guardS (P : Program) (κ : Tmp → Bool) (o : Oper) (want : Bool) (p : List Nat) (aa : AAct) (h : AHeap) (k : AAct → Prop) : AVal → Prop
  | .bool b => if b = want then quietS P κ h o p aa k else k (aPut aa o.dst .undef)
  | .undef => k (aPut aa o.dst .undef)
  | _ => False
theorem rs_guard {dst : Option Tmp} {op : Op} {ty : TypeId} {pos : String} {after : Array Edge} {j : Nat} {want : Bool} :
    RS P κ ops h (⟨dst, op, ty, pos, after, some (j, want)⟩ :: rest) (p :: pr) ⟨t, l⟩ k =
      match (ops[j]?).bind (·.dst) with
      | none => False
      | some d => guardS P κ ⟨dst, op, ty, pos, after, some (j, want)⟩ want p ⟨t, l⟩ h (fun aa' => RS P κ ops h rest pr aa' k) ((t[d]?).getD .any) := by
  simp only [RS, aWanted]
  cases (ops[j]?).bind (·.dst) with
  | none => rfl
  | some d =>
    simp only
    cases hd : t[d]? with
    | none => rfl
    | some c =>
      cases c <;> simp only [guardS, Option.getD_some]
      · rename_i b
        by_cases e : b = want
        · subst e; simp
        · have : (b == want) = false := by simpa using e
          simp [e, this]
      · rfl
theorem guardS_true {o : Oper} {aa : AAct} : guardS P κ o true p aa h k (.bool true) = quietS P κ h o p aa k := by simp [guardS]
theorem guardS_false {o : Oper} {aa : AAct} : guardS P κ o false p aa h k (.bool false) = quietS P κ h o p aa k := by simp [guardS]
theorem guardS_not {o : Oper} {aa : AAct} : guardS P κ o true p aa h k (.bool false) = k (aPut aa o.dst .undef) := by simp [guardS]
theorem guardS_not' {o : Oper} {aa : AAct} : guardS P κ o false p aa h k (.bool true) = k (aPut aa o.dst .undef) := by simp [guardS]
theorem guardS_undef {o : Oper} {b : Bool} {aa : AAct} : guardS P κ o b p aa h k .undef = k (aPut aa o.dst .undef) := by simp [guardS]

section steps
variable {dst : Option Tmp} {d : Tmp} {ty : TypeId} {pos : String} {after : Array Edge} {g : Option (Nat × Bool)} {x y z : Operand} {op : Op}
def dropH (k : AAct → Prop) : AAct → AHeap → Prop := fun aa _ => k aa
theorem dropH_eq {aa : AAct} : dropH k aa h = k aa := rfl
theorem qs_val (hv : valueOp op = true) : quietS P κ h ⟨some d, op, ty, pos, after, g⟩ p ⟨t, l⟩ k = stepW P κ ⟨some d, op, ty, pos, after, g⟩ ⟨t, l⟩ h (dropH k) := by
  have h1 : isLS op = false := by cases op <;> first | rfl | (simp [valueOp] at hv)
  have h2 : aOpQ P κ (aEval t) (lget l) h.blk (some d) op = (aVal P (aEval t) op).map fun x => (x, none) := by cases op <;> first | rfl | (simp [valueOp] at hv)
  have h3 : allocates κ (some d) op = false := by
    cases op <;> first | rfl | (simp [valueOp] at hv) | skip
    rename_i cl
    obtain ⟨callee, xs, ts⟩ := cl
    cases callee with
    | builtin b => cases b <;> first | rfl | (simp [valueOp] at hv)
    | _ => rfl
  have e1 : quietK P κ h.blk ⟨some d, op, ty, pos, after, g⟩ ⟨t, l⟩ = fun k => W (aOpQ P κ (aEval t) (lget l) h.blk (some d) op) fun x => if isTest op then splitBool x.1 fun c => k c x.2 else k x.1 x.2 := by
    funext k
    unfold quietK
    simp only
    split
    · simp [valueOp] at hv
    · rfl
  have e2 : stepW P κ ⟨some d, op, ty, pos, after, g⟩ ⟨t, l⟩ h = fun k => if allocates κ (some d) op then ∀ n, h.blk n = none → h.live n = false → W (aOp P κ (aEval t) l h n (some d) op) fun x => k (aPut ⟨t, x.2.1⟩ (some d) x.1) x.2.2
    else W (aOp P κ (aEval t) l h 0 (some d) op) fun x =>
      if isTest op then splitBool x.1 fun c => k (aPut ⟨t, x.2.1⟩ (some d) c) x.2.2
      else k (aPut ⟨t, x.2.1⟩ (some d) x.1) x.2.2 := by
    funext k
    unfold stepW
    simp only
    split
    · simp [valueOp] at hv
    · rfl
  unfold quietS
  rw [e1, e2]
  simp only [h1, h2, h3, aOp_val hv, W_map, Bool.false_eq_true, false_implies, true_and, if_false, applyL, aPut, dropH]
def locN : AVal → List Nat
  | .loc k _ => [2 * k + 1]
  | _ => []
theorem locN_loc {k' o : Nat} : locN (.loc k' o) = [2 * k' + 1] := rfl
theorem locN_ptr {k' o : Nat} : locN (.ptr k' o) = [] := rfl
theorem locN_pin {cs : List AVal} : locN (.pin cs) = [] := rfl
theorem locNames_load {ev : Operand → AVal} {ty' : TypeId} : locNames ev dst (.load ty' x) = locN (ev x) := by
  simp only [locNames]; cases ev x <;> rfl
theorem locNames_store {ev : Operand → AVal} {ty' : TypeId} : locNames ev dst (.store ty' x y) = locN (ev x) := by
  simp only [locNames]; cases ev x <;> rfl
theorem qs_load {ty' : TypeId} : quietS P κ h ⟨some d, .load ty' x, ty, pos, after, g⟩ p ⟨t, l⟩ k = (locN (aEval t x) = p ∧ W (tiOf P ty') fun ti => W (aBehind l h (aEval t x)) fun cs => W (aOfCells ti cs) fun v => k ⟨t.set d v, l⟩) := by
  have : aBehindQ (lget l) h.blk (aEval t x) = aBehind l h (aEval t x) := by cases aEval t x <;> rfl
  simp only [quietS, quietK, isLS, true_implies, locNames_load, aOpQ, W_bind, W_map, isTest, Bool.false_eq_true, if_false, aPut, applyL, this]
theorem qs_store {ty' : TypeId} : quietS P κ h ⟨none, .store ty' x y, ty, pos, after, g⟩ p ⟨t, l⟩ k =
    (locN (aEval t x) = p ∧ (aEval t x).isLoc = true ∧ W (tiOf P ty') fun ti => W (aEval t y).cells fun ds => ds.length = ti.size ∧ W (aStore h l (aEval t x) ds) fun s => k ⟨t, s.1⟩) := by
  simp only [quietS, quietK, isLS, true_implies, locNames_store, aOpQ, isTest, Bool.false_eq_true, if_false, aPut, applyL]
  congr 1
  cases aEval t x with
  | loc k' off =>
    simp only [AVal.isLoc, true_and, W_bind]
    refine W_congr fun ti => W_congr fun ds => ?_
    simp only [aStore]
    cases lget l k' with
    | none => simp [W_none]
    | some cs =>
      simp only [Option.bind_some, W_some]
      by_cases e1 : ds.length = ti.size <;> by_cases e2 : off + ds.length ≤ cs.length <;> simp [e1, e2, W_none, W_some, W_ite] <;> simp_all
  | _ => simp [AVal.isLoc, W_none]
theorem qs_alloc (hd : κ d = false) {ty' : TypeId} : quietS P κ h ⟨some d, .alloc ty', ty, pos, after, g⟩ p ⟨t, l⟩ k = ([2 * d + 1] = p ∧ W (tiOf P ty') fun ti => W (zeroOf ti) fun zs => lget l d = none ∧ k ⟨t.set d (.loc d 0), lset l d zs⟩) := by
  simp only [quietS, quietK, isLS, true_implies, locNames, aOpQ, isTest, Bool.false_eq_true, if_false, aPut, applyL, hd, lget_none, Bool.false_eq_true, W_bind, W_map, W_ite]
  congr 1
  by_cases e : lget l d = none <;> simp [e, W_ite, W_bind, W_map, W_none, W]
theorem qs_buildSlice {ty' : TypeId} {len : Nat} {parts : List (Nat × Operand)} : quietS P κ h ⟨some d, .buildSlice ty' len parts.toArray, ty, pos, after, g⟩ p ⟨t, l⟩ k =
    W (tiOf P ty') fun ti => W (elemOf P ti) fun te => W (zeroOf te) fun zs => len * te.size ≤ 16777216 ∧
      W (aFillS te.size (List.replicate len zs) (vals (aEval t) parts)) fun ys => k ⟨t.set d (.list none te.size ys), l⟩ := by
  simp only [quietS, quietK, isLS, Bool.false_eq_true, false_implies, true_and, aOpQ, isTest, if_false, aPut, applyL, W_bind, W_map, W_ite]
/-- What a quiet call is asked for by its caller. -/
def QCallK (P : Program) (f : FuncId) (args : List AVal) (h : AHeap) (k : AVal → Prop) : Prop := Callable P f ∧ ∃ r, QCall P f args h.blk r ∧ k r
theorem QCallK.of {f : FuncId} {args : List AVal} {r : AVal} {k : AVal → Prop} (hc : Callable P f) (c : QCall P f args h.blk r) (hk : k r) : QCallK P f args h k := ⟨hc, r, c, hk⟩
theorem qs_call {f : FuncId} {args : List Operand} {tt : Array TypeId} : quietS P κ h ⟨dst, .call ⟨.value (.func f), args.toArray, tt⟩, ty, pos, after, g⟩ p ⟨t, l⟩ k =
    ((args.map (aEval t)).any AVal.isLoc = false ∧ QCallK P f (args.map (aEval t)) h fun r => k (aPut ⟨t, l⟩ dst r)) := by
  have : ∀ r, AAct.mk (aPut ⟨t, l⟩ dst r).tmps l = aPut ⟨t, l⟩ dst r := fun r => by cases dst <;> rfl
  simp only [quietS, quietK, isLS, Bool.false_eq_true, false_implies, true_and, applyL, QCallK, this]
end steps
end
end Go.Ab
end
/- Small rules for 'simp'. -/
section
namespace Go.Ab

section
variable {k : IntKind} {n : Int} {b : Bool} {s : ByteArray} {ρ : Option Nat} {sz i off len : Nat} {xs : List (List AVal)} {cs : List AVal} {t : TypeId} {v : AVal} {f : Fn} {c1 c2 : List AVal}
theorem cells_int : (AVal.int k n).cells = some [.int k n] := rfl
theorem cells_bool : (AVal.bool b).cells = some [.bool b] := rfl
theorem cells_str : (AVal.str s).cells = some [.str s] := rfl
theorem cells_nilPtr : AVal.nilPtr.cells = some [.nilPtr] := rfl
theorem cells_nilSlice : AVal.nilSlice.cells = some [.nilSlice] := rfl
theorem cells_nilIface : AVal.nilIface.cells = some [.nilIface] := rfl
theorem cells_nilFunc : AVal.nilFunc.cells = some [.nilFunc] := rfl
theorem cells_list : (AVal.list ρ sz xs).cells = some [.list ρ sz xs] := rfl
theorem cells_ref : (AVal.ref i off len sz).cells = some [.ref i off len sz] := rfl
theorem cells_ptr : (AVal.ptr i off).cells = some [.ptr i off] := rfl
theorem cells_pin : (AVal.pin cs).cells = some [.pin cs] := rfl
theorem cells_agg : (AVal.agg cs).cells = some cs := rfl
theorem cells_iface : (AVal.iface t v).cells = some [.iface t v] := rfl
theorem cells_func : (AVal.func f c1 c2).cells = some [.func f c1 c2] := rfl
theorem loc_any : AVal.any.isLoc = false := rfl
theorem loc_undef : AVal.undef.isLoc = false := rfl
theorem loc_int : (AVal.int k n).isLoc = false := rfl
theorem loc_bool : (AVal.bool b).isLoc = false := rfl
theorem loc_str : (AVal.str s).isLoc = false := rfl
theorem loc_nilPtr : AVal.nilPtr.isLoc = false := rfl
theorem loc_nilSlice : AVal.nilSlice.isLoc = false := rfl
theorem loc_nilIface : AVal.nilIface.isLoc = false := rfl
theorem loc_nilFunc : AVal.nilFunc.isLoc = false := rfl
theorem loc_list : (AVal.list ρ sz xs).isLoc = false := rfl
theorem loc_ref : (AVal.ref i off len sz).isLoc = false := rfl
theorem loc_ptr : (AVal.ptr i off).isLoc = false := rfl
theorem loc_pin : (AVal.pin cs).isLoc = false := rfl
theorem loc_agg : (AVal.agg cs).isLoc = false := rfl
theorem loc_tuple : (AVal.tuple cs).isLoc = false := rfl
theorem loc_iface : (AVal.iface t v).isLoc = false := rfl
theorem loc_func : (AVal.func f c1 c2).isLoc = false := rfl
theorem loc_loc : (AVal.loc i off).isLoc = true := rfl
theorem one_int : (AVal.int k n).one = true := rfl
theorem one_bool : (AVal.bool b).one = true := rfl
theorem one_str : (AVal.str s).one = true := rfl
theorem one_nilPtr : AVal.nilPtr.one = true := rfl
theorem one_nilSlice : AVal.nilSlice.one = true := rfl
theorem one_nilIface : AVal.nilIface.one = true := rfl
theorem one_nilFunc : AVal.nilFunc.one = true := rfl
theorem one_list : (AVal.list ρ sz xs).one = true := rfl
theorem one_ref : (AVal.ref i off len sz).one = true := rfl
theorem one_ptr : (AVal.ptr i off).one = true := rfl
theorem one_pin : (AVal.pin cs).one = true := rfl
theorem one_iface : (AVal.iface t v).one = true := rfl
theorem one_func : (AVal.func f c1 c2).one = true := rfl
end

section
variable {P : Program} {κ : Tmp → Bool} {t : List AVal} {l : Locs} {h : AHeap} {k : AAct → Prop} {p : List Nat} {d : Tmp} {ty : TypeId} {pos : String} {after : Array Edge} {g : Option (Nat × Bool)} {x y z : Operand} {lo hi : Option Operand} {bo : BinOp} {uo : UnOp} {t' t2 : TypeId} {n : Nat} {xs : Array Operand} {tt : Array TypeId} {ps : Array (Nat × Operand)}
theorem qs_move : quietS P κ h ⟨some d, (.move x), ty, pos, after, g⟩ p ⟨t, l⟩ k = stepW P κ ⟨some d, (.move x), ty, pos, after, g⟩ ⟨t, l⟩ h (dropH k) := qs_val rfl
theorem qs_assign : quietS P κ h ⟨some d, (.assign x), ty, pos, after, g⟩ p ⟨t, l⟩ k = stepW P κ ⟨some d, (.assign x), ty, pos, after, g⟩ ⟨t, l⟩ h (dropH k) := qs_val rfl
theorem qs_pick : quietS P κ h ⟨some d, (.pick x y z), ty, pos, after, g⟩ p ⟨t, l⟩ k = stepW P κ ⟨some d, (.pick x y z), ty, pos, after, g⟩ ⟨t, l⟩ h (dropH k) := qs_val rfl
theorem qs_build : quietS P κ h ⟨some d, (.build t' ps), ty, pos, after, g⟩ p ⟨t, l⟩ k = stepW P κ ⟨some d, (.build t' ps), ty, pos, after, g⟩ ⟨t, l⟩ h (dropH k) := qs_val rfl
theorem qs_nilCheck : quietS P κ h ⟨some d, (.nilCheck x), ty, pos, after, g⟩ p ⟨t, l⟩ k = stepW P κ ⟨some d, (.nilCheck x), ty, pos, after, g⟩ ⟨t, l⟩ h (dropH k) := qs_val rfl
theorem qs_binOp : quietS P κ h ⟨some d, (.binOp bo t' x y t2), ty, pos, after, g⟩ p ⟨t, l⟩ k = stepW P κ ⟨some d, (.binOp bo t' x y t2), ty, pos, after, g⟩ ⟨t, l⟩ h (dropH k) := qs_val rfl
theorem qs_unOp : quietS P κ h ⟨some d, (.unOp uo t' x), ty, pos, after, g⟩ p ⟨t, l⟩ k = stepW P κ ⟨some d, (.unOp uo t' x), ty, pos, after, g⟩ ⟨t, l⟩ h (dropH k) := qs_val rfl
theorem qs_convert : quietS P κ h ⟨some d, (.convert t' t2 x), ty, pos, after, g⟩ p ⟨t, l⟩ k = stepW P κ ⟨some d, (.convert t' t2 x), ty, pos, after, g⟩ ⟨t, l⟩ h (dropH k) := qs_val rfl
theorem qs_makeInterface : quietS P κ h ⟨some d, (.makeInterface t' x), ty, pos, after, g⟩ p ⟨t, l⟩ k = stepW P κ ⟨some d, (.makeInterface t' x), ty, pos, after, g⟩ ⟨t, l⟩ h (dropH k) := qs_val rfl
theorem qs_slice : quietS P κ h ⟨some d, (.slice t' x lo hi none), ty, pos, after, g⟩ p ⟨t, l⟩ k = stepW P κ ⟨some d, (.slice t' x lo hi none), ty, pos, after, g⟩ ⟨t, l⟩ h (dropH k) := qs_val rfl
theorem qs_fieldAddr : quietS P κ h ⟨some d, (.fieldAddr t' x n), ty, pos, after, g⟩ p ⟨t, l⟩ k = stepW P κ ⟨some d, (.fieldAddr t' x n), ty, pos, after, g⟩ ⟨t, l⟩ h (dropH k) := qs_val rfl
theorem qs_field : quietS P κ h ⟨some d, (.field t' x n), ty, pos, after, g⟩ p ⟨t, l⟩ k = stepW P κ ⟨some d, (.field t' x n), ty, pos, after, g⟩ ⟨t, l⟩ h (dropH k) := qs_val rfl
theorem qs_indexAddr : quietS P κ h ⟨some d, (.indexAddr t' x y), ty, pos, after, g⟩ p ⟨t, l⟩ k = stepW P κ ⟨some d, (.indexAddr t' x y), ty, pos, after, g⟩ ⟨t, l⟩ h (dropH k) := qs_val rfl
theorem qs_index : quietS P κ h ⟨some d, (.index t' x y), ty, pos, after, g⟩ p ⟨t, l⟩ k = stepW P κ ⟨some d, (.index t' x y), ty, pos, after, g⟩ ⟨t, l⟩ h (dropH k) := qs_val rfl
theorem qs_extract : quietS P κ h ⟨some d, (.extract x n), ty, pos, after, g⟩ p ⟨t, l⟩ k = stepW P κ ⟨some d, (.extract x n), ty, pos, after, g⟩ ⟨t, l⟩ h (dropH k) := qs_val rfl
theorem qs_len : quietS P κ h ⟨some d, (.call ⟨.builtin .len, xs, tt⟩), ty, pos, after, g⟩ p ⟨t, l⟩ k = stepW P κ ⟨some d, (.call ⟨.builtin .len, xs, tt⟩), ty, pos, after, g⟩ ⟨t, l⟩ h (dropH k) := qs_val rfl
theorem qs_min : quietS P κ h ⟨some d, (.call ⟨.builtin .min, xs, tt⟩), ty, pos, after, g⟩ p ⟨t, l⟩ k = stepW P κ ⟨some d, (.call ⟨.builtin .min, xs, tt⟩), ty, pos, after, g⟩ ⟨t, l⟩ h (dropH k) := qs_val rfl
theorem qs_max : quietS P κ h ⟨some d, (.call ⟨.builtin .max, xs, tt⟩), ty, pos, after, g⟩ p ⟨t, l⟩ k = stepW P κ ⟨some d, (.call ⟨.builtin .max, xs, tt⟩), ty, pos, after, g⟩ ⟨t, l⟩ h (dropH k) := qs_val rfl
end
theorem upd_upd {α : Type} (f : Nat → α) (k : Nat) (x y : α) : upd (upd f k x) k y = upd f k y := by
  funext j; simp only [upd]; split <;> rfl

section
variable {ρ : Option Nat} {sz β off len k : Nat} {s : ByteArray} {xs cs : List (List AVal)} {c : List AVal} {e : TypeId} {i : Int} {l : Locs} {h : AHeap}
theorem aLen_str : aLen (.str s) = some (s.size : Int) := rfl
theorem aLen_list : aLen (.list ρ sz xs) = some (xs.length : Int) := rfl
theorem aLen_ref : aLen (.ref β off len sz) = some (len : Int) := rfl
theorem aLen_nil : aLen .nilSlice = some 0 := rfl
theorem fits_str : fitsKind (.str s) .str = true := rfl
theorem fits_list : fitsKind (.list ρ sz xs) (.slice e) = true := rfl
theorem fits_ref : fitsKind (.ref β off len sz) (.slice e) = true := rfl
theorem fits_nil : fitsKind .nilSlice (.slice e) = true := rfl
theorem aIndexAddr_list : aIndexAddr sz (.list ρ sz xs) i = if 0 ≤ i then (xs[i.toNat]?).map .pin else none := by simp [aIndexAddr]
theorem aIndexAddr_ref : aIndexAddr sz (.ref β off len sz) i = if 0 ≤ i ∧ i < len then some (.ptr β (off + i.toNat * sz)) else none := by simp [aIndexAddr]
theorem aNews_nil : aNews sz .nilSlice = some [] := rfl
theorem aNews_list : aNews sz (.list ρ sz xs) = some xs := by simp [aNews]
theorem aNews_str : aNews 1 (.str s) = some (s.data.toList.map fun b => [.int .u8 b.toNat]) := rfl
theorem aBehind_pin : aBehind l h (.pin c) = some c := rfl
theorem aBehind_loc : aBehind l h (.loc k off) = (lget l k).map (·.drop off) := rfl
theorem aBehind_ptr : aBehind l h (.ptr β off) = (h.blk β).map (·.drop off) := rfl
end
end Go.Ab
end
/- Loops, with what is no longer looked at forgotten. -/
section
namespace Go.Ab

def cleanT : List Bool → List AVal → List AVal
  | true :: K, v :: t => v :: cleanT K t
  | false :: K, _ :: t => .any :: cleanT K t
  | _, t => t
def cleanL (KL : List Nat) (l : Locs) : Locs := l.filter fun x => KL.contains x.1
def clean (K : List Bool) (KL : List Nat) (aa : AAct) : AAct := ⟨cleanT K aa.tmps, cleanL KL aa.locs⟩

theorem cleanT_true {K : List Bool} {v : AVal} {t : List AVal} : cleanT (true :: K) (v :: t) = v :: cleanT K t := rfl
theorem cleanT_false {K : List Bool} {v : AVal} {t : List AVal} : cleanT (false :: K) (v :: t) = .any :: cleanT K t := rfl
theorem cleanT_nil {t : List AVal} : cleanT [] t = t := by cases t <;> rfl
theorem clean_mk {K : List Bool} {KL : List Nat} {t : List AVal} {l : Locs} : clean K KL ⟨t, l⟩ = ⟨cleanT K t, cleanL KL l⟩ := rfl

theorem cleanT_len : ∀ (K : List Bool) (t : List AVal), (cleanT K t).length = t.length
  | [], t => by rw [cleanT_nil]
  | true :: K, [] => rfl
  | false :: K, [] => rfl
  | true :: K, v :: t => by simp [cleanT_true, cleanT_len K t]
  | false :: K, v :: t => by simp [cleanT_false, cleanT_len K t]

theorem cleanT_get : ∀ (K : List Bool) (t : List AVal) (i : Nat) (c : AVal), (cleanT K t)[i]? = some c → c = .any ∨ t[i]? = some c
  | [], t, i, c, h => by rw [cleanT_nil] at h; exact .inr h
  | true :: K, [], i, c, h => .inr h
  | false :: K, [], i, c, h => .inr h
  | true :: K, v :: t, 0, c, h => .inr h
  | true :: K, v :: t, i + 1, c, h => by simp only [cleanT_true, List.getElem?_cons_succ] at h ⊢; exact cleanT_get K t i c h
  | false :: K, v :: t, 0, c, h => by simp [cleanT_false] at h; exact .inl h.symm
  | false :: K, v :: t, i + 1, c, h => by simp only [cleanT_false, List.getElem?_cons_succ] at h ⊢; exact cleanT_get K t i c h

theorem cleanL_get {KL : List Nat} : ∀ (l : Locs) (k : Nat), lget (cleanL KL l) k = if KL.contains k then lget l k else none
  | [], k => by simp [cleanL, lget]
  | (j, cs) :: l, k => by
    have ih := cleanL_get (KL := KL) l k
    unfold cleanL at ih ⊢
    rw [List.filter_cons]
    by_cases e : j = k
    · subst e
      cases hc : KL.contains j with
      | true => simp [lget]
      | false => rw [hc] at ih; simpa using ih
    · cases hc : KL.contains j with
      | true =>
        simp only [if_true, lget, if_neg (show ¬ k = j from fun e' => e e'.symm)]; exact ih
      | false =>
        simp only [Bool.false_eq_true, if_false, lget, if_neg (show ¬ k = j from fun e' => e e'.symm)]; exact ih

def locIn (KL : List Nat) : AVal → Bool
  | .loc k _ => KL.contains k
  | _ => false
/-- What is kept points at no variable that is dropped. -/
def keptOK (KL : List Nat) : List Bool → List AVal → Bool
  | true :: K, v :: t => (!v.isLoc || locIn KL v) && keptOK KL K t
  | false :: K, _ :: t => keptOK KL K t
  | [], v :: t => (!v.isLoc || locIn KL v) && keptOK KL [] t
  | _, [] => true
theorem keptOK_true {K : List Bool} {KL : List Nat} {v : AVal} {t : List AVal} : keptOK KL (true :: K) (v :: t) = ((!v.isLoc || locIn KL v) && keptOK KL K t) := rfl
theorem keptOK_false {K : List Bool} {KL : List Nat} {v : AVal} {t : List AVal} : keptOK KL (false :: K) (v :: t) = keptOK KL K t := rfl
theorem keptOK_nil {KL : List Nat} {K : List Bool} : keptOK KL K [] = true := by
  cases K with
  | nil => rfl
  | cons b _ => cases b <;> rfl

theorem keptOK_get {KL : List Nat} : ∀ (K : List Bool) (t : List AVal), keptOK KL K t = true → ∀ (i : Nat) (k o : Nat), (cleanT K t)[i]? = some (.loc k o) → KL.contains k = true
  | _, [], _, i, k, o, h => by
    rename_i K _
    have : cleanT K [] = [] := by
      cases K with
      | nil => rfl
      | cons b _ => cases b <;> rfl
    rw [this] at h; simp at h
  | true :: K, v :: t, hk, i, k, o, h => by
    simp only [keptOK_true, Bool.and_eq_true, cleanT_true] at hk h
    cases i with
    | zero => simp at h; subst h; simpa [AVal.isLoc, locIn] using hk.1
    | succ i => exact keptOK_get K t hk.2 i k o (by simpa using h)
  | false :: K, v :: t, hk, i, k, o, h => by
    simp only [keptOK_false, cleanT_false] at hk h
    cases i with
    | zero => simp at h
    | succ i => exact keptOK_get K t hk i k o (by simpa using h)
  | [], v :: t, hk, i, k, o, h => by
    unfold keptOK at hk
    simp only [Bool.and_eq_true] at hk
    rw [cleanT_nil] at h
    cases i with
    | zero => simp at h; subst h; simpa [AVal.isLoc, locIn] using hk.1
    | succ i => exact keptOK_get [] t hk.2 i k o (by rw [cleanT_nil]; simpa using h)

theorem Weak.clean {K : List Bool} {KL : List Nat} {aa : AAct} {h : AHeap} (hk : keptOK KL K aa.tmps = true) : Weak aa h (Go.Ab.clean K KL aa) h := by
  intro G L w a hi ha
  refine ⟨fun k => if KL.contains k = true then L k else none, fun k b hb => ?_, hi, ⟨ha.defers, ?_, fun i c v h1 h2 => ?_, ⟨fun k cs hk => ?_, fun k b hb => ?_, fun k j b h1 h2 => ?_⟩⟩⟩
  · have hb : (if KL.contains k = true then L k else none) = some b := hb
    split at hb
    · exact hb
    · cases hb
  · show (cleanT K aa.tmps).length = _
    rw [cleanT_len]; exact ha.size
  · have h1' : (cleanT K aa.tmps)[i]? = some c := h1
    rcases cleanT_get K aa.tmps i c h1' with rfl | h1
    · exact .inl .any
    · rcases ha.tmps i c v h1 h2 with h3 | ⟨k, off, b, h3, h4, h5⟩
      · exact .inl h3
      · subst h3
        exact .inr ⟨k, off, b, rfl, by show (if KL.contains k = true then L k else none) = _; rw [if_pos (keptOK_get K aa.tmps hk i k off h1')]; exact h4, h5⟩
  · have hk' : lget (cleanL KL aa.locs) k = some cs := hk
    rw [cleanL_get] at hk'
    split at hk'
    · rename_i e
      obtain ⟨b, vs, T, h1, h2⟩ := ha.locs.cells k cs hk'
      exact ⟨b, vs, T, by show (if KL.contains k = true then L k else none) = _; rw [if_pos e]; exact h1, h2⟩
    · cases hk'
  · have hb : (if KL.contains k = true then L k else none) = some b := hb
    split at hb
    · rename_i e
      obtain ⟨cs, hc⟩ := ha.locs.dom k b hb
      exact ⟨cs, by show lget (cleanL KL aa.locs) k = _; rw [cleanL_get, if_pos e]; exact hc⟩
    · cases hb
  · have h1 : (if KL.contains k = true then L k else none) = some b := h1
    have h2 : (if KL.contains j = true then L j else none) = some b := h2
    split at h1
    · split at h2
      · exact ha.locs.inj k j b h1 h2
      · cases h2
    · cases h1

/-- A loop: what is kept from round to round is told by data of its own. -/
theorem AWp.loop_st {P : Program} {α : Type} {c : Code} {Q : Exit → AAct → AHeap → Prop} {aa₀ : AAct} {h₀ : AHeap} (K : List Bool) (KL : List Nat) (A : α → AAct) (H : α → AHeap) (φ : α → Prop) (μ : α → Nat) (x₀ : α)
    (k0 : keptOK KL K aa₀.tmps = true) (e1 : clean K KL aa₀ = A x₀) (e2 : h₀ = H x₀) (p0 : φ x₀)
    (round : ∀ x, φ x → AWp P c (thenE (fun aa' h' => keptOK KL K aa'.tmps = true ∧ ∃ x', clean K KL aa' = A x' ∧ h' = H x' ∧ φ x' ∧ μ x' < μ x) Q) (A x) (H x)) : AWp P (.loop c) Q aa₀ h₀ := by
  refine AWp.loop (fun x aa h => aa = A x ∧ h = H x ∧ φ x) μ ?_ x₀ (Weak.clean (K := K) (KL := KL) k0) ⟨e1, e2, p0⟩
  rintro x aa h ⟨rfl, rfl, hp⟩
  refine AWp.mono (round x hp) ?_
  intro e aa h q
  cases e with
  | normal =>
    obtain ⟨hk, x', e1, e2, e3, e4⟩ := q
    exact ⟨x', clean K KL aa, h, Weak.clean hk, ⟨e1, e2, e3⟩, e4⟩
  | _ => exact q
end Go.Ab
end
/- Frames of many slots: the first ones (those with names) as a list, the others as pairs, the last one written first. -/
section
namespace Go.Ab

/-- One of two, by a test that is reckoned first. -/
def selA (b : Bool) (x y : AVal) : AVal := match b with | true => x | false => y
@[congr] theorem cg_selA {b b' : Bool} {x y : AVal} (e : b = b') : selA b x y = selA b' x y := by rw [e]
theorem selA_true {x y : AVal} : selA true x y = x := rfl
theorem selA_false {x y : AVal} : selA false x y = y := rfl

def alook : List (Nat × AVal) → Nat → AVal
  | [], _ => .any
  | (k, v) :: l, i => selA (i == k) v (alook l i)
def vget : List AVal → Nat → AVal
  | [], _ => .any
  | x :: _, 0 => x
  | _ :: xs, i + 1 => vget xs i
def vset : List AVal → Nat → AVal → List AVal
  | [], 0, v => [v]
  | [], i + 1, v => .any :: vset [] i v
  | _ :: xs, 0, v => v :: xs
  | x :: xs, i + 1, v => x :: vset xs i v
def slotF (m : Nat) (vs : List AVal) (l : List (Nat × AVal)) (i : Nat) : AVal := if i < m then vget vs i else alook l i
/-- n slots behind m ones with names. -/
def mkF (n m : Nat) (vs : List AVal) (l : List (Nat × AVal)) : List AVal := (List.range (m + n)).map (slotF m vs l)

def selF (b : Bool) (x y : List AVal) : List AVal := match b with | true => x | false => y
@[congr] theorem cg_selF {b b' : Bool} {x y : List AVal} (e : b = b') : selF b x y = selF b' x y := by rw [e]
theorem selF_true {x y : List AVal} : selF true x y = x := rfl
theorem selF_false {x y : List AVal} : selF false x y = y := rfl

section
variable {n m i d k : Nat} {v x : AVal} {vs : List AVal} {l : List (Nat × AVal)}
theorem alook_nil : alook [] i = .any := rfl
theorem alook_cons : alook ((k, v) :: l) i = selA (i == k) v (alook l i) := rfl
theorem vget_nil : vget [] i = .any := by cases i <;> rfl
theorem vget_zero : vget (x :: vs) 0 = x := rfl
theorem vget_succ : vget (x :: vs) (i + 1) = vget vs i := rfl
theorem vset_nil_zero : vset [] 0 v = [v] := rfl
theorem vset_nil_succ : vset [] (i + 1) v = .any :: vset [] i v := rfl
theorem vset_zero : vset (x :: vs) 0 v = v :: vs := rfl
theorem vset_succ : vset (x :: vs) (i + 1) v = x :: vset vs i v := rfl
theorem vget_vset : ∀ (vs : List AVal) (d i : Nat) (v : AVal), vget (vset vs d v) i = if i = d then v else vget vs i
  | [], 0, 0, v => rfl
  | [], 0, i + 1, v => by simp [vset, vget]
  | [], d + 1, 0, v => by simp [vset, vget]
  | [], d + 1, i + 1, v => by rw [vset_nil_succ, vget_succ, vget_vset [] d i v, vget_nil, vget_nil]; simp
  | x :: vs, 0, 0, v => rfl
  | x :: vs, 0, i + 1, v => by simp [vset, vget]
  | x :: vs, d + 1, 0, v => by simp [vset, vget]
  | x :: vs, d + 1, i + 1, v => by rw [vset_succ, vget_succ, vget_succ, vget_vset vs d i v]; simp
theorem mkF_len : (mkF n m vs l).length = m + n := by simp [mkF]
theorem mkF_get : (mkF n m vs l)[i]? = if i < m + n then some (slotF m vs l i) else none := by
  simp only [mkF, List.getElem?_map]
  by_cases h : i < m + n
  · rw [List.getElem?_range h, if_pos h]; rfl
  · rw [List.getElem?_eq_none (by simp; omega), if_neg h]; rfl
theorem mkF_getD : (mkF n m vs l).getD i .undef = selA (decide (i < m)) (vget vs i) (selA (decide (i < m + n)) (alook l i) .undef) := by
  rw [List.getD_eq_getElem?_getD, mkF_get]
  unfold slotF
  by_cases h : i < m
  · simp [h, selA, show i < m + n by omega]
  · by_cases h2 : i < m + n <;> simp [h, h2, selA]
theorem mkF_get? : ((mkF n m vs l)[i]?).getD .any = selA (decide (i < m)) (vget vs i) (selA (decide (i < m + n)) (alook l i) .any) := by
  rw [mkF_get]
  unfold slotF
  by_cases h : i < m
  · simp [h, selA, show i < m + n by omega]
  · by_cases h2 : i < m + n <;> simp [h, h2, selA]
theorem mkF_set : (mkF n m vs l).set d v = selF (decide (d < m)) (mkF n m (vset vs d v) l) (mkF n m vs ((d, v) :: l)) := by
  by_cases hd : d < m
  · simp only [hd, decide_true, selF]
    refine List.ext_getElem? fun j => ?_
    rw [List.getElem?_set, mkF_get, mkF_get, mkF_len]
    unfold slotF
    rw [vget_vset]
    by_cases h : d = j
    · subst h; simp [hd]
    · have h' : ¬ j = d := fun e => h e.symm
      simp only [h, h', if_false]
  · simp only [hd, decide_false, selF]
    refine List.ext_getElem? fun j => ?_
    rw [List.getElem?_set, mkF_get, mkF_get, mkF_len]
    unfold slotF
    rw [alook_cons]
    by_cases h : d = j
    · subst h; simp [hd, selA]
    · have hb : (j == d) = false := by
        cases e : (j == d) with
        | true => exact absurd (by simpa using e : j = d) (fun e => h e.symm)
        | false => rfl
      simp only [h, if_false, selA, hb]
end

/-- Slots of which less is said. -/
theorem Weak.sub {t t' : List AVal} {ls : Locs} {h : AHeap} (hl : t'.length = t.length) (hs : ∀ (i : Nat) c, t'[i]? = some c → c = .any ∨ t[i]? = some c) : Weak ⟨t, ls⟩ h ⟨t', ls⟩ h := by
  intro G L w a hi ha
  refine ⟨L, fun _ _ x => x, hi, ⟨ha.defers, by rw [show (AAct.mk t' ls).tmps.length = t.length from hl]; exact ha.size, fun i c v h1 h2 => ?_, ha.locs⟩⟩
  rcases hs i c h1 with rfl | h3
  · exact .inl .any
  · exact ha.tmps i c v h3 h2

theorem vget_some {vs : List AVal} {i : Nat} : vget vs i = (vs[i]?).getD .any := by
  induction vs generalizing i with
  | nil => simp [vget_nil]
  | cons x vs ih => cases i with
    | zero => rfl
    | succ i => rw [vget_succ, ih]; rfl

/-- A function's contract, out of its body. -/
theorem acalls_mf {P : Program} {f : FuncId} {fn : Func} {c : Code} {args : List AVal} {h : AHeap} {R : AVal → AHeap → Prop} (n m : Nat) (hf : P.funcs[f]? = some fn) (hb : fn.body = some c) (hn : fn.ntmps = m + n) (hm : args.length ≤ m)
    (k : AWp P c (retPost P fn.results.toList R) ⟨mkF n m args [], []⟩ h) : ACalls P f args h R := by
  refine acalls_of hf hb (AWp.weak (Weak.sub ?_ fun i c hc => ?_) k)
  · rw [mkF_len]; simp; omega
  · rw [mkF_get] at hc
    split at hc
    · cases hc
      unfold slotF
      split
      · rw [vget_some]
        rcases Nat.lt_or_ge i args.length with h1 | h1
        · right; rw [List.getElem?_append_left h1, List.getElem?_eq_getElem h1]; rfl
        · left; rw [List.getElem?_eq_none h1]; rfl
      · exact .inl rfl
    · cases hc

def keepV : List Bool → Nat → List AVal → List AVal
  | [], _, _ => []
  | true :: K, i, t => t.getD i .undef :: keepV K (i + 1) t
  | false :: K, i, t => .any :: keepV K (i + 1) t
def okV (KL : List Nat) : List Bool → Nat → List AVal → Bool
  | [], _, _ => true
  | true :: K, i, t => (!(t.getD i .undef).isLoc || locIn KL (t.getD i .undef)) && okV KL K (i + 1) t
  | false :: K, i, t => okV KL K (i + 1) t
def cleanF (m : Nat) (K : List Bool) (t : List AVal) : List AVal := mkF (t.length - m) m (keepV K 0 t) []
def keptF (m : Nat) (KL : List Nat) (K : List Bool) (t : List AVal) : Bool := decide (m ≤ t.length) && okV KL K 0 t
section
variable {K : List Bool} {KL : List Nat} {i m n : Nat} {t vs : List AVal} {l : List (Nat × AVal)}
theorem keepV_nil : keepV [] i t = [] := rfl
theorem keepV_true : keepV (true :: K) i t = t.getD i .undef :: keepV K (i + 1) t := rfl
theorem keepV_false : keepV (false :: K) i t = .any :: keepV K (i + 1) t := rfl
theorem okV_nil : okV KL [] i t = true := rfl
theorem okV_true : okV KL (true :: K) i t = ((!(t.getD i .undef).isLoc || locIn KL (t.getD i .undef)) && okV KL K (i + 1) t) := rfl
theorem okV_false : okV KL (false :: K) i t = okV KL K (i + 1) t := rfl
theorem cleanF_mk : cleanF m K (mkF n m vs l) = mkF n m (keepV K 0 (mkF n m vs l)) [] := by unfold cleanF; rw [mkF_len, Nat.add_sub_cancel_left]
theorem keptF_mk : keptF m KL K (mkF n m vs l) = okV KL K 0 (mkF n m vs l) := by unfold keptF; rw [mkF_len]; simp

theorem keepV_get : ∀ (K : List Bool) (i j : Nat), vget (keepV K i t) j = .any ∨ (K[j]? = some true ∧ vget (keepV K i t) j = t.getD (i + j) .undef)
  | [], i, j => .inl (by rw [keepV_nil, vget_nil])
  | true :: K, i, 0 => .inr ⟨rfl, rfl⟩
  | false :: K, i, 0 => .inl rfl
  | true :: K, i, j + 1 => by
    rw [keepV_true, vget_succ]
    have := keepV_get K (i + 1) j
    rwa [show i + 1 + j = i + (j + 1) by omega] at this
  | false :: K, i, j + 1 => by
    rw [keepV_false, vget_succ]
    have := keepV_get K (i + 1) j
    rwa [show i + 1 + j = i + (j + 1) by omega] at this
theorem okV_get : ∀ (K : List Bool) (i j : Nat), okV KL K i t = true → K[j]? = some true → (!(t.getD (i + j) .undef).isLoc || locIn KL (t.getD (i + j) .undef)) = true
  | [], i, j, _, h => by simp at h
  | true :: K, i, 0, h, _ => by rw [okV_true, Bool.and_eq_true] at h; exact h.1
  | false :: K, i, 0, _, h => by simp at h
  | true :: K, i, j + 1, h, hk => by
    rw [okV_true, Bool.and_eq_true] at h
    have := okV_get K (i + 1) j h.2 (by simpa using hk)
    rwa [show i + 1 + j = i + (j + 1) by omega] at this
  | false :: K, i, j + 1, h, hk => by
    rw [okV_false] at h
    have := okV_get K (i + 1) j h (by simpa using hk)
    rwa [show i + 1 + j = i + (j + 1) by omega] at this
end

theorem Weak.cleanF {m : Nat} {K : List Bool} {KL : List Nat} {aa : AAct} {h : AHeap} (hk : keptF m KL K aa.tmps = true) : Weak aa h ⟨Go.Ab.cleanF m K aa.tmps, cleanL KL aa.locs⟩ h := by
  intro G L w a hi ha
  unfold keptF at hk
  rw [Bool.and_eq_true] at hk
  have hm : m ≤ aa.tmps.length := of_decide_eq_true hk.1
  refine ⟨fun k => if KL.contains k = true then L k else none, fun k b hb => ?_, hi, ⟨ha.defers, ?_, fun i c v h1 h2 => ?_, ⟨fun k cs hk => ?_, fun k b hb => ?_, fun k j b h1 h2 => ?_⟩⟩⟩
  · have hb : (if KL.contains k = true then L k else none) = some b := hb
    split at hb
    · exact hb
    · cases hb
  · show (Go.Ab.cleanF m K aa.tmps).length = _
    unfold Go.Ab.cleanF; rw [mkF_len, ← ha.size]; omega
  · have h1 : (Go.Ab.cleanF m K aa.tmps)[i]? = some c := h1
    unfold Go.Ab.cleanF at h1
    rw [mkF_get] at h1
    split at h1
    · rename_i hi'
      cases h1
      unfold slotF
      split
      · rcases keepV_get (t := aa.tmps) K 0 i with e | ⟨e1, e2⟩
        · rw [e]; exact .inl .any
        · rw [e2, Nat.zero_add]
          have hlt : i < aa.tmps.length := by omega
          have h3 : aa.tmps[i]? = some (aa.tmps.getD i .undef) := by rw [List.getD_eq_getElem?_getD, List.getElem?_eq_getElem hlt]; rfl
          rcases ha.tmps i _ v h3 h2 with h4 | ⟨k, off, b, h4, h5, h6⟩
          · exact .inl h4
          · have hk' := okV_get K 0 i hk.2 e1
            rw [Nat.zero_add, h4] at hk'
            simp only [AVal.isLoc, locIn, Bool.not_true, Bool.false_or] at hk'
            rw [h4]
            exact .inr ⟨k, off, b, rfl, by show (if KL.contains k = true then L k else none) = _; rw [if_pos hk']; exact h5, h6⟩
      · exact .inl .any
    · cases h1
  · have hk' : lget (cleanL KL aa.locs) k = some cs := hk
    rw [cleanL_get] at hk'
    split at hk'
    · rename_i e
      obtain ⟨b, vs, T, h1, h2⟩ := ha.locs.cells k cs hk'
      exact ⟨b, vs, T, by show (if KL.contains k = true then L k else none) = _; rw [if_pos e]; exact h1, h2⟩
    · cases hk'
  · have hb : (if KL.contains k = true then L k else none) = some b := hb
    split at hb
    · rename_i e
      obtain ⟨cs, hc⟩ := ha.locs.dom k b hb
      exact ⟨cs, by show lget (cleanL KL aa.locs) k = _; rw [cleanL_get, if_pos e]; exact hc⟩
    · cases hb
  · have h1 : (if KL.contains k = true then L k else none) = some b := h1
    have h2 : (if KL.contains j = true then L j else none) = some b := h2
    split at h1
    · split at h2
      · exact ha.locs.inj k j b h1 h2
      · cases h2
    · cases h1

/-- What is left at a round's end: told by the slots that are kept. -/
def LoopEnd (α : Type) (m : Nat) (K : List Bool) (KL : List Nat) (A : α → AAct) (H : α → AHeap) (φ : α → Prop) (μ : α → Nat) (x : α) (aa' : AAct) (h' : AHeap) : Prop :=
  keptF m KL K aa'.tmps = true ∧ ∃ x', (⟨cleanF m K aa'.tmps, cleanL KL aa'.locs⟩ : AAct) = A x' ∧ h' = H x' ∧ φ x' ∧ μ x' < μ x

/-- A loop: what is kept from round to round is told by data of its own. -/
theorem AWp.loop_mf {P : Program} {α : Type} {c : Code} {Q : Exit → AAct → AHeap → Prop} {aa₀ : AAct} {h₀ : AHeap} (m : Nat) (K : List Bool) (KL : List Nat) (A : α → AAct) (H : α → AHeap) (φ : α → Prop) (μ : α → Nat) (x₀ : α)
    (k0 : keptF m KL K aa₀.tmps = true) (e1 : (⟨cleanF m K aa₀.tmps, cleanL KL aa₀.locs⟩ : AAct) = A x₀) (e2 : h₀ = H x₀) (p0 : φ x₀)
    (round : ∀ x, φ x → AWp P c (thenE (LoopEnd α m K KL A H φ μ x) Q) (A x) (H x)) : AWp P (.loop c) Q aa₀ h₀ := by
  refine AWp.loop (fun x aa h => aa = A x ∧ h = H x ∧ φ x) μ ?_ x₀ (Weak.cleanF (m := m) (K := K) (KL := KL) k0) ⟨e1, e2, p0⟩
  rintro x aa h ⟨rfl, rfl, hp⟩
  refine AWp.mono (round x hp) ?_
  intro e aa h q
  cases e with
  | normal =>
    obtain ⟨hk, x', e1, e2, e3, e4⟩ := q
    exact ⟨x', ⟨cleanF m K aa.tmps, cleanL KL aa.locs⟩, h, Weak.cleanF hk, ⟨e1, e2, e3⟩, e4⟩
  | _ => exact q

/-- The same, where code is left to be shown by itself. -/
theorem AWp.forget {P : Program} {c : Code} {Q : Exit → AAct → AHeap → Prop} {aa : AAct} {h : AHeap} (m : Nat) (K : List Bool) (KL : List Nat) (k0 : keptF m KL K aa.tmps = true) (k : AWp P c Q ⟨cleanF m K aa.tmps, cleanL KL aa.locs⟩ h) : AWp P c Q aa h :=
  AWp.weak (Weak.cleanF k0) k

theorem loopEnd_mk {α : Type} {m : Nat} {K : List Bool} {KL : List Nat} {A : α → AAct} {H : α → AHeap} {φ : α → Prop} {μ : α → Nat} {x : α} {t : List AVal} {ls : Locs} {h : AHeap} :
    LoopEnd α m K KL A H φ μ x ⟨t, ls⟩ h = (keptF m KL K t = true ∧ ∃ x', (⟨cleanF m K t, cleanL KL ls⟩ : AAct) = A x' ∧ h = H x' ∧ φ x' ∧ μ x' < μ x) := rfl
attribute [irreducible] mkF alook vget vset
end Go.Ab
end
