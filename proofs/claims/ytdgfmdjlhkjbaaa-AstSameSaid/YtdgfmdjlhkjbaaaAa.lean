/-
  An abstract machine over the model: values whose slices are lists, a heap of the blocks that are written; how its states stand to the model's, and the rules of its control flow.
-/
import Derived.WalkKit
import Derived.Deep.AppendSrc
import Derived.Deep.MidRow
import Derived.Laws.IdiomCopy
set_option linter.all false
section
namespace Go.Ab

/-- Abstract values. 'list': a slice whose elements are never written (each element: its cells); 'ref': a slice over a block of the abstract heap; 'pin': a pointer to cells that are never written; 'loc': a pointer to a variable of this call; 'any': whatever. -/
inductive AVal where
  | any
  | int (k : IntKind) (n : Int)
  | bool (b : Bool)
  | str (s : ByteArray)
  | nilPtr | nilSlice | nilIface | nilFunc | nilMap | undef
  | list (ρ : Option Nat) (sz : Nat) (xs : List (List AVal))
  | ref (β off len sz : Nat)
  | ptr (β off : Nat)
  | pin (cs : List AVal)
  | loc (i off : Nat)
  | agg (cs : List AVal)
  | tuple (vs : List AVal)
  | iface (t : TypeId) (v : AVal)
  | func (fn : Fn) (first captured : List AVal)
  deriving Inhabited

/-- A value of one cell. -/
def AVal.one : AVal → Bool
  | .agg _ | .tuple _ | .undef | .any | .loc _ _ => false
  | _ => true

/-- A value's cells. -/
def AVal.cells : AVal → Option (List AVal)
  | .agg cs => some cs
  | .tuple _ | .undef | .any | .loc _ _ => none
  | v => some [v]

def AVal.isLoc : AVal → Bool
  | .loc _ _ => true
  | _ => false

inductive Owner where
  | blk (β : Nat)
  | row (ρ : Nat)

structure RowRec where
  b : Nat
  off : Nat
  len : Nat
  cap : Nat
  sz : Nat

/-- What stands behind an abstract state: the cells that are promised never to turn; the place and the size of each abstract block; the slice of each row that may be appended to; who may write to a block. -/
structure Ghost where
  claim : Nat → Nat → Option Value
  blk : Nat → Option (Nat × Nat × Nat)
  row : Nat → Option RowRec
  own : Nat → Option Owner

inductive VR (G : Ghost) : AVal → Value → Prop where
  | any {v} : VR G .any v
  | int {k n} : VR G (.int k n) (.int k n)
  | bool {b} : VR G (.bool b) (.bool b)
  | str {s} : VR G (.str s) (.string s)
  | nilPtr : VR G .nilPtr (.pointer none)
  | nilSlice : VR G .nilSlice (.slice none 0 0)
  | nilIface : VR G .nilIface .nilIface
  | nilFunc : VR G .nilFunc .nilFunc
  | nilMap : VR G .nilMap (.map none)
  | undef : VR G .undef (.tuple #[])
  | list {ρ sz} {xs : List (List AVal)} {b off cap} (vs : Nat → Value) (hsz : ∀ x ∈ xs, x.length = sz) (hone : ∀ c ∈ xs.flatten, c.one = true)
      (hcap : xs.length ≤ cap) (hcl : ∀ i, i < xs.length * sz → G.claim b (off + i) = some (vs i))
      (hv : ∀ (i : Nat) c, xs.flatten[i]? = some c → VR G c (vs i))
      (hρ : ∀ r, ρ = some r → G.row r = some ⟨b, off, xs.length, cap, sz⟩) :
      VR G (.list ρ sz xs) (.slice (some ⟨b, off, none⟩) xs.length cap)
  | ref {β off len sz b base n cap} (hβ : G.blk β = some (b, base, n)) (hlen : len ≤ cap) (hcap : base + off + cap * sz ≤ n) :
      VR G (.ref β off len sz) (.slice (some ⟨b, base + off, none⟩) len cap)
  | ptr {β off b base n} (hβ : G.blk β = some (b, base, n)) : VR G (.ptr β off) (.pointer (some ⟨b, base + off, none⟩))
  | pin {cs : List AVal} {b off} (vs : Nat → Value) (hone : ∀ c ∈ cs, c.one = true) (hcl : ∀ i, i < cs.length → G.claim b (off + i) = some (vs i))
      (hv : ∀ (i : Nat) c, cs[i]? = some c → VR G c (vs i)) : VR G (.pin cs) (.pointer (some ⟨b, off, none⟩))
  | agg {cs : List AVal} (vs : List Value) (hone : ∀ c ∈ cs, c.one = true) (hlen : cs.length = vs.length)
      (hv : ∀ (i : Nat) c v, cs[i]? = some c → vs[i]? = some v → VR G c v) : VR G (.agg cs) (.agg vs.toArray)
  | tuple {cs : List AVal} (vs : List Value) (hlen : cs.length = vs.length) (hv : ∀ (i : Nat) c v, cs[i]? = some c → vs[i]? = some v → VR G c v) :
      VR G (.tuple cs) (.tuple vs.toArray)
  | iface {t c v} (h : VR G c v) : VR G (.iface t c) (.iface t v)
  | func {fn} {cs ds : List AVal} (vs us : List Value) (hlen : cs.length = vs.length) (hv : ∀ (i : Nat) c v, cs[i]? = some c → vs[i]? = some v → VR G c v)
      (hlen' : ds.length = us.length) (hv' : ∀ (i : Nat) c v, ds[i]? = some c → us[i]? = some v → VR G c v) :
      VR G (.func fn cs ds) (.func fn vs.toArray us.toArray)

def VRL (G : Ghost) (cs : List AVal) (vs : List Value) : Prop :=
  cs.length = vs.length ∧ ∀ (i : Nat) c v, cs[i]? = some c → vs[i]? = some v → VR G c v

/-- The promises of G hold on in G'. -/
structure Ghost.Le (G G' : Ghost) : Prop where
  claim : ∀ b o v, G.claim b o = some v → G'.claim b o = some v
  blk : ∀ β x, G.blk β = some x → G'.blk β = some x
  row : ∀ ρ x, G.row ρ = some x → G'.row ρ = some x

theorem Ghost.Le.refl (G : Ghost) : G.Le G := ⟨fun _ _ _ h => h, fun _ _ h => h, fun _ _ h => h⟩
theorem Ghost.Le.trans {A B C : Ghost} (h : A.Le B) (k : B.Le C) : A.Le C :=
  ⟨fun b o v x => k.claim b o v (h.claim b o v x), fun β x y => k.blk β x (h.blk β x y), fun ρ x y => k.row ρ x (h.row ρ x y)⟩

theorem VR.le {G G' : Ghost} {c : AVal} {v : Value} (h : VR G c v) (hle : G.Le G') : VR G' c v := by
  induction h with
  | any => exact .any
  | int => exact .int
  | bool => exact .bool
  | str => exact .str
  | nilPtr => exact .nilPtr
  | nilSlice => exact .nilSlice
  | nilIface => exact .nilIface
  | nilFunc => exact .nilFunc
  | nilMap => exact .nilMap
  | undef => exact .undef
  | list vs hsz hone hcap hcl hv hρ ih => exact .list vs hsz hone hcap (fun i hi => hle.claim _ _ _ (hcl i hi)) (fun i c hc => ih i c hc) (fun r hr => hle.row _ _ (hρ r hr))
  | ref hβ hlen hcap => exact .ref (hle.blk _ _ hβ) hlen hcap
  | ptr hβ => exact .ptr (hle.blk _ _ hβ)
  | pin vs hone hcl hv ih => exact .pin vs hone (fun i hi => hle.claim _ _ _ (hcl i hi)) (fun i c hc => ih i c hc)
  | agg vs hone hlen hv ih => exact .agg vs hone hlen (fun i c v hc hvv => ih i c v hc hvv)
  | tuple vs hlen hv ih => exact .tuple vs hlen (fun i c v hc hvv => ih i c v hc hvv)
  | iface h ih => exact .iface ih
  | func vs us hlen hv hlen' hv' ih ih' => exact .func vs us hlen (fun i c v hc hvv => ih i c v hc hvv) hlen' (fun i c v hc hvv => ih' i c v hc hvv)

theorem VRL.le {G G' : Ghost} {cs : List AVal} {vs : List Value} (h : VRL G cs vs) (hle : G.Le G') : VRL G' cs vs :=
  ⟨h.1, fun i c v hc hv => (h.2 i c v hc hv).le hle⟩
theorem VRL.nil {G : Ghost} : VRL G [] [] := ⟨rfl, fun i c v h => by simp at h⟩
theorem VRL.cons {G : Ghost} {c : AVal} {v : Value} {cs : List AVal} {vs : List Value} (h : VR G c v) (hs : VRL G cs vs) : VRL G (c :: cs) (v :: vs) :=
  ⟨by simp [hs.1], fun i c' v' hc hv => by
    cases i with
    | zero => simp at hc hv; subst hc; subst hv; exact h
    | succ i => simp at hc hv; exact hs.2 i c' v' hc hv⟩
theorem VRL.head {G : Ghost} {c : AVal} {v : Value} {cs : List AVal} {vs : List Value} (h : VRL G (c :: cs) (v :: vs)) : VR G c v := h.2 0 c v rfl rfl
theorem VRL.tail {G : Ghost} {c : AVal} {v : Value} {cs : List AVal} {vs : List Value} (h : VRL G (c :: cs) (v :: vs)) : VRL G cs vs :=
  ⟨by have := h.1; simpa using this, fun i c' v' hc hv => h.2 (i + 1) c' v' (by simpa using hc) (by simpa using hv)⟩
theorem VRL.append {G : Ghost} {cs ds : List AVal} {vs us : List Value} (h : VRL G cs vs) (k : VRL G ds us) : VRL G (cs ++ ds) (vs ++ us) := by
  induction cs generalizing vs with
  | nil => cases vs with
    | nil => exact k
    | cons v vs => exact absurd h.1 (by simp)
  | cons c cs ih => cases vs with
    | nil => exact absurd h.1 (by simp)
    | cons v vs => exact VRL.cons h.head (ih h.tail)
theorem VRL.set {G : Ghost} {c : AVal} {v : Value} {cs : List AVal} {vs : List Value} (h : VRL G cs vs) (hc : VR G c v) (i : Nat) : VRL G (cs.set i c) (vs.set i v) := by
  refine ⟨by simp [h.1], fun j c' v' h1 h2 => ?_⟩
  rw [List.getElem?_set] at h1 h2
  by_cases hij : i = j
  · subst hij
    rw [if_pos rfl] at h1 h2
    split at h1 <;> split at h2 <;> simp at h1 h2
    subst h1; subst h2; exact hc
  · rw [if_neg hij] at h1 h2; exact h.2 j c' v' h1 h2
theorem VRL.get {G : Ghost} {cs : List AVal} {vs : List Value} (h : VRL G cs vs) {i : Nat} {c : AVal} (hc : cs[i]? = some c) : ∃ v, vs[i]? = some v ∧ VR G c v := by
  have hi := List.getElem?_eq_some_iff.1 hc
  have : i < vs.length := by rw [← h.1]; exact hi.1
  exact ⟨vs[i], List.getElem?_eq_getElem this, h.2 i c _ hc (List.getElem?_eq_getElem this)⟩

/-- The abstract heap: the blocks that may be written; the rows that may be appended to. -/
structure AHeap where
  blk : Nat → Option (List AVal)
  live : Nat → Bool

/-- The world holds what the abstract heap says. -/
structure Inv (G : Ghost) (h : AHeap) (w : World) : Prop where
  claims : ∀ b o v, G.claim b o = some v → w.cell? ⟨b, o, none⟩ = some v
  blks : ∀ β cs, h.blk β = some cs → ∃ b base vs T fr, G.blk β = some (b, base, vs.size) ∧ G.own b = some (.blk β) ∧
    w.heap[b]? = some (.cells vs T fr) ∧ (∀ o, o < vs.size → w.frozen? ⟨b, o, none⟩ = false) ∧ base + cs.length ≤ vs.size ∧
    (∀ (i : Nat) c, cs[i]? = some c → ∃ v, vs[base + i]? = some v ∧ VR G c v) ∧ (∀ c ∈ cs, c.one = true) ∧ (∀ o, G.claim b o = none)
  rows : ∀ ρ, h.live ρ = true → ∃ r vs T fr, G.row ρ = some r ∧ G.own r.b = some (.row ρ) ∧
    w.heap[r.b]? = some (.cells vs T fr) ∧ (∀ o, o < vs.size → w.frozen? ⟨r.b, o, none⟩ = false) ∧
    r.off + r.cap * r.sz ≤ vs.size ∧ (∀ o, r.off + r.len * r.sz ≤ o → G.claim r.b o = none)
  supply : ∃ n, ∀ ρ, n ≤ ρ → G.blk ρ = none ∧ G.row ρ = none
  owned : ∀ b x, G.own b = some x → b < w.heap.size

abbrev LMap := Nat → Option Nat
def noL : LMap := fun _ => none

def lget (ls : List (Nat × List AVal)) (k : Nat) : Option (List AVal) :=
  match ls with
  | [] => none
  | (k', cs) :: ls => if k = k' then some cs else lget ls k

def lset (ls : List (Nat × List AVal)) (k : Nat) (cs : List AVal) : List (Nat × List AVal) :=
  match ls with
  | [] => [(k, cs)]
  | (k', cs') :: ls => if k = k' then (k, cs) :: ls else (k', cs') :: lset ls k cs

theorem lget_lset (ls : List (Nat × List AVal)) (k j : Nat) (cs : List AVal) : lget (lset ls k cs) j = if j = k then some cs else lget ls j := by
  induction ls with
  | nil => simp [lset, lget]
  | cons x ls ih =>
    obtain ⟨k', cs'⟩ := x
    simp only [lset]
    split
    · rename_i h; subst h; simp only [lget]; split <;> rfl
    · rename_i h
      simp only [lget, ih]
      by_cases h1 : j = k'
      · subst h1; rw [if_pos rfl]; rw [if_neg (fun e => h e.symm)]; simp
      · simp [h1]

/-- The variables of this call that lie in memory: no one else's, nowhere promised. -/
structure LocRel (G : Ghost) (L : LMap) (w : World) (ls : List (Nat × List AVal)) : Prop where
  cells : ∀ k cs, lget ls k = some cs → ∃ b vs T, L k = some b ∧ G.own b = none ∧ (∀ o, G.claim b o = none) ∧
    w.heap[b]? = some (.cells vs T (0, 0)) ∧ VRL G cs vs.toList ∧ (∀ c ∈ cs, c.one = true)
  dom : ∀ k b, L k = some b → ∃ cs, lget ls k = some cs
  inj : ∀ k j b, L k = some b → L j = some b → k = j

structure AAct where
  tmps : List AVal
  locs : List (Nat × List AVal)

/-- A slot's value: as any value, or a pointer to one of the call's own variables. -/
def TR (G : Ghost) (L : LMap) (c : AVal) (v : Value) : Prop :=
  VR G c v ∨ ∃ k off b, c = .loc k off ∧ L k = some b ∧ v = .pointer (some ⟨b, off, none⟩)

structure ActRel (G : Ghost) (L : LMap) (w : World) (aa : AAct) (a : Act) : Prop where
  defers : a.defers = []
  size : aa.tmps.length = a.tmps.size
  tmps : ∀ (i : Nat) c v, aa.tmps[i]? = some c → a.tmps[i]? = some v → TR G L c v
  locs : LocRel G L w aa.locs

/-- What a stretch of a call may turn: blocks that nobody owns, and that are none of the call's own variables, stay. -/
structure Ext (G : Ghost) (L : LMap) (w : World) (G' : Ghost) (L' : LMap) (w' : World) : Prop where
  le : G.Le G'
  locs : ∀ k b, L' k = some b → (∃ j, L j = some b) ∨ w.heap.size ≤ b
  size : w.heap.size ≤ w'.heap.size
  keep : ∀ b, b < w.heap.size → G.own b = none → (∀ k, L k ≠ some b) → G'.own b = none ∧ w'.heap[b]? = w.heap[b]? ∧ ∀ o, G'.claim b o = G.claim b o
  os : w'.os = w.os
  tape : w'.tape = w.tape
  output : w'.output = w.output

theorem Ext.refl (G : Ghost) (L : LMap) (w : World) : Ext G L w G L w :=
  ⟨Ghost.Le.refl G, fun k _ h => .inl ⟨k, h⟩, Nat.le_refl _, fun _ _ h _ => ⟨h, rfl, fun _ => rfl⟩, rfl, rfl, rfl⟩

theorem Ext.trans {G G' G'' : Ghost} {L L' L'' : LMap} {w w' w'' : World} (h : Ext G L w G' L' w') (k : Ext G' L' w' G'' L'' w'') : Ext G L w G'' L'' w'' := by
  refine ⟨h.le.trans k.le, fun i b hb => ?_, Nat.le_trans h.size k.size, fun b hb ho hL => ?_, k.os.trans h.os, k.tape.trans h.tape, k.output.trans h.output⟩
  · rcases k.locs i b hb with ⟨j, hj⟩ | hn
    · exact h.locs j b hj
    · exact .inr (Nat.le_trans h.size hn)
  · obtain ⟨h1, h2, h3⟩ := h.keep b hb ho hL
    obtain ⟨k1, k2, k3⟩ := k.keep b (Nat.lt_of_lt_of_le hb h.size) h1 (fun i hi => by
      rcases h.locs i b hi with ⟨j, hj⟩ | hn
      · exact hL j hj
      · omega)
    exact ⟨k1, k2.trans h2, fun o => (k3 o).trans (h3 o)⟩

/-- What holds behind a stretch of a call, said of the model's own state. -/
def Lift (Q : Exit → AAct → AHeap → Prop) (G : Ghost) (L : LMap) (w : World) : Exit → Act → World → Prop := fun e a' w' =>
  ∃ G' L' aa' h', Ext G L w G' L' w' ∧ Inv G' h' w' ∧ ActRel G' L' w' aa' a' ∧ Q e aa' h'

theorem Lift.ext {Q : Exit → AAct → AHeap → Prop} {G G' : Ghost} {L L' : LMap} {w w' : World} (h : Ext G L w G' L' w') {e a₂ w₂} (k : Lift Q G' L' w' e a₂ w₂) : Lift Q G L w e a₂ w₂ := by
  obtain ⟨G₂, L₂, aa₂, h₂, x, i, r, q⟩ := k
  exact ⟨G₂, L₂, aa₂, h₂, h.trans x, i, r, q⟩

theorem Lift.mono {Q Q' : Exit → AAct → AHeap → Prop} (hq : ∀ e aa h, Q e aa h → Q' e aa h) {G : Ghost} {L : LMap} {w : World} {e a₂ w₂} (k : Lift Q G L w e a₂ w₂) : Lift Q' G L w e a₂ w₂ := by
  obtain ⟨G₂, L₂, aa₂, h₂, x, i, r, q⟩ := k
  exact ⟨G₂, L₂, aa₂, h₂, x, i, r, hq _ _ _ q⟩

section
variable (P : Program)

def AWp (c : Code) (Q : Exit → AAct → AHeap → Prop) (aa : AAct) (h : AHeap) : Prop :=
  ∀ G L w a, Inv G h w → ActRel G L w aa a → c.wp P (Lift Q G L w) a w

def thenE (next : AAct → AHeap → Prop) (Q : Exit → AAct → AHeap → Prop) : Exit → AAct → AHeap → Prop
  | .normal, aa, h => next aa h
  | e, aa, h => Q e aa h

def inBlockE (id : Nat) (Q : Exit → AAct → AHeap → Prop) : Exit → AAct → AHeap → Prop
  | .exit id', aa, h => if id' = id then Q .normal aa h else Q (.exit id') aa h
  | e, aa, h => Q e aa h

/-- A constant. -/
def aOfValue : Value → AVal
  | .int k n => .int k n
  | .bool b => .bool b
  | .string s => .str s
  | .pointer none => .nilPtr
  | .slice none 0 0 => .nilSlice
  | .nilIface => .nilIface
  | .nilFunc => .nilFunc
  | .map none => .nilMap
  | _ => .any

def aEval (tmps : List AVal) : Operand → AVal
  | .tmp t => tmps.getD t .undef
  | .const v => aOfValue v
  | .global _ => .any
  | .func f => .func (.func f) [] []

def aPut (aa : AAct) (dst : Option Tmp) (v : AVal) : AAct :=
  match dst with
  | some d => { aa with tmps := aa.tmps.set d v }
  | none => aa

theorem aOfValue_ok (G : Ghost) (v : Value) : VR G (aOfValue v) v := by
  cases v <;> simp only [aOfValue] <;> first | exact .int | exact .bool | exact .str | exact .nilIface | exact .nilFunc | exact .any | skip
  · rename_i o; cases o
    · exact .nilPtr
    · exact .any
  · rename_i o l c; cases o
    · cases l <;> cases c <;> first | exact .nilSlice | exact .any
    · exact .any
  · rename_i o; cases o
    · exact .nilMap
    · exact .any

theorem aEval_ok {G L w aa a} (h : ActRel G L w aa a) (x : Operand) : TR G L (aEval aa.tmps x) (a.eval x) := by
  cases x with
  | tmp t =>
    simp only [aEval, Act.eval, List.getD_eq_getElem?_getD, Array.getD_eq_getD_getElem?]
    have hl := h.size
    cases hc : aa.tmps[t]? with
    | none =>
      have : a.tmps[t]? = none := by
        rw [Array.getElem?_eq_none]
        have := List.getElem?_eq_none_iff.1 hc
        omega
      simp only [this, Option.getD]; exact .inl .undef
    | some c =>
      have hi := (List.getElem?_eq_some_iff.1 hc).1
      have hv : a.tmps[t]? = some (a.tmps[t]'(by omega)) := Array.getElem?_eq_getElem (by omega)
      simp only [hv, Option.getD]; exact h.tmps t c _ hc hv
  | const v => exact .inl (aOfValue_ok G v)
  | global g => exact .inl .any
  | func f => exact .inl (.func [] [] rfl (fun _ _ _ h => by simp at h) rfl (fun _ _ _ h => by simp at h))

theorem TR.plain {G L c v} (h : TR G L c v) (hc : c.isLoc = false) : VR G c v := by
  rcases h with h | ⟨k, off, b, rfl, _, _⟩
  · exact h
  · simp [AVal.isLoc] at hc

theorem aPut_ok {G L w aa a} (h : ActRel G L w aa a) (dst : Option Tmp) {c : AVal} {v : Value} (hv : TR G L c v) : ActRel G L w (aPut aa dst c) (a.put dst v) := by
  cases dst with
  | none => exact h
  | some d =>
    refine ⟨h.defers, by simp [aPut, Act.put, h.size], fun i c' v' h1 h2 => ?_, h.locs⟩
    simp only [aPut, Act.put, List.getElem?_set, Array.getElem?_setIfInBounds] at h1 h2
    by_cases hd : d = i
    · subst hd
      rw [if_pos rfl] at h1 h2
      split at h1 <;> split at h2 <;> simp at h1 h2
      subst h1; subst h2; exact hv
    · rw [if_neg hd] at h1 h2; exact h.tmps i c' v' h1 h2

variable {P} {Q : Exit → AAct → AHeap → Prop} {aa : AAct} {h : AHeap}

theorem AWp.mono {c : Code} {Q' : Exit → AAct → AHeap → Prop} (k : AWp P c Q aa h) (hq : ∀ e aa h, Q e aa h → Q' e aa h) : AWp P c Q' aa h :=
  fun G L w a hi ha => Go.wp_mono (k G L w a hi ha) fun _ _ _ q => q.mono hq

theorem AWp.skip (k : Q .normal aa h) : AWp P .skip Q aa h :=
  fun G L _ _ hi ha => wp_skip ⟨G, L, aa, h, Ext.refl _ _ _, hi, ha, k⟩
theorem AWp.ret (k : Q .ret aa h) : AWp P .ret Q aa h :=
  fun G L _ _ hi ha => wp_ret ⟨G, L, aa, h, Ext.refl _ _ _, hi, ha, k⟩
theorem AWp.exit {id : Nat} (k : Q (.exit id) aa h) : AWp P (.exit id) Q aa h :=
  fun G L _ _ hi ha => wp_exit ⟨G, L, aa, h, Ext.refl _ _ _, hi, ha, k⟩
theorem AWp.label {id : Nat} (k : Q .normal aa h) : AWp P (.label id) Q aa h :=
  fun G L _ _ hi ha => wp_label ⟨G, L, aa, h, Ext.refl _ _ _, hi, ha, k⟩

theorem AWp.seq {x y : Code} (k : AWp P x (thenE (AWp P y Q) Q) aa h) : AWp P (.seq x y) Q aa h := by
  intro G L w a hi ha
  refine wp_seq (Go.wp_mono (k G L w a hi ha) ?_)
  rintro e a' w' ⟨G', L', aa', h', x, i, r, q⟩
  cases e with
  | normal => exact Go.wp_mono (q G' L' w' a' i r) fun _ _ _ z => z.ext x
  | _ => exact ⟨G', L', aa', h', x, i, r, q⟩

theorem AWp.cond {c : Operand} {x y : Code} {t : Bool} (hc : aEval aa.tmps c = .bool t) (ht : t = true → AWp P x Q aa h) (hf : t = false → AWp P y Q aa h) : AWp P (.cond c x y) Q aa h := by
  intro G L w a hi ha
  have hv := aEval_ok ha c
  rw [hc] at hv
  replace hv := hv.plain rfl
  have he : a.eval c = .bool t := by
    generalize a.eval c = v at hv ⊢
    cases hv; rfl
  exact wp_cond_split he (fun e => ht e G L w a hi ha) (fun e => hf e G L w a hi ha)

theorem AWp.block {id : Nat} {c : Code} (k : AWp P c (inBlockE id Q) aa h) : AWp P (.block id c) Q aa h := by
  intro G L w a hi ha
  refine wp_block (Go.wp_mono (k G L w a hi ha) ?_)
  rintro e a' w' ⟨G', L', aa', h', x, i, r, q⟩
  cases e with
  | exit id' =>
    simp only [inBlockE] at q
    simp only [Exit.inBlock]
    split
    · rename_i hid; rw [if_pos hid] at q; exact ⟨G', L', aa', h', x, i, r, q⟩
    · rename_i hid; rw [if_neg hid] at q; exact ⟨G', L', aa', h', x, i, r, q⟩
  | _ => exact ⟨G', L', aa', h', x, i, r, q⟩

/-- What is known of a state may be forgotten. -/
def Weak (aa : AAct) (h : AHeap) (aa' : AAct) (h' : AHeap) : Prop :=
  ∀ G L w a, Inv G h w → ActRel G L w aa a → ∃ L', (∀ k b, L' k = some b → L k = some b) ∧ Inv G h' w ∧ ActRel G L' w aa' a

theorem Weak.refl (aa : AAct) (h : AHeap) : Weak aa h aa h := fun _ L _ _ hi ha => ⟨L, fun _ _ x => x, hi, ha⟩

theorem Weak.lift {G G' : Ghost} {L L' : LMap} {w w' : World} {e : Exit} {a' : Act} {aa' : AAct} {h' : AHeap} {Q : Exit → AAct → AHeap → Prop}
    (x : Ext G L w G' L' w') (i : Inv G' h' w') (r : ActRel G' L' w' aa' a') {aa₂ h₂} (k : Weak aa' h' aa₂ h₂) (q : Q e aa₂ h₂) : Lift Q G L w e a' w' := by
  obtain ⟨L₂, hL, i₂, r₂⟩ := k G' L' w' a' i r
  exact ⟨G', L₂, aa₂, h₂, ⟨x.le, fun k b hb => x.locs k b (hL k b hb), x.size, x.keep, x.os, x.tape, x.output⟩, i₂, r₂, q⟩

theorem AWp.weak {c : Code} {aa' : AAct} {h' : AHeap} (k : Weak aa h aa' h') (q : AWp P c Q aa' h') : AWp P c Q aa h := by
  intro G L w a hi ha
  obtain ⟨L', hL, hi', ha'⟩ := k G L w a hi ha
  refine Go.wp_mono (q G L' w a hi' ha') ?_
  rintro e a₂ w₂ ⟨G₂, L₂, aa₂, h₂, x, i, r, q⟩
  refine ⟨G₂, L₂, aa₂, h₂, ⟨x.le, fun k b hb => ?_, x.size, fun b hb ho hn => x.keep b hb ho (fun k e => hn k (hL k b e)), x.os, x.tape, x.output⟩, i, r, q⟩
  rcases x.locs k b hb with ⟨j, hj⟩ | hj
  · exact .inl ⟨j, hL j b hj⟩
  · exact .inr hj

/-- A loop, by an invariant over data of its own and a measure. -/
theorem AWp.loop {α : Type} {c : Code} (I : α → AAct → AHeap → Prop) (μ : α → Nat)
    (round : ∀ x aa h, I x aa h → AWp P c (thenE (fun aa' h' => ∃ x' aa₂ h₂, Weak aa' h' aa₂ h₂ ∧ I x' aa₂ h₂ ∧ μ x' < μ x) Q) aa h)
    (x₀ : α) {aa₀ : AAct} {h₀ : AHeap} (hw : Weak aa h aa₀ h₀) (h0 : I x₀ aa₀ h₀) : AWp P (.loop c) Q aa h := by
  refine AWp.weak hw ?_
  clear hw
  intro G L w a hi ha
  have key : ∀ n x aa h, μ x = n → I x aa h → ∀ G L w a, Inv G h w → ActRel G L w aa a → ∀ (b : Frame) (k : List Item) (cs : List Frame),
      ∃ e a' w', Lift Q G L w e a' w' ∧ Arrives P (lone (b.at a (.code c :: .inLoop c :: k)) cs w) b k cs e a' w' := by
    intro n
    induction n using Nat.strongRecOn with
    | _ n ih =>
      intro x aa h hn hI G L w a hi ha b k cs
      obtain ⟨e, a₁, w₁, ⟨G₁, L₁, aa₁, h₁, x₁, i₁, r₁, q₁⟩, harr⟩ := round x aa h hI G L w a hi ha b (.inLoop c :: k) cs
      cases e with
      | normal =>
        obtain ⟨x', aa₂, h₂, hwk, hI', hlt⟩ := q₁
        obtain ⟨L₂, hL₂, i₂, r₂⟩ := hwk G₁ L₁ w₁ a₁ i₁ r₁
        obtain ⟨e₂, a₂, w₂, hq₂, harr₂⟩ := ih (μ x') (hn ▸ hlt) x' aa₂ h₂ rfl hI' G₁ L₂ w₁ a₁ i₂ r₂ b k cs
        refine ⟨e₂, a₂, w₂, ?_, .of_steps (Steps.trans harr (.one step_inLoop)) harr₂⟩
        exact hq₂.ext ⟨x₁.le, fun k b hb => x₁.locs k b (hL₂ k b hb), x₁.size, x₁.keep, x₁.os, x₁.tape, x₁.output⟩
      | exit id => exact ⟨_, a₁, w₁, ⟨G₁, L₁, aa₁, h₁, x₁, i₁, r₁, q₁⟩, .pass (x := .inLoop c) rfl (fun _ _ => .inl (by simp)) harr⟩
      | goto l => exact ⟨_, a₁, w₁, ⟨G₁, L₁, aa₁, h₁, x₁, i₁, r₁, q₁⟩, .pass (x := .inLoop c) rfl (fun _ _ => .inl (by simp)) harr⟩
      | ret => exact ⟨_, a₁, w₁, ⟨G₁, L₁, aa₁, h₁, x₁, i₁, r₁, q₁⟩, .pass (x := .inLoop c) rfl (fun _ _ => .inl (by simp)) harr⟩
      | panic ch => exact ⟨_, a₁, w₁, ⟨G₁, L₁, aa₁, h₁, x₁, i₁, r₁, q₁⟩, .pass (x := .inLoop c) rfl (fun _ _ => .inl (by simp)) harr⟩
      | outgrown => exact ⟨_, a₁, w₁, ⟨G₁, L₁, aa₁, h₁, x₁, i₁, r₁, q₁⟩, .pass (x := .inLoop c) rfl (fun _ _ => .inl (by simp)) harr⟩
  intro b k cs
  obtain ⟨e, a', w', hq, harr⟩ := key _ x₀ aa₀ h₀ rfl h0 G L w a hi ha b k cs
  exact ⟨e, a', w', hq, .of_steps (.one step_loop) harr⟩

end
end Go.Ab
end
/- The abstract machine's memory: what a new block, and a write, do to the relation between the abstract state and the model's. -/
section
namespace Go.Ab

def upd {α : Type} (f : Nat → α) (k : Nat) (x : α) : Nat → α := fun j => if j = k then x else f j
theorem upd_same {α : Type} (f : Nat → α) (k : Nat) (x : α) : upd f k x k = x := by simp [upd]
theorem upd_ne {α : Type} (f : Nat → α) {k j : Nat} (x : α) (h : j ≠ k) : upd f k x j = f j := by simp [upd, h]

theorem one_oneCell {G c v} (h : VR G c v) (h1 : c.one = true) : v.oneCell' = true := by
  cases h <;> first | rfl | simp [AVal.one] at h1

theorem Inv.claim_lt {G h w} (i : Inv G h w) {b o v} (hc : G.claim b o = some v) : b < w.heap.size := World.block_lt_of_cell? _ _ (i.claims b o v hc)
theorem Inv.unclaimed {G h w} (i : Inv G h w) (b o : Nat) (hb : w.heap.size ≤ b) : G.claim b o = none := by
  cases hc : G.claim b o with
  | none => rfl
  | some v => exact absurd (i.claim_lt hc) (by omega)
theorem Inv.unowned {G h w} (i : Inv G h w) (b : Nat) (hb : w.heap.size ≤ b) : G.own b = none := by
  cases hc : G.own b with
  | none => rfl
  | some v => exact absurd (i.owned b v hc) (by omega)

theorem Inv.fresh {G h w} (i : Inv G h w) {n : Nat} (hb : G.blk n = none) (hr : G.row n = none) : h.blk n = none ∧ h.live n = false := by
  constructor
  · cases hc : h.blk n with
    | none => rfl
    | some cs => obtain ⟨b, base, vs, T, fr, h1, _⟩ := i.blks n cs hc; rw [hb] at h1; cases h1
  · cases hc : h.live n with
    | false => rfl
    | true => obtain ⟨r, vs, T, fr, h1, _⟩ := i.rows n hc; rw [hr] at h1; cases h1

/-- A world that has one block more, and else turned nothing but the count of its draws. -/
structure Pushed (w w' : World) (vs : Array Value) (T : TypeId) : Prop where
  heap : w'.heap = w.heap.push (.cells vs T (0, 0))
  os : w'.os = w.os
  tape : w'.tape = w.tape
  output : w'.output = w.output

/-- A world that has only drawn. -/
structure Drawn (w w' : World) : Prop where
  heap : w'.heap = w.heap
  os : w'.os = w.os
  tape : w'.tape = w.tape
  output : w'.output = w.output

theorem Pushed.alloc (w : World) (vs : Array Value) (T : TypeId) : Pushed w (w.alloc (.cells vs T (0, 0))) vs T := ⟨rfl, rfl, rfl, rfl⟩
theorem Pushed.drewAlloc (w : World) (vs : Array Value) (T : TypeId) : Pushed w (w.drew.alloc (.cells vs T (0, 0))) vs T := ⟨rfl, rfl, rfl, rfl⟩

section
variable {w w' : World} {vs : Array Value} {T : TypeId}

theorem Pushed.size (p : Pushed w w' vs T) : w'.heap.size = w.heap.size + 1 := by rw [p.heap]; simp
theorem Pushed.old (p : Pushed w w' vs T) {b : Nat} (h : b < w.heap.size) : w'.heap[b]? = w.heap[b]? := by
  rw [p.heap, Array.getElem?_push, if_neg (by omega)]
theorem Pushed.new (p : Pushed w w' vs T) : w'.heap[w.heap.size]? = some (.cells vs T (0, 0)) := by
  rw [p.heap, Array.getElem?_push, if_pos rfl]
theorem Pushed.cell (p : Pushed w w' vs T) {b o : Nat} (h : b < w.heap.size) : w'.cell? ⟨b, o, none⟩ = w.cell? ⟨b, o, none⟩ := World.cell?_of_block (p.old h)
theorem Pushed.frozen (p : Pushed w w' vs T) {b o : Nat} (h : b < w.heap.size) : w'.frozen? ⟨b, o, none⟩ = w.frozen? ⟨b, o, none⟩ := World.frozen?_of_block (p.old h)
theorem Pushed.cellNew (p : Pushed w w' vs T) (o : Nat) : w'.cell? ⟨w.heap.size, o, none⟩ = vs[o]? := by
  simp [World.cell?, p.new]
theorem Pushed.frozenNew (p : Pushed w w' vs T) (o : Nat) : w'.frozen? ⟨w.heap.size, o, none⟩ = false := by
  simp [World.frozen?, p.new]

theorem lt_of_block {w : World} {b : Nat} {x : Obj} (h : w.heap[b]? = some x) : b < w.heap.size := by
  have := (Array.getElem?_eq_some_iff.1 h).1
  exact this

theorem Inv.pushed {G h} (i : Inv G h w) (p : Pushed w w' vs T) : Inv G h w' where
  claims b o v hc := by rw [p.cell (i.claim_lt hc)]; exact i.claims b o v hc
  blks β cs hc := by
    obtain ⟨b, base, us, T', fr, h1, h2, h3, h4, h5⟩ := i.blks β cs hc
    have hb := lt_of_block h3
    exact ⟨b, base, us, T', fr, h1, h2, by rw [p.old hb]; exact h3, fun o ho => by rw [p.frozen hb]; exact h4 o ho, h5⟩
  rows ρ hc := by
    obtain ⟨r, us, T', fr, h1, h2, h3, h4, h5⟩ := i.rows ρ hc
    have hb := lt_of_block h3
    exact ⟨r, us, T', fr, h1, h2, by rw [p.old hb]; exact h3, fun o ho => by rw [p.frozen hb]; exact h4 o ho, h5⟩
  supply := i.supply
  owned b x hx := by have := i.owned b x hx; rw [p.size]; omega

theorem Inv.drawn {G h} (i : Inv G h w) (p : Drawn w w') : Inv G h w' where
  claims b o v hc := by rw [← i.claims b o v hc]; exact World.cell?_of_block (by rw [p.heap])
  blks β cs hc := by
    obtain ⟨b, base, us, T', fr, h1, h2, h3, h4, h5⟩ := i.blks β cs hc
    exact ⟨b, base, us, T', fr, h1, h2, by rw [p.heap]; exact h3, fun o ho => by rw [← h4 o ho]; exact World.frozen?_of_block (by rw [p.heap]), h5⟩
  rows ρ hc := by
    obtain ⟨r, us, T', fr, h1, h2, h3, h4, h5⟩ := i.rows ρ hc
    exact ⟨r, us, T', fr, h1, h2, by rw [p.heap]; exact h3, fun o ho => by rw [← h4 o ho]; exact World.frozen?_of_block (by rw [p.heap]), h5⟩
  supply := i.supply
  owned b x hx := by rw [p.heap]; exact i.owned b x hx

theorem Ext.drawn {G L} (p : Drawn w w') : Ext G L w G L w' :=
  ⟨Ghost.Le.refl G, fun k _ h => .inl ⟨k, h⟩, by rw [p.heap]; exact Nat.le_refl _, fun _ _ h _ => ⟨h, by rw [p.heap], fun _ => rfl⟩, p.os, p.tape, p.output⟩

theorem LocRel.pushed {G L ls} (l : LocRel G L w ls) (p : Pushed w w' vs T) : LocRel G L w' ls :=
  ⟨fun k cs hk => by
    obtain ⟨b, us, T', h1, h2, h3, h4, h5⟩ := l.cells k cs hk
    exact ⟨b, us, T', h1, h2, h3, by rw [p.old (lt_of_block h4)]; exact h4, h5⟩, l.dom, l.inj⟩
theorem LocRel.drawn {G L ls} (l : LocRel G L w ls) (p : Drawn w w') : LocRel G L w' ls :=
  ⟨fun k cs hk => by
    obtain ⟨b, us, T', h1, h2, h3, h4, h5⟩ := l.cells k cs hk
    exact ⟨b, us, T', h1, h2, h3, by rw [p.heap]; exact h4, h5⟩, l.dom, l.inj⟩
theorem TR.le {G G' : Ghost} {L c v} (h : TR G L c v) (hle : G.Le G') : TR G' L c v := h.imp (·.le hle) id

/-- The ghost behind a new row. -/
def Ghost.newRow (G : Ghost) (b n len cap sz : Nat) (vs : Array Value) : Ghost :=
  { claim := fun b' o => if b' = b then (if o < len * sz then vs[o]? else none) else G.claim b' o
    blk := G.blk
    row := upd G.row n (some ⟨b, 0, len, cap, sz⟩)
    own := upd G.own b (some (.row n)) }

theorem Ghost.newRow_le {G : Ghost} {h} (i : Inv G h w) {n : Nat} (hr : G.row n = none) (len cap sz : Nat) (vs : Array Value) :
    G.Le (G.newRow w.heap.size n len cap sz vs) :=
  ⟨fun b o v hc => by have := i.claim_lt hc; simp only [Ghost.newRow]; rw [if_neg (by omega)]; exact hc, fun _ _ h => h,
   fun ρ x hx => by simp only [Ghost.newRow]; rw [upd_ne _ _ (fun e => by subst e; rw [hr] at hx; cases hx)]; exact hx⟩

theorem LocRel.ghost {G G' : Ghost} {L ls} (l : LocRel G L w ls) (hle : G.Le G') (ho : ∀ b, b < w.heap.size → G.own b = none → (∃ k, L k = some b) → G'.own b = none ∧ ∀ o, G'.claim b o = G.claim b o) : LocRel G' L w ls :=
  ⟨fun k cs hk => by
    obtain ⟨b, us, T', h1, h2, h3, h4, h5, h6⟩ := l.cells k cs hk
    obtain ⟨k1, k2⟩ := ho b (lt_of_block h4) h2 ⟨k, h1⟩
    exact ⟨b, us, T', h1, k1, fun o => by rw [k2 o]; exact h3 o, h4, h5.le hle, h6⟩, l.dom, l.inj⟩

theorem flatten_len {xs : List (List AVal)} {sz : Nat} (hsz : ∀ x ∈ xs, x.length = sz) : xs.flatten.length = xs.length * sz := by
  induction xs with
  | nil => simp
  | cons x xs ih =>
    simp only [List.flatten_cons, List.length_append, List.length_cons]
    rw [ih (fun y hy => hsz y (by simp [hy])), hsz x (by simp), Nat.add_mul]; omega

/-- A new row of cells becomes a list. -/
theorem new_list {G L h aa a} (i : Inv G h w) (r : ActRel G L w aa a) (p : Pushed w w' vs T) {n : Nat} (hb : G.blk n = none) (hr : G.row n = none)
    {sz cap : Nat} {xs : List (List AVal)} (hsz : ∀ x ∈ xs, x.length = sz) (hone : ∀ c ∈ xs.flatten, c.one = true) (hcap : xs.length ≤ cap) (hsize : cap * sz ≤ vs.size)
    (hv : ∀ (j : Nat) c, xs.flatten[j]? = some c → ∃ v, vs[j]? = some v ∧ VR G c v) :
    ∃ G', Ext G L w G' L w' ∧ Inv G' { h with live := upd h.live n true } w' ∧ ActRel G' L w' aa a ∧ VR G' (.list (some n) sz xs) (.slice (some ⟨w.heap.size, 0, none⟩) xs.length cap) := by
  have hle := Ghost.newRow_le (G := G) i hr xs.length cap sz vs
  have hle2 : xs.length * sz ≤ vs.size := Nat.le_trans (Nat.mul_le_mul_right _ hcap) hsize
  refine ⟨G.newRow w.heap.size n xs.length cap sz vs, ?_, ?_, ?_, ?_⟩
  · refine ⟨hle, fun k b hk => .inl ⟨k, hk⟩, by rw [p.size]; omega, fun b hb1 ho _ => ⟨?_, p.old hb1, fun o => ?_⟩, p.os, p.tape, p.output⟩
    · simp only [Ghost.newRow]; rw [upd_ne _ _ (by omega)]; exact ho
    · simp only [Ghost.newRow]; rw [if_neg (by omega)]
  · have i' := i.pushed p
    refine ⟨fun b o v hc => ?_, fun β cs hc => ?_, fun ρ hc => ?_, ?_, fun b x hx => ?_⟩
    · simp only [Ghost.newRow] at hc
      split at hc
      · rename_i e; subst e
        split at hc
        · rw [p.cellNew]; exact hc
        · cases hc
      · exact i'.claims b o v hc
    · obtain ⟨b, base, us, T', fr, h1, h2, h3, h4, h5, h6, h7, h8⟩ := i'.blks β cs hc
      have hbs : b ≠ w.heap.size := by have := i.owned b _ h2; omega
      refine ⟨b, base, us, T', fr, h1, ?_, h3, h4, h5, fun j c hj => ?_, h7, fun o => ?_⟩
      · simp only [Ghost.newRow]; rw [upd_ne _ _ hbs]; exact h2
      · obtain ⟨v, hv1, hv2⟩ := h6 j c hj; exact ⟨v, hv1, hv2.le hle⟩
      · simp only [Ghost.newRow]; rw [if_neg hbs]; exact h8 o
    · by_cases hn : ρ = n
      · subst hn
        refine ⟨⟨w.heap.size, 0, xs.length, cap, sz⟩, vs, T, (0, 0), ?_, ?_, p.new, fun o _ => p.frozenNew o, by simpa using hsize, fun o ho => ?_⟩
        · simp [Ghost.newRow, upd_same]
        · simp [Ghost.newRow, upd_same]
        · simp only [Ghost.newRow, if_true]; rw [if_neg (by simp at ho; omega)]
      · simp only [upd_ne _ _ hn] at hc
        obtain ⟨q, us, T', fr, h1, h2, h3, h4, h5, h6⟩ := i'.rows ρ hc
        have hbs : q.b ≠ w.heap.size := by have := i.owned _ _ h2; omega
        refine ⟨q, us, T', fr, ?_, ?_, h3, h4, h5, fun o ho => ?_⟩
        · simp only [Ghost.newRow]; rw [upd_ne _ _ hn]; exact h1
        · simp only [Ghost.newRow]; rw [upd_ne _ _ hbs]; exact h2
        · simp only [Ghost.newRow]; rw [if_neg hbs]; exact h6 o ho
    · obtain ⟨m, hm⟩ := i.supply
      refine ⟨max m (n + 1), fun ρ hρ => ⟨(hm ρ (by omega)).1, ?_⟩⟩
      simp only [Ghost.newRow]; rw [upd_ne _ _ (by omega)]; exact (hm ρ (by omega)).2
    · simp only [Ghost.newRow, upd] at hx
      split at hx
      · rename_i e; rw [p.size]; omega
      · exact i'.owned b x hx
  · refine ⟨r.defers, r.size, fun j c v h1 h2 => (r.tmps j c v h1 h2).le hle, ?_⟩
    refine (r.locs.pushed p).ghost hle (fun b _ ho ⟨k, hk⟩ => ?_)
    obtain ⟨cs, hcs⟩ := r.locs.dom k b hk
    obtain ⟨b', us, T', h1, h2, h3, h4, h5, h6⟩ := r.locs.cells k cs hcs
    rw [hk] at h1; cases h1
    have hbs : b ≠ w.heap.size := by have := lt_of_block h4; omega
    refine ⟨?_, fun o => ?_⟩
    · simp only [Ghost.newRow]; rw [upd_ne _ _ hbs]; exact ho
    · simp only [Ghost.newRow]; rw [if_neg hbs]
  · refine VR.list (fun j => vs.getD j undef) hsz hone hcap (fun j hj => ?_) (fun j c hj => ?_) (fun q hq => ?_)
    · simp only [Ghost.newRow, if_true, Nat.zero_add]
      rw [if_pos hj, Array.getElem?_eq_getElem (by omega)]
      simp [Array.getD, show j < vs.size by omega]
    · obtain ⟨v, h1, h2⟩ := hv j c hj
      have : vs.getD j undef = v := by rw [Array.getD_eq_getD_getElem?, h1]; rfl
      rw [this]; exact h2.le hle
    · cases hq; simp [Ghost.newRow, upd_same]

/-- A new block of the call's own. -/
theorem new_loc {G L h aa a} (i : Inv G h w) (r : ActRel G L w aa a) (p : Pushed w w' vs T) {k : Nat} (hk : lget aa.locs k = none) {cs : List AVal}
    (hv : VRL G cs vs.toList) (hone : ∀ c ∈ cs, c.one = true) :
    ∃ L', Ext G L w G L' w' ∧ Inv G h w' ∧ ActRel G L' w' { aa with locs := lset aa.locs k cs } a ∧ TR G L' (.loc k 0) (.pointer (some ⟨w.heap.size, 0, none⟩)) := by
  have hLk : L k = none := by
    cases e : L k with
    | none => rfl
    | some b => obtain ⟨cs', h'⟩ := r.locs.dom k b e; rw [hk] at h'; cases h'
  have hlt : ∀ j b, L j = some b → b < w.heap.size := fun j b hj => by
    obtain ⟨cs', h'⟩ := r.locs.dom j b hj
    obtain ⟨b', us, T', h1, h2, h3, h4, h5, h6⟩ := r.locs.cells j cs' h'
    rw [hj] at h1; cases h1; exact lt_of_block h4
  refine ⟨fun j => if j = k then some w.heap.size else L j, ?_, i.pushed p, ?_, ?_⟩
  · refine ⟨Ghost.Le.refl G, fun j b hj => ?_, by rw [p.size]; omega, fun b hb1 ho _ => ⟨ho, p.old hb1, fun _ => rfl⟩, p.os, p.tape, p.output⟩
    split at hj
    · cases hj; exact .inr (Nat.le_refl _)
    · exact .inl ⟨j, hj⟩
  · refine ⟨r.defers, r.size, fun j c v h1 h2 => ?_, ⟨fun j cs' hj => ?_, fun j b hj => ?_, fun j j' b hj hj' => ?_⟩⟩
    · rcases r.tmps j c v h1 h2 with h3 | ⟨m, off, b, e1, e2, e3⟩
      · exact .inl h3
      · refine .inr ⟨m, off, b, e1, ?_, e3⟩
        have : m ≠ k := fun e => by subst e; rw [hLk] at e2; cases e2
        simp [this, e2]
    · rw [lget_lset] at hj
      by_cases hjk : j = k
      · subst hjk
        rw [if_pos rfl] at hj; cases hj
        exact ⟨w.heap.size, vs, T, by simp, i.unowned _ (Nat.le_refl _), fun o => i.unclaimed _ o (Nat.le_refl _), p.new, hv, hone⟩
      · rw [if_neg hjk] at hj
        obtain ⟨b', us, T', h1, h2, h3, h4, h5⟩ := r.locs.cells j cs' hj
        exact ⟨b', us, T', by simp [hjk, h1], h2, h3, by rw [p.old (lt_of_block h4)]; exact h4, h5⟩
    · rw [lget_lset]
      split at hj
      · rename_i e; exact ⟨cs, by simp [e]⟩
      · rename_i e; rw [if_neg e]; exact r.locs.dom j b hj
    · split at hj <;> split at hj'
      · rename_i e e'; rw [e, e']
      · cases hj; have := hlt _ _ hj'; omega
      · cases hj'; have := hlt _ _ hj; omega
      · exact r.locs.inj j j' b hj hj'
  · exact .inr ⟨k, 0, w.heap.size, rfl, by simp, rfl⟩

/-- A new block of the abstract heap. -/
theorem new_blk {G L h aa a} (i : Inv G h w) (r : ActRel G L w aa a) (p : Pushed w w' vs T) {n : Nat} (hb : G.blk n = none) (hr : G.row n = none) {cs : List AVal}
    (hv : ∀ (j : Nat) c, cs[j]? = some c → ∃ v, vs[j]? = some v ∧ VR G c v) (hsz : cs.length ≤ vs.size) (hone : ∀ c ∈ cs, c.one = true) :
    ∃ G', Ext G L w G' L w' ∧ Inv G' { h with blk := upd h.blk n (some cs) } w' ∧ ActRel G' L w' aa a ∧ G'.blk n = some (w.heap.size, 0, vs.size) := by
  let G' : Ghost := { G with blk := upd G.blk n (some (w.heap.size, 0, vs.size)), own := upd G.own w.heap.size (some (.blk n)) }
  have hle : G.Le G' := ⟨fun _ _ _ h => h, fun β x hx => by simp only [G']; rw [upd_ne _ _ (fun e => by subst e; rw [hb] at hx; cases hx)]; exact hx, fun _ _ h => h⟩
  refine ⟨G', ?_, ?_, ?_, by simp [G', upd_same]⟩
  · refine ⟨hle, fun k b hk => .inl ⟨k, hk⟩, by rw [p.size]; omega, fun b hb1 ho _ => ⟨?_, p.old hb1, fun o => rfl⟩, p.os, p.tape, p.output⟩
    simp only [G']; rw [upd_ne _ _ (by omega)]; exact ho
  · have i' := i.pushed p
    refine ⟨i'.claims, fun β ds hc => ?_, fun ρ hc => ?_, ?_, fun b x hx => ?_⟩
    · by_cases hn : β = n
      · subst hn
        simp only [upd_same] at hc; cases hc
        refine ⟨w.heap.size, 0, vs, T, (0, 0), by simp [G', upd_same], by simp [G', upd_same], p.new, fun o _ => p.frozenNew o, by omega, fun j c hj => ?_, hone, fun o => i.unclaimed _ o (Nat.le_refl _)⟩
        obtain ⟨v, h1, h2⟩ := hv j c hj
        exact ⟨v, by simpa using h1, h2.le hle⟩
      · simp only [upd_ne _ _ hn] at hc
        obtain ⟨b, base, us, T', fr, h1, h2, h3, h4, h5, h6, h7, h8⟩ := i'.blks β ds hc
        have hbs : b ≠ w.heap.size := by have := i.owned b _ h2; omega
        refine ⟨b, base, us, T', fr, ?_, ?_, h3, h4, h5, fun j c hj => ?_, h7, h8⟩
        · simp only [G']; rw [upd_ne _ _ hn]; exact h1
        · simp only [G']; rw [upd_ne _ _ hbs]; exact h2
        · obtain ⟨v, hv1, hv2⟩ := h6 j c hj; exact ⟨v, hv1, hv2.le hle⟩
    · obtain ⟨q, us, T', fr, h1, h2, h3, h4, h5, h6⟩ := i'.rows ρ hc
      have hbs : q.b ≠ w.heap.size := by have := i.owned _ _ h2; omega
      refine ⟨q, us, T', fr, h1, ?_, h3, h4, h5, h6⟩
      simp only [G']; rw [upd_ne _ _ hbs]; exact h2
    · obtain ⟨m, hm⟩ := i.supply
      refine ⟨max m (n + 1), fun ρ hρ => ⟨?_, (hm ρ (by omega)).2⟩⟩
      simp only [G']; rw [upd_ne _ _ (by omega)]; exact (hm ρ (by omega)).1
    · simp only [G', upd] at hx
      split at hx
      · rename_i e; rw [p.size]; omega
      · exact i'.owned b x hx
  · refine ⟨r.defers, r.size, fun j c v h1 h2 => (r.tmps j c v h1 h2).le hle, ?_⟩
    refine (r.locs.pushed p).ghost hle (fun b hbw ho ⟨k, hk⟩ => ?_)
    obtain ⟨cs', hcs⟩ := r.locs.dom k b hk
    obtain ⟨b', us, T', h1, h2, h3, h4, h5, h6⟩ := r.locs.cells k cs' hcs
    rw [hk] at h1; cases h1
    have hbs : b ≠ w.heap.size := by have := lt_of_block h4; omega
    exact ⟨by simp only [G']; rw [upd_ne _ _ hbs]; exact ho, fun o => rfl⟩

end
end Go.Ab
end
/- The abstract machine's memory: writes to a block, to a variable of the call, and behind the end of a row. -/
section
namespace Go.Ab

/-- The cells of block b from place o on have been written, and nothing else. -/
structure Wrote (w w' : World) (b o : Nat) (new : List Value) (vs us : Array Value) (T : TypeId) (fr : Nat × Nat) : Prop where
  other : ∀ b', b' ≠ b → w'.heap[b']? = w.heap[b']?
  size : w'.heap.size = w.heap.size
  was : w.heap[b]? = some (.cells vs T fr)
  now : w'.heap[b]? = some (.cells us T fr)
  len : us.size = vs.size
  inside : ∀ j, o ≤ j → j < o + new.length → j < vs.size → us[j]? = new[j - o]?
  outside : ∀ j, j < o ∨ o + new.length ≤ j → us[j]? = vs[j]?
  os : w'.os = w.os
  tape : w'.tape = w.tape
  output : w'.output = w.output

theorem wrote_setCells (b : Nat) (T : TypeId) (fr : Nat × Nat) : ∀ (new : List Value) (o : Nat) (w : World) (vs : Array Value), w.heap[b]? = some (.cells vs T fr) →
    ∃ us, Wrote w (w.setCells b o new) b o new vs us T fr := by
  intro new
  induction new with
  | nil =>
    intro o w vs hv
    exact ⟨vs, fun _ _ => rfl, rfl, hv, hv, rfl, fun j h1 h2 _ => by simp at h2; omega, fun _ _ => rfl, rfl, rfl, rfl⟩
  | cons v new ih =>
    intro o w vs hv
    have hs : (w.setCell ⟨b, o, none⟩ v).heap.size = w.heap.size := by simp
    have hb : (w.setCell ⟨b, o, none⟩ v).heap[b]? = some (.cells (vs.setIfInBounds o v) T fr) := by
      simp [World.setCell, Array.getElem?_modify, hv]
    obtain ⟨us, h⟩ := ih (o + 1) (w.setCell ⟨b, o, none⟩ v) _ hb
    refine ⟨us, fun b' hb => ?_, ?_, hv, h.now, by rw [h.len]; simp, fun j j1 j2 j3 => ?_, fun j hj => ?_, h.os, h.tape, h.output⟩
    · rw [World.setCells, h.other b' hb]
      exact RowKit.Below.heap_setCell _ _ _ _ hb
    · rw [World.setCells, h.size, hs]
    · simp only [List.length_cons] at j2
      by_cases e : j = o
      · subst e
        rw [h.outside j (.inl (by omega))]
        simp [j3]
      · rw [h.inside j (by omega) (by omega) (by simpa using j3)]
        rw [show j - o = (j - (o + 1)) + 1 by omega]; simp
    · simp only [List.length_cons] at hj
      rw [h.outside j (by omega), Array.getElem?_setIfInBounds, if_neg (by omega)]

section
variable {w w' : World} {b o : Nat} {new : List Value} {vs us : Array Value} {T : TypeId} {fr : Nat × Nat}

theorem Wrote.cell (p : Wrote w w' b o new vs us T fr) {b' o' : Nat} (h : b' ≠ b ∨ o' < o ∨ o + new.length ≤ o') : w'.cell? ⟨b', o', none⟩ = w.cell? ⟨b', o', none⟩ := by
  by_cases hb : b' = b
  · subst hb
    have h' : o' < o ∨ o + new.length ≤ o' := by rcases h with h | h; exact absurd rfl h; exact h
    simp [World.cell?, p.was, p.now, p.outside o' h']
  · exact World.cell?_of_block (p.other b' hb)

theorem Wrote.frozen (p : Wrote w w' b o new vs us T fr) (b' o' : Nat) : w'.frozen? ⟨b', o', none⟩ = w.frozen? ⟨b', o', none⟩ := by
  by_cases hb : b' = b
  · subst hb; simp [World.frozen?, p.was, p.now]
  · exact World.frozen?_of_block (p.other b' hb)

/-- A claim is not written over. -/
theorem Wrote.claims {G h} (i : Inv G h w) (p : Wrote w w' b o new vs us T fr) (hc : ∀ j, o ≤ j → G.claim b j = none) : ∀ b' o' v, G.claim b' o' = some v → w'.cell? ⟨b', o', none⟩ = some v := by
  intro b' o' v hv
  rw [p.cell]
  · exact i.claims b' o' v hv
  · by_cases hb : b' = b
    · subst hb
      by_cases ho : o ≤ o'
      · rw [hc o' ho] at hv; cases hv
      · exact .inr (.inl (by omega))
    · exact .inl hb

/-- A write to a block of the abstract heap. -/
theorem write_blk {G L h aa a} (i : Inv G h w) (r : ActRel G L w aa a) {β base n : Nat} {cs : List AVal} {off : Nat} {ds : List AVal} (hβ : G.blk β = some (b, base, n)) (hcs : h.blk β = some cs)
    (p : Wrote w w' b (base + off) new vs us T fr) (hoff : off + ds.length ≤ cs.length) (hd : VRL G ds new) (hone : ∀ c ∈ ds, c.one = true) :
    Ext G L w G L w' ∧ Inv G { h with blk := upd h.blk β (some (cs.take off ++ ds ++ cs.drop (off + ds.length))) } w' ∧ ActRel G L w' aa a := by
  obtain ⟨b', base', vs', T', fr', h1, h2, h3, h4, h5, h6, h7, h8⟩ := i.blks β cs hcs
  rw [hβ] at h1; cases h1
  rw [p.was] at h3; cases h3
  have hlt := lt_of_block p.was
  have hnew : new.length = ds.length := hd.1.symm
  have hloc : ∀ k, L k ≠ some b := fun k hk => by
    obtain ⟨cs', hcs'⟩ := r.locs.dom k b hk
    obtain ⟨b', us, T', k1, k2, _⟩ := r.locs.cells k cs' hcs'
    rw [hk] at k1; cases k1; rw [h2] at k2; cases k2
  refine ⟨⟨Ghost.Le.refl G, fun k _ hk => .inl ⟨k, hk⟩, by rw [p.size]; exact Nat.le_refl _, fun b' hb1 ho _ => ⟨ho, p.other b' (fun e => by subst e; rw [h2] at ho; cases ho), fun _ => rfl⟩, p.os, p.tape, p.output⟩, ?_, ?_⟩
  · refine ⟨p.claims i (fun j _ => h8 j), fun γ es hγ => ?_, fun ρ hρ => ?_, i.supply, fun b x hx => by rw [p.size]; exact i.owned b x hx⟩
    · by_cases e : γ = β
      · subst e
        simp only [upd_same] at hγ; cases hγ
        have hlen : (cs.take off ++ ds ++ cs.drop (off + ds.length)).length = cs.length := by simp; omega
        refine ⟨b, base, us, T, fr, by rw [hβ, p.len], h2, p.now, fun o ho => by rw [p.frozen]; exact h4 o (by rw [← p.len]; exact ho), by rw [hlen, p.len]; exact h5, fun j c hj => ?_, fun c hc => ?_, h8⟩
        · have hj' : j < cs.length := by rw [← hlen]; exact (List.getElem?_eq_some_iff.1 hj).1
          by_cases j1 : j < off
          · rw [p.outside _ (.inl (by omega))]
            refine h6 j c ?_
            rw [List.append_assoc, List.getElem?_append_left (by simp; omega), List.getElem?_take_of_lt j1] at hj
            exact hj
          · by_cases j2 : j < off + ds.length
            · rw [p.inside _ (by omega) (by omega) (by omega), show base + j - (base + off) = j - off by omega]
              rw [List.append_assoc, List.getElem?_append_right (by simp; omega), List.getElem?_append_left (by simp; omega)] at hj
              simp only [List.length_take] at hj
              rw [show j - min off cs.length = j - off by omega] at hj
              exact hd.get hj
            · rw [p.outside _ (.inr (by omega))]
              refine h6 j c ?_
              rw [List.getElem?_append_right (by simp; omega)] at hj
              simp only [List.length_append, List.length_take, List.getElem?_drop] at hj
              rw [show off + ds.length + (j - (min off cs.length + ds.length)) = j by omega] at hj
              exact hj
        · simp only [List.mem_append] at hc
          rcases hc with (hc | hc) | hc
          · exact h7 c (List.mem_of_mem_take hc)
          · exact hone c hc
          · exact h7 c (List.mem_of_mem_drop hc)
      · simp only [upd_ne _ _ e] at hγ
        obtain ⟨b', base', vs', T', fr', k1, k2, k3, k4, k5, k6, k7, k8⟩ := i.blks γ es hγ
        have hb : b' ≠ b := fun e' => by subst e'; rw [h2] at k2; cases k2; exact e rfl
        exact ⟨b', base', vs', T', fr', k1, k2, by rw [p.other b' hb]; exact k3, fun o ho => by rw [p.frozen]; exact k4 o ho, k5, k6, k7, k8⟩
    · obtain ⟨q, vs', T', fr', k1, k2, k3, k4, k5⟩ := i.rows ρ hρ
      have hb : q.b ≠ b := fun e' => by rw [e', h2] at k2; cases k2
      exact ⟨q, vs', T', fr', k1, k2, by rw [p.other q.b hb]; exact k3, fun o ho => by rw [p.frozen]; exact k4 o ho, k5⟩
  · refine ⟨r.defers, r.size, r.tmps, fun k cs' hk => ?_, r.locs.dom, r.locs.inj⟩
    obtain ⟨b', us, T', k1, k2, k3, k4, k5⟩ := r.locs.cells k cs' hk
    have hb : b' ≠ b := fun e' => by subst e'; exact hloc k k1
    exact ⟨b', us, T', k1, k2, k3, by rw [p.other b' hb]; exact k4, k5⟩

/-- A write to a variable of the call. -/
theorem write_loc {G L h aa a} (i : Inv G h w) (r : ActRel G L w aa a) {k off : Nat} {cs ds : List AVal} (hk : L k = some b) (hcs : lget aa.locs k = some cs)
    (p : Wrote w w' b off new vs us T fr) (hoff : off + ds.length ≤ cs.length) (hd : VRL G ds new) (hone : ∀ c ∈ ds, c.one = true) :
    Ext G L w G L w' ∧ Inv G h w' ∧ ActRel G L w' { aa with locs := lset aa.locs k (cs.take off ++ ds ++ cs.drop (off + ds.length)) } a := by
  obtain ⟨b', vs', T', h1, h2, h3, h4, h5, h6⟩ := r.locs.cells k cs hcs
  rw [hk] at h1; cases h1
  rw [p.was] at h4; cases h4
  have hnew : new.length = ds.length := hd.1.symm
  refine ⟨⟨Ghost.Le.refl G, fun k _ hk => .inl ⟨k, hk⟩, by rw [p.size]; exact Nat.le_refl _, fun b' _ ho hl => ⟨ho, p.other b' (fun e => by subst e; exact hl k hk), fun _ => rfl⟩, p.os, p.tape, p.output⟩, ?_, ?_⟩
  · refine ⟨p.claims i (fun j _ => h3 j), fun γ es hγ => ?_, fun ρ hρ => ?_, i.supply, fun b x hx => by rw [p.size]; exact i.owned b x hx⟩
    · obtain ⟨b', base', vs', T', fr', k1, k2, k3, k4, k5, k6, k7, k8⟩ := i.blks γ es hγ
      have hb : b' ≠ b := fun e' => by subst e'; rw [h2] at k2; cases k2
      exact ⟨b', base', vs', T', fr', k1, k2, by rw [p.other b' hb]; exact k3, fun o ho => by rw [p.frozen]; exact k4 o ho, k5, k6, k7, k8⟩
    · obtain ⟨q, vs', T', fr', k1, k2, k3, k4, k5⟩ := i.rows ρ hρ
      have hb : q.b ≠ b := fun e' => by rw [e', h2] at k2; cases k2
      exact ⟨q, vs', T', fr', k1, k2, by rw [p.other q.b hb]; exact k3, fun o ho => by rw [p.frozen]; exact k4 o ho, k5⟩
  · refine ⟨r.defers, r.size, r.tmps, fun j cs' hj => ?_, fun j b' hj => ?_, r.locs.inj⟩
    · rw [lget_lset] at hj
      by_cases e : j = k
      · subst e
        rw [if_pos rfl] at hj; cases hj
        refine ⟨b, us, T, hk, h2, h3, p.now, ?_, fun c hc => ?_⟩
        · have hl5 := h5.1
          simp only [Array.length_toList] at hl5
          refine ⟨by simp [p.len]; omega, fun j c v h1 h2 => ?_⟩
          simp only [Array.getElem?_toList] at h2
          have hlen : (cs.take off ++ ds ++ cs.drop (off + ds.length)).length = cs.length := by simp; omega
          have hj' : j < cs.length := by rw [← hlen]; exact (List.getElem?_eq_some_iff.1 h1).1
          by_cases j1 : j < off
          · rw [p.outside _ (.inl (by omega))] at h2
            rw [List.append_assoc, List.getElem?_append_left (by simp; omega), List.getElem?_take_of_lt j1] at h1
            exact h5.2 j c v h1 (by simpa using h2)
          · by_cases j2 : j < off + ds.length
            · rw [p.inside _ (by omega) (by omega) (by omega)] at h2
              rw [List.append_assoc, List.getElem?_append_right (by simp; omega), List.getElem?_append_left (by simp; omega)] at h1
              simp only [List.length_take] at h1
              rw [show j - min off cs.length = j - off by omega] at h1
              exact hd.2 _ c v h1 h2
            · rw [p.outside _ (.inr (by omega))] at h2
              rw [List.getElem?_append_right (by simp; omega)] at h1
              simp only [List.length_append, List.length_take, List.getElem?_drop] at h1
              rw [show off + ds.length + (j - (min off cs.length + ds.length)) = j by omega] at h1
              exact h5.2 j c v h1 (by simpa using h2)
        · simp only [List.mem_append] at hc
          rcases hc with (hc | hc) | hc
          · exact h6 c (List.mem_of_mem_take hc)
          · exact hone c hc
          · exact h6 c (List.mem_of_mem_drop hc)
      · rw [if_neg e] at hj
        obtain ⟨b', us, T', k1, k2, k3, k4, k5⟩ := r.locs.cells j cs' hj
        have hb : b' ≠ b := fun e' => by subst e'; exact e (r.locs.inj j k _ k1 hk)
        exact ⟨b', us, T', k1, k2, k3, by rw [p.other b' hb]; exact k4, k5⟩
    · rw [lget_lset]
      by_cases e : j = k
      · exact ⟨_, if_pos e⟩
      · rw [if_neg e]; exact r.locs.dom j b' hj

/-- The ghost behind an append that found room. -/
def Ghost.grown (G : Ghost) (n b off len cap sz e : Nat) (us : Array Value) : Ghost :=
  { claim := fun b' o => if b' = b ∧ e ≤ o ∧ o < off + len * sz then us[o]? else G.claim b' o
    blk := G.blk
    row := upd G.row n (some ⟨b, off, len, cap, sz⟩)
    own := upd G.own b (some (.row n)) }

/-- An append that found room: the row goes on under another number. -/
theorem grow_list {G L h aa a} (i : Inv G h w) (r : ActRel G L w aa a) {ρ n off cap sz : Nat} {xs ys : List (List AVal)} (hb : G.blk n = none) (hr : G.row n = none) (hρ : h.live ρ = true)
    (hv : VR G (.list (some ρ) sz xs) (.slice (some ⟨b, off, none⟩) xs.length cap))
    (p : Wrote w w' b (off + xs.length * sz) new vs us T fr) (hd : VRL G ys.flatten new) (hsz : ∀ x ∈ ys, x.length = sz) (hone : ∀ c ∈ ys.flatten, c.one = true) (hcap : xs.length + ys.length ≤ cap) :
    ∃ G', Ext G L w G' L w' ∧ Inv G' { h with live := upd (upd h.live ρ false) n true } w' ∧ ActRel G' L w' aa a ∧
      VR G' (.list (some n) sz (xs ++ ys)) (.slice (some ⟨b, off, none⟩) (xs.length + ys.length) cap) := by
  obtain ⟨q, vs', T', fr', h1, h2, h3, h4, h5, h6⟩ := i.rows ρ hρ
  cases hv with
  | list ws hsz' hone' hcap' hcl hvs hq =>
  have hq' := hq ρ rfl
  rw [hq'] at h1; cases h1
  simp only at h2 h3 h4 h5 h6
  rw [p.was] at h3; cases h3
  have hlt := lt_of_block p.was
  have hyl := flatten_len hsz
  have hxl := flatten_len hsz'
  have hnew : new.length = ys.length * sz := by rw [← hd.1, hyl]
  have hsum : (xs.length + ys.length) * sz = xs.length * sz + ys.length * sz := Nat.add_mul _ _ _
  have hcs : (xs.length + ys.length) * sz ≤ cap * sz := Nat.mul_le_mul_right _ hcap
  have hnρ : n ≠ ρ := fun e => by subst e; rw [hq'] at hr; cases hr
  let G' := G.grown n b off (xs.length + ys.length) cap sz (off + xs.length * sz) us
  have hle : G.Le G' := by
    refine ⟨fun b' o v hc => ?_, fun _ _ h => h, fun σ x hx => ?_⟩
    · simp only [G', Ghost.grown]
      rw [if_neg]; exact hc
      rintro ⟨rfl, h7, _⟩
      rw [h6 o h7] at hc; cases hc
    · simp only [G', Ghost.grown]
      rw [upd_ne _ _ (fun e => by subst e; rw [hr] at hx; cases hx)]; exact hx
  have hloc : ∀ k, L k ≠ some b := fun k hk => by
    obtain ⟨cs', hcs'⟩ := r.locs.dom k b hk
    obtain ⟨b', us, T', k1, k2, _⟩ := r.locs.cells k cs' hcs'
    rw [hk] at k1; cases k1; rw [h2] at k2; cases k2
  refine ⟨G', ?_, ?_, ?_, ?_⟩
  · refine ⟨hle, fun k _ hk => .inl ⟨k, hk⟩, by rw [p.size]; exact Nat.le_refl _, fun b' hb1 ho _ => ?_, p.os, p.tape, p.output⟩
    have hne : b' ≠ b := fun e => by subst e; rw [h2] at ho; cases ho
    refine ⟨?_, p.other b' hne, fun o => ?_⟩
    · simp only [G', Ghost.grown]; rw [upd_ne _ _ hne]; exact ho
    · simp only [G', Ghost.grown]; rw [if_neg (fun x => hne x.1)]
  · refine ⟨fun b' o v hc => ?_, fun γ es hγ => ?_, fun σ hσ => ?_, ?_, fun b' x hx => ?_⟩
    · simp only [G', Ghost.grown] at hc
      split at hc
      · rename_i hx; obtain ⟨rfl, h7, h8⟩ := hx
        simp only [World.cell?, p.now, Option.isSome_none, Bool.false_eq_true, if_false]; exact hc
      · exact p.claims i h6 b' o v hc
    · obtain ⟨b', base', vs', T', fr', k1, k2, k3, k4, k5, k6, k7, k8⟩ := i.blks γ es hγ
      have hne : b' ≠ b := fun e' => by subst e'; rw [h2] at k2; cases k2
      refine ⟨b', base', vs', T', fr', k1, ?_, by rw [p.other b' hne]; exact k3, fun o ho => by rw [p.frozen]; exact k4 o ho, k5, fun j c hj => ?_, k7, fun o => ?_⟩
      · simp only [G', Ghost.grown]; rw [upd_ne _ _ hne]; exact k2
      · obtain ⟨v, e1, e2⟩ := k6 j c hj; exact ⟨v, e1, e2.le hle⟩
      · simp only [G', Ghost.grown]; rw [if_neg (fun x => hne x.1)]; exact k8 o
    · by_cases e : σ = n
      · subst e
        refine ⟨⟨b, off, xs.length + ys.length, cap, sz⟩, us, T, fr, by simp [G', Ghost.grown, upd_same], by simp [G', Ghost.grown, upd_same], p.now, fun o ho => ?_, by rw [p.len]; exact h5, fun o ho => ?_⟩
        · rw [p.frozen]; exact h4 o (by rw [← p.len]; exact ho)
        · simp only at ho
          simp only [G', Ghost.grown]
          rw [if_neg (fun x => by omega)]; exact h6 o (by omega)
      · simp only [upd_ne _ _ e] at hσ
        have e2 : σ ≠ ρ := fun e' => by subst e'; simp [upd_same] at hσ
        rw [upd_ne _ _ e2] at hσ
        obtain ⟨q, vs', T', fr', k1, k2, k3, k4, k5, k6⟩ := i.rows σ hσ
        have hne : q.b ≠ b := fun e' => by rw [e', h2] at k2; cases k2; exact e2 rfl
        refine ⟨q, vs', T', fr', ?_, ?_, by rw [p.other q.b hne]; exact k3, fun o ho => by rw [p.frozen]; exact k4 o ho, k5, fun o ho => ?_⟩
        · simp only [G', Ghost.grown]; rw [upd_ne _ _ e]; exact k1
        · simp only [G', Ghost.grown]; rw [upd_ne _ _ hne]; exact k2
        · simp only [G', Ghost.grown]; rw [if_neg (fun x => hne x.1)]; exact k6 o ho
    · obtain ⟨m, hm⟩ := i.supply
      refine ⟨max m (n + 1), fun σ hσ => ⟨(hm σ (by omega)).1, ?_⟩⟩
      simp only [G', Ghost.grown]; rw [upd_ne _ _ (by omega)]; exact (hm σ (by omega)).2
    · simp only [G', Ghost.grown, upd] at hx
      split at hx
      · rename_i e; rw [p.size, e]; exact hlt
      · rw [p.size]; exact i.owned b' x hx
  · refine ⟨r.defers, r.size, fun j c v h1 h2 => (r.tmps j c v h1 h2).le hle, fun k cs' hk => ?_, r.locs.dom, r.locs.inj⟩
    obtain ⟨b', us, T', k1, k2, k3, k4, k5, k6⟩ := r.locs.cells k cs' hk
    have hne : b' ≠ b := fun e' => by subst e'; exact hloc k k1
    refine ⟨b', us, T', k1, ?_, fun o => ?_, by rw [p.other b' hne]; exact k4, k5.le hle, k6⟩
    · simp only [G', Ghost.grown]; rw [upd_ne _ _ hne]; exact k2
    · simp only [G', Ghost.grown]; rw [if_neg (fun x => hne x.1)]; exact k3 o
  · rw [← List.length_append]
    have hus : ∀ j, j < (xs.length + ys.length) * sz → off + j < us.size := fun j hj => by rw [p.len]; omega
    have hold : ∀ j, j < xs.length * sz → us[off + j]? = some (ws j) := fun j hj => by
      have hc := p.claims i h6 b (off + j) _ (hcl j hj)
      simpa [World.cell?, p.now] using hc
    have hnewc : ∀ j, j < ys.length * sz → us[off + xs.length * sz + j]? = new[j]? := fun j hj => by
      rw [p.inside _ (by omega) (by omega) (by have := hus (xs.length * sz + j) (by omega); rw [p.len] at this; omega)]
      congr 1; omega
    refine VR.list (fun j => us.getD (off + j) undef) ?_ ?_ (by simp; omega) (fun j hj => ?_) (fun j c hj => ?_) (fun q hq => ?_)
    · intro x hx
      rcases List.mem_append.1 hx with hx | hx
      · exact hsz' x hx
      · exact hsz x hx
    · intro c hc
      simp only [List.flatten_append, List.mem_append] at hc
      rcases hc with hc | hc
      · exact hone' c hc
      · exact hone c hc
    · simp only [List.length_append] at hj
      have hlt2 := hus j hj
      rw [Array.getD_eq_getD_getElem?, Array.getElem?_eq_getElem hlt2]
      by_cases j1 : j < xs.length * sz
      · have e1 : G'.claim b (off + j) = G.claim b (off + j) := by
          simp only [G', Ghost.grown]; rw [if_neg (fun x => by omega)]
        rw [e1, hcl j j1]
        have := hold j j1
        rw [Array.getElem?_eq_getElem hlt2] at this
        simpa using this.symm
      · simp only [G', Ghost.grown]
        rw [if_pos ⟨trivial, by omega, by omega⟩, Array.getElem?_eq_getElem hlt2]; rfl
    · rw [List.flatten_append] at hj
      by_cases j1 : j < xs.length * sz
      · rw [List.getElem?_append_left (by rw [hxl]; exact j1)] at hj
        rw [Array.getD_eq_getD_getElem?, hold j j1]
        exact (hvs j c hj).le hle
      · rw [List.getElem?_append_right (by rw [hxl]; omega), hxl] at hj
        have hj2 : j - xs.length * sz < ys.length * sz := by rw [← hyl]; exact (List.getElem?_eq_some_iff.1 hj).1
        obtain ⟨v, e1, e2⟩ := hd.get hj
        have := hnewc _ hj2
        rw [show off + xs.length * sz + (j - xs.length * sz) = off + j by omega, e1] at this
        rw [Array.getD_eq_getD_getElem?, this]
        exact e2.le hle
    · cases hq; simp [G', Ghost.grown, upd_same]

end
end Go.Ab
end
/- The abstract machine's operations that turn no state, and that the model's do what they say. -/
section
namespace Go.Ab

inductive TK where
  | bool | int (k : IntKind) | str | slice (e : TypeId) | pointer (e : TypeId) | struct (fs : List (Nat × TypeId)) | array (n : Nat) (e : TypeId) | iface | func | map (k e : TypeId) | other

structure TI where
  kind : TK
  size : Nat
  bytes : Nat
  zero : Option (List AVal)

def TK.agg : TK → Bool
  | .struct _ | .array _ _ => true
  | _ => false

def tkOf : TypeDesc → TK
  | .bool => .bool
  | .int k => .int k
  | .string => .str
  | .slice e => .slice e
  | .pointer e => .pointer e
  | .struct fs => .struct (fs.toList.map fun f => (f.offset, f.type))
  | .array n e => .array n e
  | .interface _ => .iface
  | .func _ _ _ => .func
  | .map k e => .map k e
  | _ => .other

/-- A text's kind, or a slice's. -/
def KindOf (c : AVal) (k : TK) : Prop :=
  match c with
  | .str _ => k = .str
  | _ => ∃ e, k = .slice e

/-- What the machine asks of a type. -/
def tiOf (P : Program) (t : TypeId) : Option TI :=
  match P.info? t, P.underlying t with
  | some i, some d => some ⟨tkOf d, i.size, i.bytes, i.zero.map fun z => z.cells.toList.map aOfValue⟩
  | _, _ => none

theorem tiOf_some {P t ti} (h : tiOf P t = some ti) : ∃ i d, P.info? t = some i ∧ P.underlying t = some d ∧ tkOf d = ti.kind ∧ i.size = ti.size ∧ i.bytes = ti.bytes ∧
    ti.zero = i.zero.map fun z => z.cells.toList.map aOfValue := by
  unfold tiOf at h
  split at h
  · rename_i i d h1 h2; cases h; exact ⟨i, d, h1, h2, rfl, rfl, rfl, rfl⟩
  · cases h

section inv
variable {G : Ghost} {L : LMap} {v : Value}
theorem TR.int {k n} (h : TR G L (.int k n) v) : v = .int k n := by
  have h := h.plain rfl
  cases h; rfl
theorem TR.bool {b} (h : TR G L (.bool b) v) : v = .bool b := by
  have h := h.plain rfl
  cases h; rfl
theorem TR.str {s} (h : TR G L (.str s) v) : v = .string s := by
  have h := h.plain rfl
  cases h; rfl
theorem TR.nilSlice (h : TR G L .nilSlice v) : v = .slice none 0 0 := by
  have h := h.plain rfl
  cases h; rfl
theorem TR.locInv {k off} (h : TR G L (.loc k off) v) : ∃ b, L k = some b ∧ v = .pointer (some ⟨b, off, none⟩) := by
  rcases h with h | ⟨k', off', b, e, h1, h2⟩
  · cases h
  · cases e; exact ⟨b, h1, h2⟩
end inv

/-- The cells of a value that fills one cell or several. -/
theorem cells_ok {G c v cs} (h : VR G c v) (hc : c.cells = some cs) : VRL G cs v.cells.toList ∧ (∀ d ∈ cs, d.one = true) ∧ (∀ u ∈ v.cells.toList, u.oneCell' = true) := by
  have single : ∀ c v, VR G c v → c.one = true → v.cells = #[v] → VRL G [c] v.cells.toList ∧ (∀ d ∈ [c], d.one = true) ∧ (∀ u ∈ v.cells.toList, u.oneCell' = true) := by
    intro c v h h1 h2
    rw [h2]
    exact ⟨VRL.cons h VRL.nil, by simpa using h1, by simpa using one_oneCell h h1⟩
  cases h <;> simp only [AVal.cells, Option.some.injEq, reduceCtorEq] at hc <;> try subst hc
  case agg cs vs hone hlen hv =>
    refine ⟨⟨by simpa [Value.cells] using hlen, hv⟩, hone, fun u hu => ?_⟩
    simp only [Value.cells] at hu
    obtain ⟨j, hj, rfl⟩ := List.mem_iff_getElem.1 hu
    have hj' : j < vs.length := by simpa using hj
    have hj2 : j < cs.length := by omega
    have := hv j cs[j] vs[j] (List.getElem?_eq_getElem hj2) (List.getElem?_eq_getElem hj')
    simpa using one_oneCell this (hone _ (List.getElem_mem hj2))
  case int => exact single _ _ .int rfl rfl
  case bool => exact single _ _ .bool rfl rfl
  case str => exact single _ _ .str rfl rfl
  case nilPtr => exact single _ _ .nilPtr rfl rfl
  case nilSlice => exact single _ _ .nilSlice rfl rfl
  case nilIface => exact single _ _ .nilIface rfl rfl
  case nilFunc => exact single _ _ .nilFunc rfl rfl
  case nilMap => exact single _ _ .nilMap rfl rfl
  case list vs hsz hone hcap hcl hv hρ => exact single _ _ (.list vs hsz hone hcap hcl hv hρ) rfl rfl
  case ref hβ hlen hcap => exact single _ _ (.ref hβ hlen hcap) rfl rfl
  case ptr hβ => exact single _ _ (.ptr hβ) rfl rfl
  case pin vs hone hcl hv => exact single _ _ (.pin vs hone hcl hv) rfl rfl
  case iface h => exact single _ _ (.iface h) rfl rfl
  case func vs us h1 h2 h3 h4 => exact single _ _ (.func vs us h1 h2 h3 h4) rfl rfl

/-- A value of a type that is read off cells. -/
def aOfCells (ti : TI) (cs : List AVal) : Option AVal :=
  if ti.kind.agg then (if ti.size ≤ cs.length then some (.agg (cs.take ti.size)) else none) else cs.head?

/-- The cells behind a pointer. -/
def aBehind (ls : List (Nat × List AVal)) (h : AHeap) : AVal → Option (List AVal)
  | .pin cs => some cs
  | .loc k off => (lget ls k).map (·.drop off)
  | .ptr β off => (h.blk β).map (·.drop off)
  | _ => none

theorem behind_ok {G L h w aa a c v cs} (i : Inv G h w) (r : ActRel G L w aa a) (hv : TR G L c v) (hc : aBehind aa.locs h c = some cs) :
    ∃ b off, v = .pointer (some ⟨b, off, none⟩) ∧ (∀ d ∈ cs, d.one = true) ∧ ∃ us : List Value, VRL G cs us ∧ w.rangeAt b off us := by
  cases c <;> simp only [aBehind, reduceCtorEq] at hc
  case pin ds =>
    cases hc
    have hv' := hv.plain rfl
    clear hv
    cases hv' with
    | pin vs hone hcl hv =>
      refine ⟨_, _, rfl, hone, (List.range cs.length).map vs, ⟨by simp, fun j d u h1 h2 => ?_⟩, fun j u hu => ?_⟩
      · simp only [List.getElem?_map] at h2
        cases hr : (List.range cs.length)[j]? with
        | none => rw [hr] at h2; cases h2
        | some q =>
          rw [hr] at h2
          simp at h2; subst h2
          obtain ⟨hq, rfl⟩ := List.getElem?_eq_some_iff.1 hr
          simp only [List.getElem_range]
          exact hv j d h1
      · simp only [List.getElem?_map] at hu
        cases hr : (List.range cs.length)[j]? with
        | none => rw [hr] at hu; cases hu
        | some q =>
          rw [hr] at hu
          simp at hu; subst hu
          obtain ⟨hq, rfl⟩ := List.getElem?_eq_some_iff.1 hr
          simp only [List.getElem_range]
          exact i.claims _ _ _ (hcl j (by simpa using hq))
  case loc k off =>
    obtain ⟨b, h1, rfl⟩ := hv.locInv
    cases hl : lget aa.locs k with
    | none => rw [hl] at hc; cases hc
    | some es =>
      rw [hl] at hc; cases hc
      obtain ⟨b', vs, T, k1, k2, k3, k4, k5, k6⟩ := r.locs.cells k es hl
      rw [h1] at k1; cases k1
      refine ⟨b, off, rfl, fun d hd => k6 d (List.mem_of_mem_drop hd), vs.toList.drop off, ⟨by simp [k5.1], fun j d u h1 h2 => ?_⟩, fun j u hu => ?_⟩
      · rw [List.getElem?_drop] at h1 h2; exact k5.2 _ d u h1 h2
      · rw [List.getElem?_drop] at hu
        simpa [World.cell?, k4] using hu
  case ptr β off =>
    have hv' := hv.plain rfl
    clear hv
    cases hv' with
    | @ptr _ _ b base' n hβ =>
      cases hl : h.blk β with
      | none => rw [hl] at hc; cases hc
      | some es =>
        rw [hl] at hc; cases hc
        obtain ⟨b', base'', vs, T, fr, k1, k2, k3, k4, k5, k6, k7, k8⟩ := i.blks β es hl
        rw [hβ] at k1
        simp only [Option.some.injEq, Prod.mk.injEq] at k1
        obtain ⟨e1, e2, e3⟩ := k1
        subst e1; subst e2
        refine ⟨_, _, rfl, fun d hd => k7 d (List.mem_of_mem_drop hd), (vs.toList.drop (base' + off)).take (es.length - off), ⟨?_, fun j d u h1 h2 => ?_⟩, fun j u hu => ?_⟩
        · simp; omega
        · rw [List.getElem?_drop] at h1
          have hj : off + j < es.length := (List.getElem?_eq_some_iff.1 h1).1
          rw [List.getElem?_take_of_lt (by omega), List.getElem?_drop] at h2
          obtain ⟨u', e1, e2⟩ := k6 _ d h1
          rw [show base' + off + j = base' + (off + j) by omega] at h2
          simp only [Array.getElem?_toList] at h2
          rw [h2] at e1; cases e1; exact e2
        · rw [List.getElem?_take] at hu
          split at hu
          · rw [List.getElem?_drop] at hu
            simpa [World.cell?, k3] using hu
          · cases hu

theorem run_isAgg {P : Program} {t : TypeId} {d : TypeDesc} (h : P.underlying t = some d) (w : World) : (isAgg t).run P w = .ok (tkOf d).agg w := by
  unfold isAgg
  rw [Sem.run_bind, run_underlying h]
  cases d <;> rfl

theorem load_ok {P : Program} {t : TypeId} {ti : TI} (hti : tiOf P t = some ti) {G w} {b off : Nat} {cs : List AVal} {us : List Value} (hcs : VRL G cs us) (hone : ∀ d ∈ cs, d.one = true)
    (hr : w.rangeAt b off us) {c : AVal} (hc : aOfCells ti cs = some c) : ∃ v, (loadVar t ⟨b, off, none⟩).run P w = .ok v w ∧ VR G c v := by
  obtain ⟨i, d, h1, h2, h3, h4, h5, h6⟩ := tiOf_some hti
  unfold aOfCells at hc
  have hagg := run_isAgg h2 w
  split at hc
  · rename_i hk
    split at hc
    · rename_i hs
      cases hc
      have hlen : (us.take ti.size).length = ti.size := by simp [← hcs.1]; omega
      have hload := run_loadCells_list (P := P) w ⟨b, off, none⟩ (us.take ti.size) (fun j v hv => by
        rw [Addr.add_lit]
        rw [List.getElem?_take] at hv
        split at hv
        · exact hr j v hv
        · cases hv)
      rw [hlen] at hload
      refine ⟨.agg (us.take ti.size).toArray, ?_, .agg _ (fun d hd => hone d (List.mem_of_mem_take hd)) (by simp [hcs.1]) (fun j d u e1 e2 => ?_)⟩
      · rw [h3, hk] at hagg
        simp [loadVar, hagg, sizeOf, typeInfo, h1, h4, hload]
      · rw [List.getElem?_take] at e1 e2
        split at e1
        · rename_i hj; rw [if_pos hj] at e2; exact hcs.2 j d u e1 e2
        · cases e1
    · cases hc
  · rename_i hk
    rw [List.head?_eq_getElem?] at hc
    obtain ⟨v, e1, e2⟩ := hcs.get hc
    refine ⟨v, ?_, e2⟩
    have hk' : ti.kind.agg = false := by simpa using hk
    rw [h3, hk'] at hagg
    have hcell := hr 0 v e1
    simp only [Nat.add_zero] at hcell
    simp [loadVar, hagg, hcell]

end Go.Ab
end
/- The abstract machine's operations that turn no state, and that the model's do what they say (the second part). -/
section
namespace Go.Ab

def aBin (kind : TK) (op : BinOp) (x y : AVal) : Option AVal :=
  match x, y with
  | .int k a, .int k' b =>
    if k = k' then
      match op with
      | .add => some (.int k (k.wrap (a + b)))
      | .sub => some (.int k (k.wrap (a - b)))
      | .mul => some (.int k (k.wrap (a * b)))
      | .quo => if b = 0 then none else some (.int k (k.wrap (a.tdiv b)))
      | .rem => if b = 0 then none else some (.int k (a.tmod b))
      | .eql => some (.bool (decide (a = b)))
      | .neq => some (.bool (!decide (a = b)))
      | .lss => some (.bool (decide (a < b)))
      | .leq => some (.bool (decide (a ≤ b)))
      | .gtr => some (.bool (decide (b < a)))
      | .geq => some (.bool (decide (b ≤ a)))
      | _ => none
    else none
  | .str a, .str b =>
    match op with
    | .add => if a.size + b.size ≤ 9223372036854775807 then some (.str (a ++ b)) else none
    | .eql => some (.bool (decide (a = b)))
    | .neq => some (.bool (!decide (a = b)))
    | .lss => some (.bool (Op.bytesLess a.toList b.toList))
    | _ => none
  | .bool a, .bool b =>
    match kind, op with
    | .bool, .eql => some (.bool (a == b))
    | .bool, .neq => some (.bool (!(a == b)))
    | _, _ => none
  | _, _ => none

theorem toList_beq (a b : ByteArray) : (a.toList == b.toList) = decide (a = b) := by
  have h : ∀ x : ByteArray, x.toList = x.data.toList := fun x => ByteArray.toList_eq x
  rw [h, h]
  by_cases e : a = b
  · subst e; simp
  · have : ¬ a.data = b.data := fun e' => e (by cases a; cases b; simpa using e')
    simp [e, this]

theorem int_beq (a b : Int) : (a == b) = decide (a = b) := by by_cases h : a = b <;> simp [h]

theorem run_equalIn_bool {P : Program} (d : Nat) {t : TypeId} (h : P.underlying t = some .bool) (a b : Bool) (w : World) : (Op.equalIn (d + 1) t (.bool a) (.bool b)).run P w = .ok (a == b) w := by
  simp [Op.equalIn, run_underlying h]

theorem run_equal_bool {P : Program} {t : TypeId} (h : P.underlying t = some .bool) (a b : Bool) (w : World) : (Op.equal t (.bool a) (.bool b)).run P w = .ok (a == b) w :=
  run_equalIn_bool 9999 h a b w

theorem bin_ok {P : Program} {op : BinOp} {t : TypeId} {ti : TI} (hti : tiOf P t = some ti) {x y : Operand} {G L} {c d r : AVal} {u v : Value} (hc : TR G L c u) (hd : TR G L d v) (h : aBin ti.kind op c d = some r) (w : World) :
    ∃ z, (do eqGuard op t x y u v; binOp op t u v : Sem Value).run P w = .ok z w ∧ VR G r z := by
  cases c <;> cases d <;> simp only [aBin, reduceCtorEq] at h
  case int.int k a k' b =>
    have e1 := hc.int
    have e2 := hd.int
    subst e1; subst e2
    split at h
    · rename_i hk; subst hk
      have hg : (eqGuard op t x y (.int k a) (.int k b)).run P w = .ok () w := by
        unfold eqGuard; split <;> rfl
      cases op <;> simp only [reduceCtorEq, Option.some.injEq] at h <;> (try subst h)
      case quo => split at h
                  · cases h
                  · rename_i hb; cases h; exact ⟨_, by simp [hg, binOp, Op.intDiv, hb], .int⟩
      case rem => split at h
                  · cases h
                  · rename_i hb; cases h; exact ⟨_, by simp [hg, binOp, Op.intDiv, hb], .int⟩
      case add => exact ⟨_, by simp [hg, binOp, Op.intArith], .int⟩
      case sub => exact ⟨_, by simp [hg, binOp, Op.intArith], .int⟩
      case mul => exact ⟨_, by simp [hg, binOp, Op.intArith], .int⟩
      case eql => exact ⟨.bool (decide (a = b)), by simp [hg, binOp, Op.intCmp, int_beq], .bool⟩
      case neq => exact ⟨.bool (!decide (a = b)), by simp [hg, binOp, Op.intCmp, bne, int_beq], .bool⟩
      case lss => exact ⟨_, by simp [hg, binOp, Op.intCmp], .bool⟩
      case leq => exact ⟨_, by simp [hg, binOp, Op.intCmp], .bool⟩
      case gtr => exact ⟨.bool (decide (b < a)), by simp [hg, binOp, Op.intCmp], .bool⟩
      case geq => exact ⟨.bool (decide (b ≤ a)), by simp [hg, binOp, Op.intCmp], .bool⟩
    · cases h
  case str.str a b =>
    have e1 := hc.str
    have e2 := hd.str
    subst e1; subst e2
    have hg : (eqGuard op t x y (.string a) (.string b)).run P w = .ok () w := by
      unfold eqGuard; split <;> rfl
    cases op <;> simp only [reduceCtorEq, Option.some.injEq] at h <;> (try subst h)
    case add =>
      split at h
      · rename_i hs; cases h
        have hmax : IntKind.i64.max = 9223372036854775807 := by decide
        have hs' : ¬ (9223372036854775807 : Int) < (a.size : Int) + (b.size : Int) := by omega
        exact ⟨_, by simp [hg, binOp, Op.stringOp, hmax, hs'], .str⟩
      · cases h
    case eql => exact ⟨_, by simp [hg, binOp, Op.stringOp, toList_beq], .bool⟩
    case neq => exact ⟨_, by simp [hg, binOp, Op.stringOp, toList_beq], .bool⟩
    case lss => exact ⟨_, by simp [hg, binOp, Op.stringOp], .bool⟩
  case bool.bool a b =>
    have e1 := hc.bool
    have e2 := hd.bool
    subst e1; subst e2
    have hg : (eqGuard op t x y (.bool a) (.bool b)).run P w = .ok () w := by
      unfold eqGuard; split <;> rfl
    obtain ⟨i, d, h1, h2, h3, _⟩ := tiOf_some hti
    cases hk : ti.kind <;> rw [hk] at h h3 <;> cases op <;> simp only [reduceCtorEq, Option.some.injEq] at h <;> subst h
    all_goals
      have hd : d = .bool := by cases d <;> simp [tkOf] at h3; rfl
      subst hd
      exact ⟨_, by simp [hg, binOp, run_equal_bool h2], .bool⟩

def aUn (op : UnOp) (x : AVal) : Option AVal :=
  match op, x with
  | .not, .bool b => some (.bool (!b))
  | .neg, .int k n => some (.int k (k.wrap (0 - n)))
  | _, _ => none

theorem un_ok {P : Program} {op : UnOp} {G L} {c r : AVal} {u : Value} (hc : TR G L c u) (h : aUn op c = some r) (w : World) : ∃ z, (Op.unary op u).run P w = .ok z w ∧ VR G r z := by
  cases op <;> cases c <;> simp only [aUn, reduceCtorEq, Option.some.injEq] at h <;> subst h
  · have e := hc.int; subst e; exact ⟨_, by simp [Op.unary, Op.intArith], .int⟩
  · have e := hc.bool; subst e; exact ⟨_, by simp [Op.unary], .bool⟩

/-- A list of bytes. -/
def aBytes : List (List AVal) → Option (List UInt8)
  | [] => some []
  | [.int .u8 n] :: xs => (aBytes xs).map (UInt8.ofNat n.toNat :: ·)
  | _ => none

def aConv (dst : TI) (x : AVal) : Option AVal :=
  match dst.kind, x with
  | .int k, .int _ n => some (.int k (k.wrap n))
  | .str, .str s => some (.str s)
  | .str, .nilSlice => some (.str .empty)
  | .str, .list _ 1 xs => (aBytes xs).map fun l => .str ⟨l.toArray⟩
  | _, _ => none

def aIndexAddr (sz : Nat) (x : AVal) (i : Int) : Option AVal :=
  match x with
  | .list _ sz' xs => if sz' = sz then (if 0 ≤ i then (xs[i.toNat]?).map .pin else none) else none
  | .ref β off len sz' => if sz' = sz then (if 0 ≤ i ∧ i < len then some (.ptr β (off + i.toNat * sz)) else none) else none
  | _ => none

def aLen : AVal → Option Int
  | .str s => some s.size
  | .list _ _ xs => some xs.length
  | .ref _ _ len _ => some len
  | .nilSlice => some 0
  | _ => none

def aStrIndex (s : ByteArray) (i : Int) : Option AVal := if 0 ≤ i then (s.data[i.toNat]?).map fun b => .int .u8 b.toNat else none

theorem flatten_get {xs : List (List AVal)} {sz : Nat} (hsz : ∀ x ∈ xs, x.length = sz) {i j : Nat} {x : List AVal} (hx : xs[i]? = some x) (hj : j < sz) : xs.flatten[i * sz + j]? = x[j]? := by
  induction xs generalizing i with
  | nil => simp at hx
  | cons y ys ih =>
    have hy := hsz y (by simp)
    cases i with
    | zero => simp at hx; subst hx; rw [List.flatten_cons, List.getElem?_append_left (by omega)]; simp
    | succ i =>
      simp at hx
      rw [List.flatten_cons, List.getElem?_append_right (by rw [hy, Nat.add_mul]; omega), ← ih (fun z hz => hsz z (by simp [hz])) hx]
      congr 1; rw [hy, Nat.add_mul]; omega

theorem indexAddr_ok {P : Program} {t e : TypeId} {tis tie : TI} (hs : tiOf P t = some tis) (hk : tis.kind = .slice e) (he : tiOf P e = some tie) {G L} {c r : AVal} {u : Value} {k : IntKind} {i : Int} (hc : TR G L c u)
    (h : aIndexAddr tie.size c i = some r) (w : World) : ∃ z, (Instr.indexAt t u (.int k i)).run P w = .ok z w ∧ VR G r z := by
  obtain ⟨i1, d1, a1, a2, a3, _⟩ := tiOf_some hs
  obtain ⟨i2, d2, b1, b2, b3, b4, _⟩ := tiOf_some he
  have hd1 : d1 = .slice e := by rw [hk] at a3; cases d1 <;> simp [tkOf] at a3; rw [a3]
  subst hd1
  cases c <;> simp only [aIndexAddr, reduceCtorEq] at h
  case list ρ sz xs =>
    split at h
    · rename_i hsz; subst hsz
      split at h
      · rename_i h0
        cases hx : xs[i.toNat]? with
        | none => rw [hx] at h; cases h
        | some x =>
          rw [hx] at h; cases h
          have hi := (List.getElem?_eq_some_iff.1 hx).1
          have hc' := hc.plain rfl
          cases hc' with
          | @list _ _ _ b off cap vs hsz hone hcap hcl hv hρ =>
            have hlt : i < (xs.length : Int) := by omega
            have hx2 : x.length = tie.size := hsz x (List.mem_of_getElem? hx)
            have hmul : (i.toNat + 1) * tie.size ≤ xs.length * tie.size := Nat.mul_le_mul_right _ hi
            rw [Nat.add_mul] at hmul
            refine ⟨.pointer (some ⟨b, off + i.toNat * tie.size, none⟩), ?_, .pin (fun j => vs (i.toNat * tie.size + j)) (fun d hd => hone d (List.mem_flatten.2 ⟨x, List.mem_of_getElem? hx, hd⟩)) (fun j hj => ?_) (fun j d hd => ?_)⟩
            · simp [Instr.indexAt, asIntOf, run_underlying a2, h0, hlt, sizeOf, typeInfo, b1, b4, Addr.add_lit]
            · rw [Nat.add_assoc]; exact hcl _ (by omega)
            · have hj : j < tie.size := by rw [← hx2]; exact (List.getElem?_eq_some_iff.1 hd).1
              exact hv _ _ (by rw [flatten_get hsz hx hj]; exact hd)
      · cases h
    · cases h
  case ref β off len sz =>
    split at h
    · rename_i hsz; subst hsz
      split at h
      · rename_i h0; cases h
        have hc' := hc.plain rfl
        cases hc' with
        | @ref _ _ _ _ b base n cap hβ hlen hcap =>
          refine ⟨.pointer (some ⟨b, base + (off + i.toNat * tie.size), none⟩), ?_, .ptr hβ⟩
          simp [Instr.indexAt, asIntOf, run_underlying a2, h0, sizeOf, typeInfo, b1, b4, Addr.add_lit, Nat.add_assoc]
      · cases h
    · cases h

theorem aBytes_cells {xs : List (List AVal)} {l : List UInt8} (h : aBytes xs = some l) : xs.length = l.length ∧ ∀ (j : Nat) b, l[j]? = some b → ∃ n : Int, xs[j]? = some [.int .u8 n] ∧ b = UInt8.ofNat n.toNat := by
  induction xs generalizing l with
  | nil => simp [aBytes] at h; subst h; simp
  | cons x xs ih =>
    unfold aBytes at h
    split at h
    · cases ‹x :: xs = []›
    · rename_i n ys hy
      simp only [List.cons.injEq] at hy
      obtain ⟨rfl, rfl⟩ := hy
      cases hb : aBytes xs with
      | none => rw [hb] at h; cases h
      | some m =>
        rw [hb] at h; cases h
        obtain ⟨e1, e2⟩ := ih hb
        refine ⟨by simp [e1], fun j b hj => ?_⟩
        cases j with
        | zero => simp at hj; exact ⟨n, by simp, hj.symm⟩
        | succ j => simp at hj; simpa using e2 j b hj
    · cases h

theorem foldl_push (ns : List Int) : ∀ s : ByteArray, ns.foldl (fun r n => r.push (UInt8.ofNat n.toNat)) s = ⟨(s.data.toList ++ ns.map fun n => UInt8.ofNat n.toNat).toArray⟩ := by
  induction ns with
  | nil => intro s; cases s; simp
  | cons n ns ih => intro s; rw [List.foldl_cons, ih]; simp [ByteArray.push]

theorem conv_ok {P : Program} {s t : TypeId} {tis ti : TI} (hs : tiOf P s = some tis) (hti : tiOf P t = some ti) (hse : ∀ e, tis.kind = .slice e → ∃ te, tiOf P e = some te ∧ te.kind = .int .u8) {G L h w aa a} (i : Inv G h w) (_r : ActRel G L w aa a) {c r : AVal} {u : Value} (hc : TR G L c u)
    (hk : (match c with | .nilSlice | .list _ _ _ => ∃ e, tis.kind = .slice e | _ => True)) (h : aConv ti c = some r) : ∃ z, (convert s t u).run P w = .ok z w ∧ VR G r z := by
  obtain ⟨i1, d1, a1, a2, a3, _⟩ := tiOf_some hs
  obtain ⟨i2, d2, b1, b2, b3, _⟩ := tiOf_some hti
  unfold aConv at h
  split at h
  · rename_i k _ n hk' ; cases h
    have e := hc.int; subst e
    have hd : d2 = .int k := by rw [hk'] at b3; cases d2 <;> simp [tkOf] at b3; rw [b3]
    subst hd
    exact ⟨_, by simp [convert, run_underlying a2, run_underlying b2, Conv.intToInt], .int⟩
  · rename_i s' hk'; cases h
    have e := hc.str; subst e
    have hd : d2 = .string := by rw [hk'] at b3; cases d2 <;> simp [tkOf] at b3; rfl
    subst hd
    exact ⟨_, by simp [convert, run_underlying a2, run_underlying b2], .str⟩
  · rename_i hk'; cases h
    have e := hc.nilSlice; subst e
    have hd : d2 = .string := by rw [hk'] at b3; cases d2 <;> simp [tkOf] at b3; rfl
    subst hd
    obtain ⟨e, hk⟩ := hk
    have hd1 : d1 = .slice e := by rw [hk] at a3; cases d1 <;> simp [tkOf] at a3; rw [a3]
    subst hd1
    obtain ⟨te, c1, c2⟩ := hse e hk
    obtain ⟨i3, d3, e1, e2, e3, _⟩ := tiOf_some c1
    have hd3 : d3 = .int .u8 := by rw [c2] at e3; cases d3 <;> simp [tkOf] at e3; rw [e3]
    subst hd3
    exact ⟨_, by simp [convert, run_underlying a2, run_underlying b2, run_underlying e2, Conv.bytesToString], .str⟩
  · rename_i ρ xs hk'
    have hd : d2 = .string := by rw [hk'] at b3; cases d2 <;> simp [tkOf] at b3; rfl
    subst hd
    obtain ⟨e, hk⟩ := hk
    have hd1 : d1 = .slice e := by rw [hk] at a3; cases d1 <;> simp [tkOf] at a3; rw [a3]
    subst hd1
    obtain ⟨te, c1, c2⟩ := hse e hk
    obtain ⟨i3, d3, e1, e2, e3, _⟩ := tiOf_some c1
    have hd3 : d3 = .int .u8 := by rw [c2] at e3; cases d3 <;> simp [tkOf] at e3; rw [e3]
    subst hd3
    cases hb : aBytes xs with
    | none => rw [hb] at h; cases h
    | some l =>
      rw [hb] at h; cases h
      obtain ⟨f1, f2⟩ := aBytes_cells hb
      have hc' := hc.plain rfl
      cases hc' with
      | @list _ _ _ b off cap vs hsz hone hcap hcl hv hρ =>
        obtain ⟨ns, hns, hl⟩ : ∃ ns : List Int, ns.length = xs.length ∧ (∀ (j : Nat) n, ns[j]? = some n → w.cell? ⟨b, off + j, none⟩ = some (.int .u8 n)) ∧ ns.map (fun n => UInt8.ofNat n.toNat) = l := by
          refine ⟨xs.map fun x => match x with | [.int .u8 n] => n | _ => 0, by simp, fun j n hj => ?_, ?_⟩
          · simp only [List.getElem?_map] at hj
            cases hx : xs[j]? with
            | none => rw [hx] at hj; cases hj
            | some x =>
              have hjl : j < l.length := by rw [← f1]; exact (List.getElem?_eq_some_iff.1 hx).1
              obtain ⟨m, g1, g2⟩ := f2 j _ (List.getElem?_eq_getElem hjl)
              rw [hx] at g1; cases g1
              rw [hx] at hj; simp at hj; subst hj
              have q1 := flatten_get hsz hx (show 0 < 1 by omega)
              simp at q1
              have q2 := hv j _ q1
              have q3 := i.claims _ _ _ (hcl j (by rw [Nat.mul_one, f1]; exact hjl))
              cases q2' : vs j <;> rw [q2'] at q2 <;> cases q2
              rw [q3, q2']
          · apply List.ext_getElem?
            intro j
            simp only [List.getElem?_map]
            cases hlj : l[j]? with
            | none =>
              have : xs[j]? = none := by rw [List.getElem?_eq_none_iff] at hlj ⊢; omega
              rw [this]; rfl
            | some q =>
              obtain ⟨m, g1, g2⟩ := f2 j q hlj
              rw [g1]; simp [g2]
        have hload : (loadCells ⟨b, off, none⟩ xs.length).run P w = .ok (ns.map (Value.int .u8)).toArray w := by
          have := run_loadCells_list (P := P) w ⟨b, off, none⟩ (ns.map (Value.int .u8)) (fun j v hv => by
            rw [Addr.add_lit]
            simp only [List.getElem?_map] at hv
            cases hn : ns[j]? with
            | none => rw [hn] at hv; cases hv
            | some q => rw [hn] at hv; cases hv; exact hl.1 j q hn)
          simpa [hns] using this
        have hconv := run_bytesToString (P := P) w ⟨b, off, none⟩ xs.length cap ns hload
        refine ⟨.string ⟨l.toArray⟩, ?_, .str⟩
        simp only [convert, Sem.run_bind, run_underlying a2, run_underlying b2, run_underlying e2, Result.andThen_ok, hconv, foldl_push, hl.2]
        simp
  · cases h

end Go.Ab
end
