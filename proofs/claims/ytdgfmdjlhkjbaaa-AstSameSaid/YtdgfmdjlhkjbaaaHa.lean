/-
  Regions whose order is open: with one operation ahead that turns which rows are alive.
-/
import Derived.Test.YtdgfmdjlhkjbaaaCa
set_option linter.all false
section
namespace Go.Ab
section
variable {P : Program} {κ : Tmp → Bool} {ops : List Oper}

/-- An operation that turns nothing but which rows are alive. -/
def SEv (P : Program) (ops : List Oper) (h0 h1 : AHeap) (aa : AAct) (r : QRec) : Prop :=
  ∀ (aa' : AAct), aa'.tmps.length = aa.tmps.length → (∀ x ∈ r.rd, nv aa' x = nv aa x) → ∀ G L w a, Inv G h0 w → ActRel G L w aa' a → ∀ (next : Act → World → Prop) (Q : Exit → Act → World → Prop),
    (∀ G' L' w' a', Ext G L w G' L' w' → Inv G' h1 w' → ActRel G' L' w' (r.app aa') a' → next a' w') → bodyWp P ops.toArray r.o a w next Q

/-- The operations that come first, in whatever order. -/
theorem quiet_phase2 {K : AAct → AHeap → Prop} {Q : Exit → Act → World → Prop} {m : Nat} (ht : tailB ops m = true) (hE : edgesB ops = true) (hm : m ≤ ops.length) {aa0 : AAct} {recs : List QRec} {j0 : Nat} {hA hB : AHeap} (hj0 : j0 < m) (hblk : hB.blk = hA.blk) (hrl : recs.length = m)
    (hrec : ∀ (i : Nat) r, recs[i]? = some r → ops[i]? = some r.o ∧ (i ≠ j0 → QEv P ops hA.blk (st aa0 recs i) r) ∧ (i = j0 → SEv P ops hA hB (st aa0 recs i) r)) (htr : traceB ops recs = true) (hk : RL P κ ops K (ops.drop m) (st aa0 recs m) hB) :
    ∀ (f : Nat) (listed : Array Bool) (aa : AAct), listed.size = ops.length → (List.range ops.length).countP (fun i => !listed.getD i true) = f → (∀ i, m ≤ i → i < ops.length → listed.getD i true = false) →
      Closed ops (fun i => listed.getD i false) → aa.tmps.length = aa0.tmps.length → (∀ x, nv aa x = lastv aa0 recs (fun i => listed.getD i false) x m) → ∀ {G L w a}, Inv G (if listed.getD j0 false = true then hB else hA) w → ActRel G L w aa a →
      (∀ G' L' w' aa' a' h', Ext G L w G' L' w' → Inv G' h' w' → ActRel G' L' w' aa' a' → K aa' h' → Q .normal a' w') → wpAny P .any ops.toArray Q f listed a w := by
  have hedge : ∀ {j : Nat} {o : Oper}, ops[j]? = some o → ∀ e ∈ o.after, Region.binds .any e = true → e.on < j := by
    intro j o ho e he hb
    unfold edgesB at hE
    have q4 := List.all_eq_true.1 hE (o, j) (List.mem_zipIdx_iff_getElem?.2 ho)
    have q5 := Array.all_eq_true_iff_forall_mem.1 q4 e he
    simpa [hb] using q5
  -- when all of them are done, the tail
  have turn : ∀ (f : Nat) (listed : Array Bool) (aa : AAct), listed.size = ops.length → (List.range ops.length).countP (fun i => !listed.getD i true) = f → (∀ i, m ≤ i → i < ops.length → listed.getD i true = false) →
      (∀ i, i < m → listed.getD i true = true) → aa.tmps.length = aa0.tmps.length → (∀ x, nv aa x = lastv aa0 recs (fun i => listed.getD i false) x m) → ∀ {G L w a}, Inv G (if listed.getD j0 false = true then hB else hA) w → ActRel G L w aa a →
      (∀ G' L' w' aa' a' h', Ext G L w G' L' w' → Inv G' h' w' → ActRel G' L' w' aa' a' → K aa' h' → Q .normal a' w') → wpAny P .any ops.toArray Q f listed a w := by
    intro f listed aa hs hf hlate hall hlen hnv G L w a i r hq
    rw [if_pos (by rw [getD_same (by omega) false true]; exact hall j0 hj0)] at i
    have hfe : m + f = ops.length := by
      rw [← hf]
      have h1 : ∀ n, n ≤ ops.length → (List.range n).countP (fun i => !listed.getD i true) = n - m := by
        intro n
        induction n with
        | zero => intro _; simp
        | succ n ihn =>
          intro hn
          rw [List.range_succ, List.countP_append, ihn (by omega)]
          by_cases e : n < m
          · have h0 : [n].countP (fun i => !listed.getD i true) = 0 := by rw [List.countP_cons, List.countP_nil, hall n e]; rfl
            omega
          · have h0 : [n].countP (fun i => !listed.getD i true) = 1 := by rw [List.countP_cons, List.countP_nil, hlate n (by omega) (by omega)]; rfl
            omega
      rw [h1 _ (Nat.le_refl _)]; omega
    refine tail_phase (κ := κ) ht hE f m listed (st aa0 recs m) hB hfe (Nat.le_refl _) hs (fun j hj => ?_) hk i (act_same r (by rw [state_len aa0 recs m (by omega)]; exact hlen.symm) fun x => ?_) hq
    · by_cases e : j < m
      · rw [hall j e]; simp [e]
      · rw [hlate j (by omega) hj]; simp [e]
    · rw [hnv x, lastv_all m (by omega) fun j hj => .inl (by rw [getD_same (by omega) false true]; exact hall j hj)]
  intro f
  induction f with
  | zero =>
    intro listed aa hs hf hlate hcl hlen hnv G L w a i r hq
    refine turn 0 listed aa hs hf hlate (fun j hj => ?_) hlen hnv i r hq
    have := List.countP_eq_zero.1 hf j (List.mem_range.2 (by omega))
    simpa using this
  | succ f ih =>
    intro listed aa hs hf hlate hcl hlen hnv G L w a i r hq
    by_cases hall : ∀ j, j < m → listed.getD j true = true
    · exact turn (f + 1) listed aa hs hf hlate hall hlen hnv i r hq
    · refine ⟨fun hnil => ?_, fun j hj => ?_⟩
      · -- the first that is left is ready
        exfalso
        have hex : ∃ j, j < m ∧ listed.getD j true = false := by
          apply Classical.byContradiction
          intro hn
          refine hall fun j hj => ?_
          cases hc : listed.getD j true with
          | true => rfl
          | false => exact absurd ⟨j, hj, hc⟩ hn
        have hmin : ∀ n, (∃ j, j < m ∧ listed.getD j true = false ∧ j ≤ n) → ∃ j, j < m ∧ listed.getD j true = false ∧ ∀ i, i < j → listed.getD i true = true := by
          intro n
          induction n with
          | zero => rintro ⟨j, h1, h2, h3⟩; exact ⟨j, h1, h2, fun i hi => by omega⟩
          | succ n ihn =>
            rintro ⟨j, h1, h2, h3⟩
            by_cases hh : ∃ j, j < m ∧ listed.getD j true = false ∧ j ≤ n
            · exact ihn hh
            · refine ⟨j, h1, h2, fun i hi => ?_⟩
              cases hc : listed.getD i true with
              | true => rfl
              | false => exact absurd ⟨i, by omega, hc, by omega⟩ hh
        obtain ⟨j0, e1, e2⟩ := hex
        obtain ⟨j, h1, h2, h3⟩ := hmin j0 ⟨j0, e1, e2, Nat.le_refl _⟩
        have hjl : j < ops.length := by omega
        have : j ∈ Region.ready .any ops.toArray listed := by
          refine mem_any_ready.2 ⟨h2, ops[j], List.getElem?_eq_getElem hjl, fun e he hb => ?_⟩
          have := hedge (List.getElem?_eq_getElem hjl) e he hb
          rw [getD_same (by omega) false true]; exact h3 _ this
        rw [hnil] at this; simp at this
      · obtain ⟨h1, o, h2, h3⟩ := mem_any_ready.1 hj
        have hjl := (List.getElem?_eq_some_iff.1 h2).1
        have hSj : listed.getD j false = false := by rw [getD_same (by omega) false true]; exact h1
        by_cases hjm : j < m
        · obtain ⟨rj, hrj⟩ : ∃ rj, recs[j]? = some rj := ⟨_, List.getElem?_eq_getElem (by omega)⟩
          obtain ⟨g1, g2⟩ := hrec j rj hrj
          have hoj : o = rj.o := by rw [h2] at g1; exact Option.some.inj g1
          subst hoj
          -- what it looks at is there
          have look : ∀ x ∈ rj.rd, nv aa x = nv (st aa0 recs j) x := by
            intro x hx
            have l1 : lastv aa0 recs (fun i => listed.getD i false) x m = lastv aa0 recs (fun i => listed.getD i false) x j := by
              refine lastv_stop m (by omega) (fun k hk1 hk2 ⟨hSk, hxk⟩ => ?_)
              obtain ⟨rk, hrk⟩ : ∃ rk, recs[k]? = some rk := ⟨_, List.getElem?_eq_getElem (by omega)⟩
              unfold wrAt at hxk; rw [hrk] at hxk
              by_cases e : k = j
              · subst e; rw [hSj] at hSk; cases hSk
              · rcases trace_spec htr hrj hrk (by omega) with hb | hb
                · have := bef_in hcl (hrec k rk hrk).1 (fun e he hb' => hcl k _ (hrec k rk hrk).1 hSk e he hb') hb
                  rw [hSj] at this; cases this
                · exact apart_rd_wr hb hx hxk
            have l2 : lastv aa0 recs (fun i => listed.getD i false) x j = nv (st aa0 recs j) x := by
              refine lastv_all j (by omega) (fun k hk' => ?_)
              by_cases hxk : x ∈ wrAt recs k
              · left
                obtain ⟨rk, hrk⟩ : ∃ rk, recs[k]? = some rk := ⟨_, List.getElem?_eq_getElem (by omega)⟩
                unfold wrAt at hxk; rw [hrk] at hxk
                rcases trace_spec htr hrk hrj hk' with hb | hb
                · exact bef_in hcl h2 h3 hb
                · exact absurd hx (apart_wr_rd hb hxk).1
              · exact .inr hxk
            rw [hnv x, l1, l2]
          have hget : ∀ i b, (listed.setIfInBounds j true).getD i b = if i = j then true else listed.getD i b := fun i b => set_get (by omega) b
          unfold wpOp
          have hoj' : ops.toArray[j]? = some rj.o := by simpa using h2
          rw [hoj']
          have hnext : ∀ {G' L' w' a'}, Ext G L w G' L' w' → Inv G' (if (listed.setIfInBounds j true).getD j0 false = true then hB else hA) w' → ActRel G' L' w' (rj.app aa) a' →
              wpAny P .any ops.toArray Q f (listed.setIfInBounds j true) a' w' := by
            intro G' L' w' a' x i' r'
            refine ih _ (rj.app aa) (by simpa using hs) ?_ (fun i hi1 hi2 => ?_) ?_ (by rw [app_len]; exact hlen) (fun x => ?_) i' r' (fun G₂ L₂ w₂ aa₂ a₂ h₂ x₂ i₂ r₂ k₂ => hq G₂ L₂ w₂ aa₂ a₂ h₂ (x.trans x₂) i₂ r₂ k₂)
            · have := countP_set (p := fun i => !listed.getD i true) (q := fun i => !(listed.setIfInBounds j true).getD i true) hjl (by show (!listed.getD j true) = true; rw [h1]; rfl) (by show (!(listed.setIfInBounds j true).getD j true) = false; rw [hget]; simp) (fun k hk => by show (!(listed.setIfInBounds j true).getD k true) = (!listed.getD k true); rw [hget, if_neg hk])
              omega
            · rw [hget, if_neg (by omega)]; exact hlate i hi1 hi2
            · intro k q hq hS e he hb
              simp only at hS ⊢
              rw [hget] at hS ⊢
              split
              · rfl
              · by_cases e2 : k = j
                · subst e2
                  rw [h2] at hq; cases hq
                  exact h3 e he hb
                · rw [if_neg e2] at hS
                  exact hcl k q hq hS e he hb
            · by_cases hx : x ∈ rj.wr
              · rw [nv_app_in hx (by rw [state_len aa0 recs j (by omega)]; exact hlen), ← st_succ hrj]
                have l3 : lastv aa0 recs (fun i => (listed.setIfInBounds j true).getD i false) x m = lastv aa0 recs (fun i => (listed.setIfInBounds j true).getD i false) x (j + 1) := by
                  refine lastv_stop m (by omega) (fun k hk1 hk2 ⟨hSk, hxk⟩ => ?_)
                  obtain ⟨rk, hrk⟩ : ∃ rk, recs[k]? = some rk := ⟨_, List.getElem?_eq_getElem (by omega)⟩
                  unfold wrAt at hxk; rw [hrk] at hxk
                  replace hSk : (listed.setIfInBounds j true).getD k false = true := hSk
                  rw [hget, if_neg (by omega)] at hSk
                  rcases trace_spec htr hrj hrk (by omega) with hb | hb
                  · have := bef_in hcl (hrec k rk hrk).1 (fun e he hb' => hcl k _ (hrec k rk hrk).1 hSk e he hb') hb
                    replace this : listed.getD j false = true := this
                    rw [hSj] at this; cases this
                  · exact (apart_wr_rd hb hx).2 hxk
                rw [l3]
                show _ = if _ then _ else _
                rw [if_pos ⟨by show (listed.setIfInBounds j true).getD j false = true; rw [hget]; simp, by unfold wrAt; rw [hrj]; exact hx⟩]
              · rw [nv_app_out hx, hnv x]
                refine lastv_congr m fun k _ hxk => ?_
                show listed.getD k false = (listed.setIfInBounds j true).getD k false
                rw [hget]
                split
                · rename_i e; subst e; unfold wrAt at hxk; rw [hrj] at hxk; exact absurd hxk hx
                · rfl
          by_cases ej : j = j0
          · subst ej
            rw [if_neg (by rw [hSj]; simp)] at i
            refine g2.2 rfl aa (by rw [state_len aa0 recs j (by omega)]; exact hlen) look G L w a i r _ Q fun G' L' w' a' x i' r' => hnext x (by rw [if_pos (by rw [hget]; simp)]; exact i') r'
          · refine g2.1 ej aa (if listed.getD j0 false = true then hB else hA) (by split <;> simp [hblk]) (by rw [state_len aa0 recs j (by omega)]; exact hlen) look G L w a i r _ Q fun G' L' w' a' x i' r' => hnext x (by rw [hget j0 false, if_neg (show ¬ j0 = j from fun e => ej e.symm)]; exact i') r'
        · -- one of the tail is not ready yet
          exfalso
          refine hall fun k hk' => ?_
          unfold tailB at ht
          have q1 := List.all_eq_true.1 ht j (List.mem_range.2 hjl)
          simp only [Bool.or_eq_true, decide_eq_true_eq] at q1
          have q2 : (List.range j).all (fun i => befB ops i j) = true := by rcases q1 with q1 | q1; omega; exact q1
          have q3 := List.all_eq_true.1 q2 k (List.mem_range.2 (by omega))
          have q4 := bef_in hcl h2 h3 q3
          rw [getD_same (by omega) true false]; exact q4

end
end Go.Ab
end
/- Regions whose order is open, with one append to a slice of the caller's own ahead. -/
section
namespace Go.Ab
section
variable {P : Program} {κ : Tmp → Bool} {ops : List Oper}

theorem VR.forget {G : Ghost} {ρ : Option Nat} {sz : Nat} {xs : List (List AVal)} {v : Value} (h : VR G (.list ρ sz xs) v) : VR G (.list none sz xs) v := by
  cases h with
  | list vs hsz hone hcap hcl hv hρ => exact .list vs hsz hone hcap hcl hv (fun r e => nomatch e)

theorem sev_append {o : Oper} {aa : AAct} {h0 : AHeap} {lB : Nat → Bool} {sz : Nat} {xs : List (List AVal)} (hw : aWanted ops aa.tmps o = some true)
    (hloc : ∀ (ev : Operand → AVal) (ls : Locs) n, (∀ x ∈ o.op.operands, ev x = aEval aa.tmps x) → h0.live n = false → aOp P (fun _ => false) ev ls h0 n o.dst o.op = some (.list (some n) sz xs, ls, { h0 with live := upd lB n true })) :
    SEv P ops h0 { h0 with live := lB } aa ⟨o, guardNames ops o ++ (tmpNames o.op.operands.toList ++ []), .list none sz xs, none⟩ := by
  intro aa' _ hrd G L w a i r next Q hk
  unfold bodyWp
  have hw' : aWanted ops aa'.tmps o = some true := by rw [wanted_names fun x hx => hrd x (List.mem_append_left _ hx)]; exact hw
  rw [if_pos (wanted_ok r hw')]
  have h1 := ev_names (aa := aa) (aa' := aa') (xs := o.op.operands.toList) fun x hx => hrd x (List.mem_append_right _ (List.mem_append_left _ hx))
  obtain ⟨N, hN⟩ := i.supply
  have hb := (hN N (Nat.le_refl _)).1
  have hr := (hN N (Nat.le_refl _)).2
  have hfr := i.fresh hb hr
  obtain ⟨x, w', G', L', q1, q2, q3, q4, v, q5, q6⟩ := op_ok (P := P) i r hb hr (hloc (aEval aa'.tmps) aa'.locs N (fun x hx => (h1 x (by simpa using hx)).symm) hfr.2)
  left
  unfold Oper.wp
  rw [q1]
  have i' : Inv G' { h0 with live := lB } w' := ⟨q3.claims, q3.blks, fun ρ' hl => q3.rows ρ' (by
    simp only [upd] at hl ⊢
    split
    · rfl
    · exact hl), q3.supply, q3.owned⟩
  have q5' : TR G' L' (.list none sz xs) v := by
    rcases q5 with q5 | ⟨k, off, b, e, _⟩
    · exact .inl q5.forget
    · cases e
  have fin : next (a.put o.dst v) w' := by
    refine hk G' L' w' _ q2 i' ?_
    have := aPut_ok q4 o.dst q5'
    have e : (⟨(aPut aa' o.dst (.list none sz xs)).tmps, aa'.locs⟩ : AAct) = aPut aa' o.dst (.list none sz xs) := by cases o.dst <;> rfl
    show ActRel G' L' w' ⟨(aPut aa' o.dst (.list none sz xs)).tmps, aa'.locs⟩ (a.put o.dst v)
    rw [e]; exact this
  rcases q6 with rfl | ⟨rfl, rfl⟩
  · exact fin
  · exact fin

theorem namesS_snoc {ops : List Oper} : ∀ (l : List Oper) (pr : List (List Nat)) (o : Oper), namesS ops (l ++ [o]) pr = namesS ops l pr ++ [(rdS ops o ((pr.drop l.length).headD []), wrS o ((pr.drop l.length).headD []))]
  | [], pr, o => by simp [namesS]
  | o' :: l, pr, o => by
    simp only [List.cons_append, namesS, namesS_snoc l pr.tail o, List.length_cons]
    cases pr <;> simp

/-- A region whose order is open, with an append ahead at its place j0: the quiet ones ahead of it, the append, then the tail. -/
theorem draw2_ok {Q : Exit → AAct → AHeap → Prop} {id : Nat} {pr : List (List Nat)} {j0 : Nat} {o : Oper} (hP : P.follows .mixedOrders = true) (ho : ops[j0]? = some o)
    (hd : (edgesB ops && tailB ops (j0 + 1) && traceN ops (namesS ops (ops.take (j0 + 1)) pr)) = true) {aa : AAct} {h : AHeap}
    (hr : RS P κ ops h (ops.take j0) pr aa fun aa' => aWanted ops aa'.tmps o = some true ∧ ∃ lB sz xs,
      (∀ (ev : Operand → AVal) (ls : Locs) n, (∀ x ∈ o.op.operands, ev x = aEval aa'.tmps x) → h.live n = false → aOp P (fun _ => false) ev ls h n o.dst o.op = some (.list (some n) sz xs, ls, { h with live := upd lB n true })) ∧
      RL P κ ops (fun aa h => Q .normal aa h) (ops.drop (j0 + 1)) (aPut aa' o.dst (.list none sz xs)) { h with live := lB }) : AWp P (.region id ops.toArray true) Q aa h := by
  intro G L w a i r
  simp only [Bool.and_eq_true] at hd
  obtain ⟨⟨d2, d3⟩, d4⟩ := hd
  obtain ⟨recs, e1, ⟨e2, hw, lB, sz, xs, hop, hrl⟩, e4⟩ := rq_ok _ _ _ _ (rs_rq _ _ [] [] aa _ .nil hr)
  simp only [List.nil_append] at e2
  have hj := (List.getElem?_eq_some_iff.1 ho).1
  have hm : recs.length = j0 := by rw [e1]; simp; omega
  rw [hm] at hrl hw hop
  have hoj : ops[j0] = o := by rw [List.getElem?_eq_getElem hj] at ho; exact Option.some.inj ho
  have htake : ops.take (j0 + 1) = ops.take j0 ++ [o] := by rw [List.take_succ_eq_append_getElem hj, hoj]
  let rs : QRec := ⟨o, guardNames ops o ++ (tmpNames o.op.operands.toList ++ []), .list none sz xs, none⟩
  have hsub : Subs (recs ++ [rs]) (namesS ops (ops.take (j0 + 1)) pr) := by
    rw [htake, namesS_snoc]
    refine e2.snoc ⟨fun x hx => ?_, fun x hx => ?_⟩
    · simp only [rs, List.append_nil, List.mem_append] at hx
      simp only [rdS, List.mem_append]
      rcases hx with hx | hx
      · exact .inl hx
      · exact .inr (.inl hx)
    · simp only [rs, QRec.wr, List.append_nil] at hx
      simp only [wrS, dstS, List.mem_append]
      exact .inl hx
  have htr := traceN_traceB hsub d4
  have hst : st aa (recs ++ [rs]) (j0 + 1) = aPut (st aa recs j0) o.dst (.list none sz xs) := by
    rw [st_succ (r := rs) (by rw [List.getElem?_append_right (by omega)]; simp [hm])]
    have : st aa (recs ++ [rs]) j0 = st aa recs j0 := by unfold st; rw [List.take_append_of_le_length (by omega)]
    rw [this]
    unfold QRec.app
    simp only [rs, applyL]
    cases o.dst <;> rfl
  have dr : Drawn w { w with drawn := w.drawn + 1 } := ⟨rfl, rfl, rfl, rfl⟩
  have hsz : ops.toArray.size = ops.length := by simp
  refine wp_region_any hP ?_
  rw [hsz]
  have hrep : ∀ (i : Nat) (b : Bool), i < ops.length → (Array.replicate ops.length false).getD i b = false := fun i b hi => by
    rw [Array.getD_eq_getD_getElem?]; simp [hi]
  have h0 : (fun i => (Array.replicate ops.length false).getD i false) = fun _ => false := funext fun i => by
    rw [Array.getD_eq_getD_getElem?, Array.getElem?_replicate]; split <;> rfl
  refine quiet_phase2 (κ := κ) d3 d2 (by omega) (hA := h) (hB := { h with live := lB }) (j0 := j0) (by omega) rfl (recs := recs ++ [rs]) (aa0 := aa) (by simp [hm]) (fun i rq hrq => ?_) htr (by rw [hst]; exact hrl) ops.length _ aa (by simp) ?_ (fun i _ hi => hrep i true hi) (by rw [h0]; intro _ _ _ hS; cases hS) rfl (fun x => ?_) ?_ ⟨r.defers, r.size, r.tmps, r.locs.drawn dr⟩ fun G' L' w' aa' a' h' x i' r' hk => ?_
  · rcases Nat.lt_or_ge i recs.length with hi | hi
    · rw [List.getElem?_append_left hi] at hrq
      obtain ⟨g1, g2⟩ := e4 i rq hrq
      have hst' : st aa (recs ++ [rs]) i = st aa recs i := by unfold st; rw [List.take_append_of_le_length (by omega)]
      refine ⟨?_, fun _ => by rw [hst']; exact g2, fun e => by omega⟩
      rw [List.getElem?_take] at g1
      split at g1
      · exact g1
      · cases g1
    · rw [List.getElem?_append_right hi] at hrq
      have hi0 : i = j0 := by
        rcases Nat.lt_or_ge (i - recs.length) 1 with h | h
        · omega
        · rw [List.getElem?_eq_none (by simpa using h)] at hrq; cases hrq
      subst hi0
      rw [hm, Nat.sub_self] at hrq
      simp at hrq
      subst hrq
      have hst' : st aa (recs ++ [rs]) i = st aa recs i := by unfold st; rw [List.take_append_of_le_length (by omega)]
      exact ⟨ho, fun e => absurd rfl e, fun _ => by rw [hst']; exact sev_append hw hop⟩
  · have : ∀ n, n ≤ ops.length → (List.range n).countP (fun i => !(Array.replicate ops.length false).getD i true) = n := by
      intro n
      induction n with
      | zero => intro _; rfl
      | succ n ihn =>
        intro hn
        rw [List.range_succ, List.countP_append, ihn (by omega), List.countP_cons, List.countP_nil, hrep n true (by omega)]; rfl
    exact this _ (Nat.le_refl _)
  · rw [h0]
    have : ∀ m, lastv aa (recs ++ [rs]) (fun _ => false) x m = nv aa x := by
      intro m
      induction m with
      | zero => rfl
      | succ m ihm => simp only [lastv]; rw [if_neg (by simp), ihm]
    exact (this _).symm
  · rw [if_neg (by rw [hrep j0 false hj]; simp)]; exact i.drawn dr
  · exact ⟨G', L', aa', h', (Ext.drawn dr).trans x, i', r', hk⟩
end
end Go.Ab
end
/- Code with a region that is shown by itself. -/
section
namespace Go.Ab

section
variable {P : Program} {κ : Tmp → Bool}
/-- The same, with regions that are left to be shown by themselves: those with the mark 999. -/
def RE (P : Program) (κ : Tmp → Bool) (δ : Nat → Nat × List (List Nat)) : Code → (Exit → AAct → AHeap → Prop) → AAct → AHeap → Prop
  | .skip, Q, aa, h => Q .normal aa h
  | .region id ops draw, Q, aa, h => if draw then (if (δ id).1 = 999 then AWp P (.region id ops draw) Q aa h else RS P κ ops.toList h (ops.toList.take (δ id).1) (δ id).2 aa fun aa' => RL P κ ops.toList (fun aa h => Q .normal aa h) (ops.toList.drop (δ id).1) aa' h)
      else RL P κ ops.toList (fun aa h => Q .normal aa h) ops.toList aa h
  | .seq x y, Q, aa, h => RE P κ δ x (thenE (RE P κ δ y Q) Q) aa h
  | .cond c x y, Q, aa, h => match aEval aa.tmps c with
    | .bool t => (t = true → RE P κ δ x Q aa h) ∧ (t = false → RE P κ δ y Q aa h)
    | _ => False
  | .block id c, Q, aa, h => RE P κ δ c (inBlockE id Q) aa h
  | .loop c, Q, aa, h => AWp P (.loop c) Q aa h
  | .exit id, Q, aa, h => Q (.exit id) aa h
  | .ret, Q, aa, h => Q .ret aa h
  | _, _, _, _ => False

def drawsE (δ : Nat → Nat × List (List Nat)) : Code → Bool
  | .region id ops draw => !draw || decide ((δ id).1 = 999) || drawB ops.toList (δ id)
  | .seq x y => drawsE δ x && drawsE δ y
  | .cond _ x y => drawsE δ x && drawsE δ y
  | .block _ c => drawsE δ c
  | _ => true

end

theorem re_ok {P : Program} (hP : P.follows .mixedOrders = true) {κ : Tmp → Bool} (δ : Nat → Nat × List (List Nat)) : ∀ (c : Code), drawsE δ c = true → ∀ {Q : Exit → AAct → AHeap → Prop} {aa : AAct} {h : AHeap}, RE P κ δ c Q aa h → AWp P c Q aa h
  | .skip, _, _, _, _, k => AWp.skip k
  | .region id ops draw, hd, Q, aa, h, k => by
    simp only [RE] at k
    split at k
    · rename_i hd'
      subst hd'
      split at k
      · exact k
      · rename_i h9
        unfold drawsE at hd
        have := draw_ok (id := id) hP (by simpa [h9] using hd) k
        rwa [Array.toArray_toList] at this
    · rename_i hd
      have hd' : draw = false := by simpa using hd
      subst hd'
      intro G L w a i r
      have := RL_ok (P := P) (κ := κ) (Q := Lift Q G L w) ops.toList aa h k i r (fun G' L' w' aa' a' h' x i' r' hk => ⟨G', L', aa', h', x, i', r', hk⟩)
      rw [Array.toArray_toList] at this
      exact wp_region_list this
  | .seq x y, hd, Q, aa, h, k => by
    simp only [RE] at k
    unfold drawsE at hd
    simp only [Bool.and_eq_true] at hd
    refine AWp.seq (AWp.mono (re_ok hP δ x hd.1 k) ?_)
    intro e aa h q
    cases e <;> first | exact re_ok hP δ y hd.2 q | exact q
  | .cond c x y, hd, Q, aa, h, k => by
    simp only [RE] at k
    unfold drawsE at hd
    simp only [Bool.and_eq_true] at hd
    split at k
    · rename_i t ht
      exact AWp.cond ht (fun e => re_ok hP δ x hd.1 (k.1 e)) (fun e => re_ok hP δ y hd.2 (k.2 e))
    · exact k.elim
  | .block id c, hd, Q, aa, h, k => AWp.block (re_ok hP δ c hd k)
  | .loop c, _, _, _, _, k => k
  | .exit id, _, _, _, _, k => AWp.exit k
  | .ret, _, _, _, _, k => AWp.ret k
  | .rangeFunc .., _, _, _, _, k => by simp [RE] at k
  | .scope _, _, _, _, _, k => by simp [RE] at k
  | .label _, _, _, _, _, k => by simp [RE] at k
  | .goto _, _, _, _, _, k => by simp [RE] at k
  | .refuse _, _, _, _, _, k => by simp [RE] at k

section
variable {P : Program} {κ : Tmp → Bool} {δ : Nat → Nat × List (List Nat)} {Q : Exit → AAct → AHeap → Prop} {t : List AVal} {l : Locs} {h : AHeap}

theorem re_skip : RE P κ δ .skip Q ⟨t, l⟩ h = Q .normal ⟨t, l⟩ h := rfl
theorem re_ret : RE P κ δ .ret Q ⟨t, l⟩ h = Q .ret ⟨t, l⟩ h := rfl
theorem re_exit {id : Nat} : RE P κ δ (.exit id) Q ⟨t, l⟩ h = Q (.exit id) ⟨t, l⟩ h := rfl
theorem re_seq {x y : Code} : RE P κ δ (.seq x y) Q ⟨t, l⟩ h = RE P κ δ x (thenE (RE P κ δ y Q) Q) ⟨t, l⟩ h := rfl
theorem re_block {id : Nat} {c : Code} : RE P κ δ (.block id c) Q ⟨t, l⟩ h = RE P κ δ c (inBlockE id Q) ⟨t, l⟩ h := rfl
theorem re_loop {c : Code} : RE P κ δ (.loop c) Q ⟨t, l⟩ h = AWp P (.loop c) Q ⟨t, l⟩ h := rfl
theorem re_region {id : Nat} {ops : List Oper} : RE P κ δ (.region id ops.toArray false) Q ⟨t, l⟩ h = RL P κ ops (normalK Q) ops ⟨t, l⟩ h := by
  simp only [RE, Bool.false_eq_true, if_false]
  rfl
theorem re_draw {id : Nat} {ops : List Oper} : RE P κ δ (.region id ops.toArray true) Q ⟨t, l⟩ h = if (δ id).1 = 999 then AWp P (.region id ops.toArray true) Q ⟨t, l⟩ h else RS P κ ops h (ops.take (δ id).1) (δ id).2 ⟨t, l⟩ (rsThen P κ ops Q h (ops.drop (δ id).1)) := by
  simp only [RE, if_true]
  rfl
def condE (P : Program) (κ : Tmp → Bool) (δ : Nat → Nat × List (List Nat)) (x y : Code) (Q : Exit → AAct → AHeap → Prop) (aa : AAct) (h : AHeap) : AVal → Prop
  | .bool b => (b = true → RE P κ δ x Q aa h) ∧ (b = false → RE P κ δ y Q aa h)
  | _ => False
theorem re_cond {c : Operand} {x y : Code} : RE P κ δ (.cond c x y) Q ⟨t, l⟩ h = condE P κ δ x y Q ⟨t, l⟩ h (aEval t c) := by
  simp only [RE, condE]
theorem condE_true {x y : Code} {aa : AAct} : condE P κ δ x y Q aa h (.bool true) = RE P κ δ x Q aa h := by simp [condE]
theorem condE_false {x y : Code} {aa : AAct} : condE P κ δ x y Q aa h (.bool false) = RE P κ δ y Q aa h := by simp [condE]
theorem condE_bool {x y : Code} {aa : AAct} {b : Bool} : condE P κ δ x y Q aa h (.bool b) = ((b = true → RE P κ δ x Q aa h) ∧ (b = false → RE P κ δ y Q aa h)) := rfl

end
end Go.Ab
end
/- What simp need not look at: the rest of a walk, till it is reached. -/
section
namespace Go.Ab
section
variable {P : Program} {κ : Tmp → Bool} {δ : Nat → Nat × List (List Nat)} {aa aa' : AAct} {h h' : AHeap} {c c' a a' b b' : AVal}
@[congr] theorem cg_W {α : Type} {m m' : Option α} {k : α → Prop} (e : m = m') : W m k = W m' k := by rw [e]
@[congr] theorem cg_splitBool {k : AVal → Prop} (e : c = c') : splitBool c k = splitBool c' k := by rw [e]
@[congr] theorem cg_CallK {f : FuncId} {args args' : List AVal} {dst : Option Tmp} {k : AAct → AHeap → Prop} (e1 : args = args') (e2 : h = h') (e3 : aa = aa') : CallK P f args h aa dst k = CallK P f args' h' aa' dst k := by rw [e1, e2, e3]
@[congr] theorem cg_QCallK {f : FuncId} {args args' : List AVal} {k : AVal → Prop} (e1 : args = args') : QCallK P f args h k = QCallK P f args' h k := by rw [e1]
@[congr] theorem cg_guardK {o : Oper} {w : Bool} {k : AAct → AHeap → Prop} (e : c = c') : guardK P κ o w aa h k c = guardK P κ o w aa h k c' := by rw [e]
@[congr] theorem cg_guardS {o : Oper} {w : Bool} {p : List Nat} {k : AAct → Prop} (e : c = c') : guardS P κ o w p aa h k c = guardS P κ o w p aa h k c' := by rw [e]
@[congr] theorem cg_condD {x y : Code} {Q : Exit → AAct → AHeap → Prop} (e : c = c') : condD P κ δ x y Q aa h c = condD P κ δ x y Q aa h c' := by rw [e]
@[congr] theorem cg_condE {x y : Code} {Q : Exit → AAct → AHeap → Prop} (e : c = c') : condE P κ δ x y Q aa h c = condE P κ δ x y Q aa h c' := by rw [e]
@[congr] theorem cg_pickK {k : AVal → Prop} (e : c = c') (e1 : a = a') (e2 : b = b') : pickK k c a b = pickK k c' a' b' := by rw [e, e1, e2]
@[congr] theorem cg_nilCheckK {k : AVal → Prop} (e : c = c') : nilCheckK k c = nilCheckK k c' := by rw [e]
@[congr] theorem cg_convK {tis ti : TI} {k : AVal → Prop} (e : c = c') : convK P tis ti k c = convK P tis ti k c' := by rw [e]
@[congr] theorem cg_makeK {te : TI} {k : Int → Prop} (e : c = c') (e1 : a = a') : makeK te c a k = makeK te c' a' k := by rw [e, e1]
@[congr] theorem cg_sliceK {ti : TI} {lo lo' hi hi' : Option Int} {k : AVal → Prop} (e : c = c') (e1 : lo = lo') (e2 : hi = hi') : sliceK P ti c lo hi k = sliceK P ti c' lo' hi' k := by rw [e, e1, e2]
@[congr] theorem cg_fieldsK {ti ti' : TI} {f : Nat} {k : Nat × TypeId → Prop} (e : ti = ti') : fieldsK ti f k = fieldsK ti' f k := by rw [e]
@[congr] theorem cg_aggK {k : List AVal → Prop} (e : c = c') : aggK c k = aggK c' k := by rw [e]
@[congr] theorem cg_intK {k : Int → Prop} (e : c = c') : intK c k = intK c' k := by rw [e]
@[congr] theorem cg_strK {k : ByteArray → Prop} (e : c = c') : strK c k = strK c' k := by rw [e]
@[congr] theorem cg_tupleK {k : List AVal → Prop} (e : c = c') : tupleK c k = tupleK c' k := by rw [e]
@[congr] theorem cg_int2K {k : IntKind → Int → Int → Prop} (e : c = c') (e1 : a = a') : int2K c a k = int2K c' a' k := by rw [e, e1]
@[congr] theorem cg_AWp {x : Code} {Q : Exit → AAct → AHeap → Prop} (e3 : aa = aa') (e2 : h = h') : AWp P x Q aa h = AWp P x Q aa' h' := by rw [e2, e3]
@[congr] theorem cg_RL {ops l : List Oper} {K : AAct → AHeap → Prop} (e3 : aa = aa') (e2 : h = h') : RL P κ ops K l aa h = RL P κ ops K l aa' h' := by rw [e2, e3]
@[congr] theorem cg_RS {ops l l' : List Oper} {pr : List (List Nat)} {k : AAct → Prop} (e1 : l = l') : RS P κ ops h l pr aa k = RS P κ ops h l' pr aa k := by rw [e1]

/-- A test: what is asked for each way. -/
def ifB (b : Bool) (X Y : Prop) : Prop := (b = true → X) ∧ (b = false → Y)
@[congr] theorem cg_ifB {b b' : Bool} {X Y : Prop} (e : b = b') : ifB b X Y = ifB b' X Y := by rw [e]
theorem ifB_true {X Y : Prop} : ifB true X Y = X := by simp [ifB]
theorem ifB_false {X Y : Prop} : ifB false X Y = Y := by simp [ifB]
theorem ifB_any {b : Bool} {X Y : Prop} : ifB b X Y = ((b = true → X) ∧ (b = false → Y)) := rfl
theorem splitBool_if {b : Bool} {k : AVal → Prop} : splitBool (.bool b) k = ifB b (k (.bool true)) (k (.bool false)) := splitBool_bool b k
theorem condD_if {x y : Code} {Q : Exit → AAct → AHeap → Prop} {b : Bool} : condD P κ δ x y Q aa h (.bool b) = ifB b (RD P κ δ x Q aa h) (RD P κ δ y Q aa h) := rfl
theorem condE_if {x y : Code} {Q : Exit → AAct → AHeap → Prop} {b : Bool} : condE P κ δ x y Q aa h (.bool b) = ifB b (RE P κ δ x Q aa h) (RE P κ δ y Q aa h) := rfl
end
end Go.Ab
end
