/-
  It is proved that smithylaw5.AstSame returns true for every input, and that each argument reads behind the call as it read before. There is no condition.
-/
import Derived.Test.YtdgfmdjlhkjbaaaRows
import Derived.ProofKit
import Derived.OpenShut
import Derived.ChangeMaps5
import Derived.Test.YtdgfmdjlhkjbaaaKd
set_option linter.all false
section
namespace Go.Proofs.Ytdgfmdjlhkjbaaa.astSame
open Go.Ab Go.Proofs Go.Proofs.Ab5
open Go.ChangeMaps Go.ChangeShapes Go.WideShapes Go.ChangeAt Go.RowKit
set_option linter.unusedVariables false

theorem own : ownKnob Try.prog.godebug = none := by kernel_rfl

theorem walk (a0 : ByteArray) (a1 a2 : Int) (w : World) :
    Calls Try.prog 3 #[.string a0, .int .i64 a1, .int .i64 a2] w fun e w' => e = .returned (.bool true) ∧ w.keptBut w' (fun _ => False) := by
  obtain ⟨G0, g1, g2, g3, g4⟩ : ∃ G : Ghost, (∀ b o, G.claim b o = none) ∧ (∀ β, G.blk β = none) ∧ (∀ ρ, G.row ρ = none) ∧ (∀ b, G.own b = none) := ⟨⟨fun _ _ => none, fun _ => none, fun _ => none, fun _ => none⟩, fun _ _ => rfl, fun _ => rfl, fun _ => rfl, fun _ => rfl⟩
  have i0 : Inv G0 ⟨fun _ => none, fun _ => false⟩ w := by
    refine ⟨fun b o v h => ?_, fun β cs h => ?_, fun ρ h => ?_, ⟨0, fun ρ _ => ⟨g2 ρ, g3 ρ⟩⟩, fun b x h => ?_⟩
    · rw [g1] at h; cases h
    · cases h
    · cases h
    · rw [g4] at h; cases h
  have hv : VRL G0 [.str a0, .int .i64 a1, .int .i64 a2] [.string a0, .int .i64 a1, .int .i64 a2] := VRL.cons .str (VRL.cons .int (VRL.cons .int VRL.nil))
  refine (c_astSame G0 w _ i0 hv).mono ?_
  rintro e w' ⟨v, G', r, h', rfl, hx, _, hr, rfl⟩
  cases hr
  refine ⟨rfl, hx.os, hx.output, fun i hi => ?_⟩
  have he := (hx.keep i hi (g4 i) (fun k h => by cases h)).2.1
  rw [he]
  cases w.heap[i]? with
  | none => rfl
  | some o => cases o <;> first | exact ⟨rfl, rfl, rfl, fun _ _ => rfl⟩ | exact .inr ⟨rfl, rfl⟩ | rfl

theorem shutStr {H : Type} {enc : TypeId × Value → H} {P : Program} {W : World} {base : Nat} {sp : Nat → Bool} {held : Bool} {t : TypeId} (ht : P.underlying t = some .string) {s : ByteArray} (hs : s.size ≤ maxLen) :
    DataW.Trod enc P W base sp held t (.string s) (.lit (.string s.data.toList)) [] := ⟨1, by simp [DataW.trod, Value.cells, ht, hs]⟩

set_option maxRecDepth 100000 in
theorem lifted (os : Os) (started : os.Started) (H : Type) (enc : TypeId × Value → H) :
    ReturnsInHanded {} Try.checked os 3 .any (Rows.astSameSpec.pre6 enc Try.prog Try.f3 Rows.astSameRow.domain false) (Rows.astSameSpec.post enc Try.prog Try.f3 false true false false) := by
  refine returnsInHanded_of_change (C := Try.checked) own started (by kernel_rfl) Try.func3
    (ChangeSpec.witness6 (enc := enc) (C := Try.checked) false ⟨#[], #[.string .empty, .int .i64 0, .int .i64 0], []⟩ 8 (by kernel_rfl) (by kernel_rfl) (by kernel_rfl) (by kernel_rfl)) ?_
  intro W base args ds gs before hval0 hW hcnd _
  have hval : ∀ (j : Nat) t v, Try.f3.params[j]? = some t → args[j]? = some v → Value.okWide Try.prog W .any base t v := hval0
  have hW' := hW
  obtain ⟨p, q, hA0, hV, rfl, hfz, hnd⟩ := hW
  have hA : DataW.TrodAll enc Try.prog W 0 (fun _ => true) true Try.f3.params.toList args.toList ds p := hA0
  rw [Try.params3] at hA hval
  obtain ⟨v0, vs0, d0, ds0, p0, q0, hargs, rfl, rfl, h0, r0⟩ := trodAll_cons hA
  obtain ⟨v1, vs1, d1, ds1, p1, q1, rfl, rfl, rfl, h1, r1⟩ := trodAll_cons r0
  obtain ⟨v2, vs2, d2, ds2, p2, q2, rfl, rfl, rfl, h2, r2⟩ := trodAll_cons r1
  obtain ⟨rfl, rfl, rfl⟩ := trodAll_nil r2
  obtain rfl : args = #[v0, v1, v2] := by cases args; simp_all
  obtain ⟨rfl, rfl⟩ := trodVars_none hV
  obtain ⟨a0, rfl, rfl, rfl, w0⟩ := open_string Try.underlying9 (hval 0 9 v0 rfl rfl) h0
  obtain ⟨a1, rfl, rfl, rfl, w1⟩ := open_int Try.underlying3 (hval 1 3 v1 rfl rfl) h1
  obtain ⟨a2, rfl, rfl, rfl, w2⟩ := open_int Try.underlying3 (hval 2 3 v2 rfl rfl) h2
  clear hA0 hval0
  simp only [List.append_nil] at hW'
  refine (walk a0 a1 a2 W).mono fun e W' ⟨he, hg⟩ => ?_
  subst he
  refine ⟨_, rfl, _, _, _, [], [], [], hW', (trodAll_cons_mk (shut_bool Try.underlying4 _) trodAll_mk0), (trodAll_cons_mk (shutStr Try.underlying9 w0) (trodAll_cons_mk (shut_int Try.underlying3 w1) (trodAll_cons_mk (shut_int Try.underlying3 w2) trodAll_mk0))), rfl,
    World.keptBut_mono (fun _ f => f.elim) hg, fun e => nomatch e⟩

theorem over : Rows.astSameRow.holds Try.pinned (OpenSpec.ofChange Rows.astSameSpec) :=
  OpenClaim.holds_of_wide 3 Try.f3 rfl rfl rfl rfl rfl rfl rfl ⟨rfl, rfl, rfl, rfl, rfl⟩ rfl rfl rfl rfl rfl (by kernel_rfl) Try.func3 (by kernel_rfl)
    (of_decide_eq_true (by kernel_rfl)) (by unfold Func.isWrapper; first | (rw [if_pos (by decide +kernel)]; kernel_rfl) | (rw [if_neg (by decide +kernel)]; exact ⟨rfl, rfl⟩))
    (fun os started H enc _ => lifted os started H enc)

theorem proved : Rows.AstSameSaid := over
#print axioms proved
end Go.Proofs.Ytdgfmdjlhkjbaaa.astSame
end
