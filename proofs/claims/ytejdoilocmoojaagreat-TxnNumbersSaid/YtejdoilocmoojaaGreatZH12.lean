/- TxnNumbers in the form of its row, for every input. -/
import Derived.Test.YtejdoilocmoojaaGreatRows
import Derived.Test.YtejdoilocmoojaaGreatZH11
import Derived.ProofKit
import Derived.RowKit
set_option linter.unusedSimpArgs false
set_option linter.unusedVariables false
namespace Go.Proofs.YtejdoilocmoojaaGreat
open Go.ChangeShapes Go.WideShapes Go.ChangeAt Go.RowKit
open Go.Ab Go.Ab.K
set_option maxRecDepth 100000

theorem own : ownKnob Tryz.prog.godebug = none := by kernel_rfl
theorem laidOut : laidOutB Tryz.prog = true := by kernel_rfl
theorem cells3 : Tryz.prog.cellsOf 3 = 1 := by kernel_rfl
theorem under22 : Tryz.prog.underlying 22 = some (.slice 3) := by kernel_rfl
theorem under3 : Tryz.prog.underlying 3 = some (.int .i64) := by kernel_rfl
theorem under4 : Tryz.prog.underlying 4 = some .bool := by kernel_rfl

/-- Nothing is owned yet. -/
theorem R_start (W : World) : R (fun _ => none) (fun b => b < W.heap.size) Heap.empty W where
  nofresh _ _ := rfl
  top _ _ := rfl
  live id o h := by cases h
  inj i j oi oj p q h1 := by cases h1
  own id o p h1 := by cases h1
  zlt b hb := hb
  lim := by show (0 : Nat) < _; omega

theorem ints_VRs {σ : Sig} {Z : Nat → Prop} {w : World} : ∀ xs : List Int, VRs σ Z w (xs.map fun x => AV.int .i64 x) (xs.map fun x => Value.int .i64 x)
  | [] => rfl
  | x :: xs => ⟨_, _, rfl, rfl, ints_VRs xs⟩
theorem ints_ones (xs : List Int) : ones (xs.map fun x => Value.int .i64 x) := fun v hv => by
  obtain ⟨x, _, rfl⟩ := List.mem_map.1 hv; rfl

/-- What it reads. -/
theorem opened {H : Type} {enc : TypeId × Value → H} {W : World} {a0 : Option Addr} {len cap base : Nat} {d0 : DataW H} {p : List MemPlace}
    (h0 : DataW.Trod enc Tryz.prog W 0 (fun _ => true) true 22 (.slice a0 len cap) d0 p) (hv : Value.okWide Tryz.prog W .any base 22 (.slice a0 len cap)) :
    ∃ (a : AV) (xs : List Int), SArg a xs ∧ VR (fun _ => none) (fun b => b < W.heap.size) W a (.slice a0 len cap) := by
  obtain ⟨fuel, hf⟩ := h0
  rcases open_ints under22 under3 cells3 hf with ⟨hcs, hx⟩ | ⟨a, len', cap', zs, hcs, _, hl, hm, hz, hx, hcell, hwz⟩
  · simp [Value.cells] at hcs
    obtain ⟨rfl, rfl, rfl⟩ := hcs
    exact ⟨.nils, [], SArg.nil, by simp only [VR]⟩
  · simp [Value.cells] at hcs
    obtain ⟨rfl, rfl, rfl⟩ := hcs
    simp only [if_true] at hz
    have hsp : a.spot = none := by
      simp only [Value.okWide, under22, Cell.okWide, Cell.ok] at hv
      exact hv.2.2.2.1
    obtain ⟨b, o, sp⟩ := a
    simp only at hsp; subst hsp
    refine ⟨.rs (zs.take len).length ((zs.take len).map fun x => .int .i64 x), zs.take len, SArg.rs _, ?_⟩
    have hlen : (zs.take len).length = len := by simp; omega
    have hcell' : ∀ i, i < zs.length → W.cell? ⟨b, o + i, none⟩ = some (.int .i64 (zs.getD i 0)) := fun i hi => by
      have := hcell i hi
      unfold Addr.add at this
      split at this
      · rename_i e0; subst e0; simpa using this
      · simpa using this
    simp only [VR]
    refine ⟨b, o, cap, (zs.take len).map fun x => .int .i64 x, by rw [hlen], by rw [hlen]; exact hl, fun hne => ?_, ints_VRs _, fun i v hi => ?_, ints_ones _⟩
    · have hz0 : 0 < zs.length := by
        rcases Nat.eq_zero_or_pos zs.length with h0 | h0
        · exact absurd (by simp [List.eq_nil_of_length_eq_zero h0]) hne
        · exact h0
      have := hcell' 0 hz0
      simp only [World.cell?] at this
      rcases Nat.lt_or_ge b W.heap.size with hb | hb
      · exact hb
      · rw [Array.getElem?_eq_none hb] at this
        simp at this
    · simp only [List.getElem?_map, Option.map_eq_some_iff] at hi
      obtain ⟨x, hx', rfl⟩ := hi
      have hil : i < zs.length := by
        have := (List.getElem?_eq_some_iff.1 hx').1
        simp at this; omega
      rw [hcell' i hil]
      rw [List.getElem?_take] at hx'
      split at hx'
      · rw [List.getD_eq_getElem?_getD, hx']; rfl
      · cases hx'

set_option maxHeartbeats 800000 in
set_option maxRecDepth 100000 in
theorem lifted (os : Os) (started : os.Started) (H : Type) (enc : TypeId × Value → H) :
    ReturnsInHanded {} Tryz.checked os 3 .any (Rows.txnNumbersSpec.pre6 enc Tryz.prog Tryz.f3 Rows.txnNumbersRow.domain false) (Rows.txnNumbersSpec.post enc Tryz.prog Tryz.f3 false true false false) := by
  refine returnsInHanded_of_change (C := Tryz.checked) own started (by kernel_rfl) Tryz.func3
    (ChangeSpec.witness6 (enc := enc) (C := Tryz.checked) false ⟨#[], #[.slice none 0 0], []⟩ 8 (by kernel_rfl) (by kernel_rfl) (by kernel_rfl) (by kernel_rfl)) ?_
  intro W base args ds gs before hval0 hW _ _
  have hval : ∀ (j : Nat) t v, Tryz.f3.params[j]? = some t → args[j]? = some v → Value.okWide Tryz.prog W .any base t v := hval0
  have hW' := hW
  obtain ⟨p, q, hA0, hV, rfl, _, _⟩ := hW
  have hA : DataW.TrodAll enc Tryz.prog W 0 (fun _ => true) true Tryz.f3.params.toList args.toList ds p := hA0
  rw [Tryz.params3] at hA hval
  obtain ⟨v0, d0, rfl, rfl, h0⟩ := trodAll_one hA
  obtain ⟨rfl, rfl⟩ := trodVars_none hV
  have hv0 := hval 0 22 v0 rfl rfl
  obtain ⟨a0, len0, cap0, rfl⟩ := okWide_slice under22 hv0
  clear hA0 hval0
  simp only [List.append_nil] at hW'
  have hlt : ∀ x ∈ p, x.block < W.heap.size := fun x hx => by simpa using hW'.lt x hx
  obtain ⟨a, xs, ha, hvr⟩ := opened h0 hv0
  refine (CT3 ha (fun _ => none) (fun b => b < W.heap.size) W #[.slice a0 len0 cap0] (R_start W) ⟨_, _, rfl, hvr, rfl⟩).mono fun e W' hp => ?_
  cases e with
  | returned v =>
    obtain ⟨σ', Z', av, h', k, r, x, hvv⟩ := hp
    have hav : av = .bool true := by
      cases av <;> first | (cases k; done) | (rename_i b; cases b; cases k; rfl)
    subst hav
    simp only [VR] at hvv
    subst hvv
    have nown : ∀ b, ¬ Owns (fun _ => none) Heap.empty b := fun b ⟨id, o, p, h1, _⟩ => by cases h1
    have below : Below W.heap.size W W' := ⟨x.os, x.tape, x.output, x.size, fun b hb => x.same b hb (nown b)⟩
    have harg0 : DataW.Trod enc Tryz.prog W' 0 (fun b => decide (b < W.heap.size)) true 22 (.slice a0 len0 cap0) d0 p :=
      Below.trod laidOut (by kernel_rfl) (of_decide_eq_true (by kernel_rfl)) h0 below hlt
    refine ⟨_, rfl, _, _, _, [], _, [], hW', ?_, trodAll_mk1 harg0, rfl, below.frame _, fun h => by cases h⟩
    exact trodAll_mk1 (shut_bool under4 _)
  | panicked c => exact hp.elim
  | outgrown => exact hp.elim

end Go.Proofs.YtejdoilocmoojaaGreat
