/- Appending to slices of numbers. -/
import Derived.Test.YtejdoilocmoojaaGreatZH2
set_option linter.unusedSimpArgs false
set_option linter.unusedVariables false
/-! Slices of numbers. -/
namespace Go.Ab.K
open Go.Proofs

def iv (t : Nat) : AV := .int .u64 (.ofNat t)

theorem und29 : T.und 29 = some (.slice 28) := by kernel_rfl
theorem size28 : T.size 28 = some 1 := by kernel_rfl
theorem bytes28 : T.bytes 28 = some 8 := by kernel_rfl
theorem zero28 : T.zero 28 = some (.int .u64 (.ofNat 0)) := by kernel_rfl

section
variable {h : Heap} {A B : List Nat} {i id : Nat} {ex sg : Bool} {x : AV}

theorem cells28 : (T.zero 28).bind AV.cells = some [.int .u64 (.ofNat 0)] := by rw [zero28]; rfl

theorem app_nils (hx : srcCells h 1 x = some (B.length, B.map iv)) (hB : B.length ≠ 0) (hl : B.length < 1000) :
    wrAppend T h id 29 29 .nils x = some (.sl id 0 1 B.length B.length false, h.set id (some (.row false (.lst B.length (B.map iv))))) := by
  simp only [wrAppend, und29, size28, bytes28, cells28, appSrc, hx, List.length_cons, List.length_nil, Nat.zero_add, if_true]
  rw [if_neg hB, if_pos (by omega)]
  simp only [Nat.mul_one]

theorem app_zero (hx : srcCells h 1 x = some (0, [])) (hi : h.get i = some (some (.row sg (.lst A.length (A.map iv))))) :
    wrAppend T h id 29 29 (.sl i 0 1 A.length A.length ex) x = some (.sl i 0 1 A.length A.length ex, h.set i (some (.row sg (.lst A.length (A.map iv))))) := by
  simp only [wrAppend, und29, size28, bytes28, cells28, appSrc, hx, List.length_cons, List.length_nil, Nat.zero_add, if_true, hi, Nat.add_zero, Nat.le_refl, Nat.mul_one, Nat.zero_mul, Cs.write]
  by_cases hA : A.length = 0
  · have hA' : A = [] := List.eq_nil_of_length_eq_zero hA
    subst hA'
    simp
  · rw [if_neg (by omega), pad_take _ _ (by simp)]
    simp

theorem app_more (hx : srcCells h 1 x = some (B.length, B.map iv)) (hB : B.length ≠ 0) (hl : A.length + B.length < 1000) (hi : h.get i = some (some (.row sg (.lst A.length (A.map iv))))) :
    wrAppend T h id 29 29 (.sl i 0 1 A.length A.length ex) x = some (.sl id 0 1 (A ++ B).length (A ++ B).length false,
      if ex then h.set id (some (.row false (.lst (A ++ B).length ((A ++ B).map iv)))) else (h.set i none).set id (some (.row sg (.lst (A ++ B).length ((A ++ B).map iv))))) := by
  simp only [wrAppend, und29, size28, bytes28, cells28, appSrc, hx, List.length_cons, List.length_nil, Nat.zero_add, if_true, hi, Nat.mul_one]
  rw [if_neg (by omega), if_pos (by omega)]
  have hr : Cs.read (.lst A.length (A.map iv)) 0 A.length = some (A.map iv) := by
    simp only [Cs.read, Nat.zero_add, Nat.le_refl, if_true, List.drop_zero]
    rw [pad_take _ _ (by simp), List.take_of_length_le (by simp)]
  simp only [hr, List.length_append, List.map_append]
  cases ex <;> rfl

/-- A slice of all of its array: its numbers. -/
def SP (h : Heap) (v : AV) (A : List Nat) (i : Nat) (ex sg : Bool) : Prop := v = .sl i 0 1 A.length A.length ex ∧ h.get i = some (some (.row sg (.lst A.length (A.map iv))))

theorem app_sp {v : AV} (hs : SP h v A i ex sg) (hx : srcCells h 1 x = some (B.length, B.map iv)) (hl : A.length + B.length < 1000) (hi : i < 1000000000000) (hid : id < 1000000000000) :
    ∃ v' h' i' ex' sg', wrAppend T h id 29 29 v x = some (v', h') ∧ SP h' v' (A ++ B) i' ex' sg' ∧ (i' = i ∨ i' = id) ∧ h'.next = h.next ∧ ∀ j, j ≠ i → j ≠ id → h'.get j = h.get j := by
  obtain ⟨rfl, hg⟩ := hs
  by_cases hB : B.length = 0
  · have hB' : B = [] := List.eq_nil_of_length_eq_zero hB
    subst hB'
    refine ⟨_, _, i, ex, sg, app_zero hx hg, ⟨by simp, by rw [Heap.get_set_eq _ _ hi]; simp⟩, .inl rfl, rfl, fun j hj _ => Heap.get_set_ne _ _ (fun e0 => hj e0.symm)⟩
  · refine ⟨_, _, id, false, if ex then false else sg, app_more hx hB hl hg, ⟨rfl, ?_⟩, .inr rfl, ?_, fun j hj hk => ?_⟩
    · cases ex
      · simp only [Bool.false_eq_true, if_false]; exact Heap.get_set_eq _ _ hid
      · simp only [if_true]; exact Heap.get_set_eq _ _ hid
    · cases ex <;> rfl
    · cases ex
      · simp only [Bool.false_eq_true, if_false]
        rw [Heap.get_set_ne _ _ (fun e0 => hk e0.symm), Heap.get_set_ne _ _ (fun e0 => hj e0.symm)]
      · simp only [if_true]
        rw [Heap.get_set_ne _ _ (fun e0 => hk e0.symm)]

/-- A part of such a slice. -/
theorem src_part {L o l : Nat} (hL : L = A.length) (hi : h.get i = some (some (.row sg (.lst A.length (A.map iv))))) (hol : o + l ≤ L) (cm : Nat) : srcCells h 1 (.sl i o 1 l cm ex) = some (((A.drop o).take l).length, ((A.drop o).take l).map iv) := by
  subst hL
  simp only [srcCells, if_true]
  by_cases h0 : l = 0
  · subst h0; simp
  · rw [if_neg h0]
    simp only [rowOf, hi, Option.bind_some, Cs.read, Nat.mul_one]
    rw [if_pos hol, pad_take _ _ (by simp; omega)]
    simp only [Option.map_some, List.map_take, List.map_drop]
    congr 2
    simp; omega
end
end Go.Ab.K
