/- began(64), run from nothing, makes a manager that bears nobody. -/
import Derived.Test.YtejdoilocmoojaaGreatZH2
set_option linter.unusedSimpArgs false
set_option linter.unusedVariables false
/-! Runs in the kernel: awake, began. -/
namespace Go.Ab.K
open Go.Proofs

noncomputable def isRow (h : Heap) (id n : Nat) (xs : List AV) : Bool :=
  match h.get id with
  | some (some (.row false (.lst m ys))) => m == n && AV.sames ys xs
  | _ => false
noncomputable def isMap0 (h : Heap) (id : Nat) : Bool :=
  match h.get id with
  | some (some (.map [] 0)) => true
  | _ => false
theorem isRow_eq {h : Heap} {id n : Nat} {xs : List AV} (hq : isRow h id n xs = true) : h.get id = some (some (.row false (.lst n xs))) := by
  unfold isRow at hq
  split at hq
  · rename_i m ys e1
    simp only [Bool.and_eq_true, beq_iff_eq] at hq
    rw [e1, hq.1, AV.sames_eq hq.2]
  · cases hq
theorem isMap0_eq {h : Heap} {id : Nat} (hq : isMap0 h id = true) : h.get id = some (some (.map [] 0)) := by
  unfold isMap0 at hq
  split at hq
  · assumption
  · cases hq

noncomputable def good (v : AV) (h : Heap) : Bool :=
  AV.same v (.tup [.ptr 14477 0, .ptr 8798 0]) && (isRow h 14477 4 [.ptr 8798 0, .ptr 14483 0, .int .u64 (.ofNat 0), .mp 14475] && (isMap0 h 14475 && (isRow h 14483 1 [.mp 14481] && (isMap0 h 14481 && (isRow h 8798 31 FR && (isMap0 h 13574 && (isRow h 35 6 DR && (Nat.ble 15000 h.next && Nat.ble h.next 20000))))))))

theorem good_spec {v : AV} {h : Heap} (hq : good v h = true) : v = .tup [.ptr 14477 0, .ptr 8798 0] ∧ MH h 0 (ents []) 0 ∧ h.next ≤ 20000 := by
  simp only [good, Bool.and_eq_true] at hq
  obtain ⟨h1, h2, h3, h4, h5, h6, h7, h8, h9, h10⟩ := hq
  exact ⟨AV.same_eq h1, ⟨isRow_eq h2, isMap0_eq h3, isRow_eq h4, isMap0_eq h5, isRow_eq h6, isMap0_eq h7, isRow_eq h8, Nat.le_of_ble_eq_true h9⟩, Nat.le_of_ble_eq_true h10⟩

theorem began64 : mcall T F 5000 200 8 [.int .i64 (.ofNat 64)] ⟨9, .nil⟩ good = true := by kernel_rfl
end Go.Ab.K
