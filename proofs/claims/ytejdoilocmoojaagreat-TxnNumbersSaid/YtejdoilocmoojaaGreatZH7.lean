/- What operations of TxnNumbers answer. -/
import Derived.Test.YtejdoilocmoojaaGreatZH6
set_option linter.unusedSimpArgs false
set_option linter.unusedVariables false
/-! TxnNumbers: what the loop's operations answer. -/
namespace Go.Ab.K
open Go.Proofs

theorem und22 : T.und 22 = some (.slice 3) := by kernel_rfl
theorem size3 : T.size 3 = some 1 := by kernel_rfl
theorem mk29 (e : List AV) : mkOp T e Heap.empty (.buildSlice 29 0 #[]) = some (.row false (.lst 0 []), fun id => .sl id 0 1 0 0 true) := by kernel_rfl

theorem len22 (h : Heap) (n : Nat) (cs : List AV) : aLen T h 22 (.rs n cs) = some (.int .i64 (.ofNat n)) := by
  simp only [aLen, und22]; rfl
theorem len29 (h : Heap) (i o es n cm : Nat) (ex : Bool) : aLen T h 29 (.sl i o es n cm ex) = some (.int .i64 (.ofNat n)) := by
  simp only [aLen, und29]; rfl
theorem len29n (h : Heap) : aLen T h 29 .nils = some (.int .i64 (.ofNat 0)) := by
  simp only [aLen, und29]; rfl
theorem ia22 {n i : Nat} {cs : List AV} (hi : i < n) : aIndexAddr T 22 (.rs n cs) (.int .i64 (.ofNat i)) = some (.rp (cs.drop i)) := by
  simp only [aIndexAddr, und22, size3]
  rw [if_pos ⟨by exact Int.natCast_nonneg i, by show (i : Int) < n; omega⟩]
  simp
theorem ia29 {x n cm i : Nat} {ex : Bool} (hi : i < n) : aIndexAddr T 29 (.sl x 0 1 n cm ex) (.int .i64 (.ofNat i)) = some (.ptr x i) := by
  simp only [aIndexAddr, und29, size28]
  rw [if_pos ⟨trivial, by exact Int.natCast_nonneg i, by show (i : Int) < n; omega⟩]
  simp
theorem onPtr_rp {β : Type} (z : β) (f : Nat → Nat → β) (cs : List AV) : AV.onPtr z f (.rp cs) = z := rfl
theorem cellOf_rp (h : Heap) (cs : List AV) : cellOf h (.rp cs) = cs.head? := rfl
theorem head_drop {xs : List Int} {i : Nat} {x : Int} (hx : xs[i]? = some x) : ((xs.map fun x => AV.int .i64 x).drop i).head? = some (.int .i64 x) := by
  rw [List.head?_drop, List.getElem?_map, hx]; rfl

theorem rem_run (k : IntKind) (x : Int) {b : Nat} (hb : b ≠ 0) : IB.rem.run k x (.ofNat b) = some (.int k (x.tmod b)) := by
  have hne : ¬ ((b : Int) = 0) := by omega
  cases x with
  | ofNat a =>
    show Bool.rec (motive := fun _ => Option AV) (some (.int k (Int.ofNat (Nat.mod a b)))) none (Nat.beq b 0) = _
    rw [show Nat.beq b 0 = false by cases b with | zero => exact absurd rfl hb | succ n => rfl]
    rfl
  | negSucc a =>
    show aBinInt .rem k (Int.negSucc a) (b : Int) = _
    simp only [aBinInt]; rw [if_neg hne]
theorem eql_runI (k : IntKind) (x : Int) : IB.eql.run k x (.ofNat 0) = some (.bool (decide (x = 0))) := by
  cases x with
  | ofNat a =>
    show some (AV.bool (Nat.beq a 0)) = _
    congr 2
    rw [Bool.eq_iff_iff]; simp [Nat.beq_eq]
  | negSucc a => rfl
theorem add_runI {x : Int} {b m : Nat} (hm : x + b = m) (hl : m < 1000) (hx : -1000 < x) : IB.add.run .i64 x (.ofNat b) = some (.int .i64 (.ofNat m)) := by
  have key : aBinInt .add .i64 x (.ofNat b) = some (.int .i64 (.ofNat m)) := by
    show some (AV.int .i64 (IntKind.i64.wrap (x + b))) = _
    rw [hm, wrapN_small .i64 m (by show m ≤ 9223372036854775807; omega)]; rfl
  cases x with
  | ofNat a => rw [← key]; show some (AV.int .i64 (wrapN .i64 (a + b))) = some (AV.int .i64 (IntKind.i64.wrap ((a : Int) + b))); rw [wrapN_eq]; rfl
  | negSucc a => exact key

/-- Which of those that are open. -/
theorem idx (x : Int) {L : Nat} (h0 : 0 < L) (hL : L ≤ 64) : ∃ (y : Int) (m k : Nat), k < L ∧ IB.rem.run .i64 x (.ofNat L) = some (.int .i64 y) ∧ IB.add.run .i64 y (.ofNat L) = some (.int .i64 (.ofNat m)) ∧ IB.rem.run .i64 (.ofNat m) (.ofNat L) = some (.int .i64 (.ofNat k)) := by
  have hb : -(L : Int) < x.tmod L ∧ x.tmod L < L := by
    have h1 := Int.tmod_lt_of_pos x (show (0 : Int) < L by omega)
    have h2 := Int.lt_tmod_of_pos x (show (0 : Int) < L by omega)
    omega
  refine ⟨x.tmod L, (x.tmod L + L).toNat, (x.tmod L + L).toNat % L, Nat.mod_lt _ h0, rem_run _ _ (by omega), add_runI (by omega) (by omega) (by omega), ?_⟩
  rw [rem_run _ _ (by omega)]; rfl

theorem slLo {h : Heap} {x k n cm : Nat} {ex : Bool} (hk : k ≤ cm) : aSlice T h 29 (.sl x 0 1 n cm ex) none (some (.int .i64 (.ofNat k))) none = some (.sl x 0 1 k cm ex) := by
  simp only [aSlice, und29, size28, bnd]
  rw [if_pos (by exact Int.natCast_nonneg k)]
  simp only [Int.ofNat_eq_natCast, Int.toNat_natCast, true_and, Nat.zero_le]
  rw [if_pos hk]; simp
theorem slHi {h : Heap} {x k n cm : Nat} {ex : Bool} (hk : k ≤ n) (hn : n ≤ cm) : aSlice T h 29 (.sl x 0 1 n cm ex) (some (.int .i64 (.ofNat k))) none none = some (.sl x k 1 (n - k) (cm - k) ex) := by
  simp only [aSlice, und29, size28, bnd]
  rw [if_pos (by exact Int.natCast_nonneg k)]
  simp only [Int.ofNat_eq_natCast, Int.toNat_natCast, true_and]
  rw [if_pos ⟨hk, hn⟩]; simp

theorem csk {ks : List Nat} {k t : Nat} (hk : ks[k]? = some t) : csGet (.lst ks.length (ks.map iv)) k = some (.int .u64 (.ofNat t)) := by
  rw [csGet_eq]
  have hl : k < ks.length := (List.getElem?_eq_some_iff.1 hk).1
  simp only [Cs.get?]
  rw [if_pos hl, List.getD_eq_getElem?_getD, List.getElem?_map, hk]; rfl

/-- A slice of integers that is only read. -/
structure SArg (a : AV) (xs : List Int) : Prop where
  len : ∀ h, aLen T h 22 a = some (.int .i64 (.ofNat xs.length))
  idx : ∀ i, i < xs.length → aIndexAddr T 22 a (.int .i64 (.ofNat i)) = some (.rp ((xs.map fun x => .int .i64 x).drop i))
theorem SArg.rs (xs : List Int) : SArg (.rs xs.length (xs.map fun x => .int .i64 x)) xs := ⟨fun h => len22 _ _ _, fun _ hi => ia22 hi⟩
theorem SArg.nil : SArg .nils [] := ⟨fun h => by simp only [aLen, und22]; rfl, fun i hi => by simp at hi⟩
end Go.Ab.K
