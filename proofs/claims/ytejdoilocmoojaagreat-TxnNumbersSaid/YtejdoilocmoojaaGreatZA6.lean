/- A quick run of turned code tells the truth, at a program whose tables are told rightly. -/
import Derived.Test.YtejdoilocmoojaaGreatZA5
set_option linter.unusedSimpArgs false
set_option linter.unusedVariables false
/-! The slots of an activation as a tree, for quick runs. -/
namespace Go.Ab

inductive N8 (α : Type) where
  | mk (a b c d e f g h : α)
inductive D8 where
  | d0 | d1 | d2 | d3 | d4 | d5 | d6 | d7

noncomputable def D8.of {α : Type} (i : D8) (a b c d e f g h : α) : α := D8.rec (motive := fun _ => α) a b c d e f g h i
noncomputable def N8.get {α : Type} (i : D8) (n : N8 α) : α := N8.rec (motive := fun _ => α) (fun a b c d e f g h => D8.rec (motive := fun _ => α) a b c d e f g h i) n
noncomputable def N8.s0 {α : Type} (v : α) (n : N8 α) : N8 α := N8.rec (motive := fun _ => N8 α) (fun _ b c d e f g h => .mk v b c d e f g h) n
noncomputable def N8.s1 {α : Type} (v : α) (n : N8 α) : N8 α := N8.rec (motive := fun _ => N8 α) (fun a _ c d e f g h => .mk a v c d e f g h) n
noncomputable def N8.s2 {α : Type} (v : α) (n : N8 α) : N8 α := N8.rec (motive := fun _ => N8 α) (fun a b _ d e f g h => .mk a b v d e f g h) n
noncomputable def N8.s3 {α : Type} (v : α) (n : N8 α) : N8 α := N8.rec (motive := fun _ => N8 α) (fun a b c _ e f g h => .mk a b c v e f g h) n
noncomputable def N8.s4 {α : Type} (v : α) (n : N8 α) : N8 α := N8.rec (motive := fun _ => N8 α) (fun a b c d _ f g h => .mk a b c d v f g h) n
noncomputable def N8.s5 {α : Type} (v : α) (n : N8 α) : N8 α := N8.rec (motive := fun _ => N8 α) (fun a b c d e _ g h => .mk a b c d e v g h) n
noncomputable def N8.s6 {α : Type} (v : α) (n : N8 α) : N8 α := N8.rec (motive := fun _ => N8 α) (fun a b c d e f _ h => .mk a b c d e f v h) n
noncomputable def N8.s7 {α : Type} (v : α) (n : N8 α) : N8 α := N8.rec (motive := fun _ => N8 α) (fun a b c d e f g _ => .mk a b c d e f g v) n
noncomputable def N8.set {α : Type} (i : D8) (v : α) (n : N8 α) : N8 α := D8.rec (motive := fun _ => α → N8 α → N8 α) N8.s0 N8.s1 N8.s2 N8.s3 N8.s4 N8.s5 N8.s6 N8.s7 i v n

theorem N8.get_same {α : Type} (i : D8) (v : α) (n : N8 α) : (n.set i v).get i = v := by cases n; cases i <;> rfl
theorem N8.get_other {α : Type} {i j : D8} (h : i ≠ j) (v : α) (n : N8 α) : (n.set i v).get j = n.get j := by
  cases n; cases i <;> cases j <;> first | rfl | exact absurd rfl h

abbrev E := N8 (N8 (N8 AV))

def dig (t : Nat) : D8 :=
  match t % 8 with
  | 0 => .d0
  | 1 => .d1
  | 2 => .d2
  | 3 => .d3
  | 4 => .d4
  | 5 => .d5
  | 6 => .d6
  | _ => .d7

theorem dig_inj {a b : Nat} (h : dig a = dig b) : a % 8 = b % 8 := by
  unfold dig at h
  have ha : a % 8 < 8 := Nat.mod_lt _ (by omega)
  have hb : b % 8 < 8 := Nat.mod_lt _ (by omega)
  generalize a % 8 = x at h ha ⊢
  generalize b % 8 = y at h hb ⊢
  rcases lt8 ha with rfl | rfl | rfl | rfl | rfl | rfl | rfl | rfl <;> rcases lt8 hb with rfl | rfl | rfl | rfl | rfl | rfl | rfl | rfl <;> first | rfl | cases h

noncomputable def E.at (e : E) (t : Nat) : AV := N8.get (dig t) (N8.get (dig (t / 8)) (N8.get (dig (t / 64)) e))
noncomputable def E.put (a b c : D8) (v : AV) (e : E) : E := N8.set a (N8.set b (N8.set c v (N8.get b (N8.get a e))) (N8.get a e)) e

theorem E.at_put (e : E) {t u : Nat} (v : AV) (ht : t < 512) (hu : u < 512) : E.at (E.put (dig (t / 64)) (dig (t / 8)) (dig t) v e) u = if t = u then v else e.at u := by
  unfold E.at E.put
  by_cases h1 : dig (t / 64) = dig (u / 64)
  · rw [← h1, N8.get_same]
    by_cases h2 : dig (t / 8) = dig (u / 8)
    · rw [← h2, N8.get_same]
      by_cases h3 : dig t = dig u
      · rw [← h3, N8.get_same, if_pos]
        have := dig_inj h1; have := dig_inj h2; have := dig_inj h3
        omega
      · rw [N8.get_other h3, if_neg (fun e0 => h3 (by rw [e0]))]
    · rw [N8.get_other h2, if_neg (fun e0 => h2 (by rw [e0]))]
  · rw [N8.get_other h1, if_neg (fun e0 => h1 (by rw [e0]))]

/-- The tree tells the slots. -/
structure Rel (E0 : E) (e : List AV) (n : Nat) : Prop where
  len : e.length = n
  at_ : ∀ t, t < n → e[t]? = some (E0.at t)

/-- Where an operand is read. -/
inductive Rd where
  | t (a b c : D8)
  | k (v : AV)

noncomputable def Rd.rd (x : Rd) (e : E) : AV := Rd.rec (motive := fun _ => AV) (fun a b c => N8.get c (N8.get b (N8.get a e))) (fun v => v) x

def rdOf (n : Nat) : Operand → Option Rd
  | .tmp t => if t < n ∧ t < 512 then some (.t (dig (t / 64)) (dig (t / 8)) (dig t)) else none
  | x => (opd [] x).map .k

theorem rdOf_opd {n : Nat} {x : Operand} {r : Rd} {E0 : E} {e : List AV} (h : rdOf n x = some r) (hR : Rel E0 e n) : opd e x = some (r.rd E0) := by
  cases x with
  | tmp t =>
    simp only [rdOf] at h
    split at h
    · rename_i hl
      injection h with h; subst h
      exact hR.at_ t hl.1
    · cases h
  | const v =>
    simp only [rdOf, opd, Option.map_eq_some_iff] at h
    obtain ⟨a, h1, rfl⟩ := h
    exact h1
  | global g => simp [rdOf, opd] at h
  | func f =>
    simp only [rdOf, opd, Option.map_some] at h
    injection h with h; subst h; rfl

def rdsOf (n : Nat) : List Operand → Option (List Rd)
  | [] => some []
  | x :: xs => match rdOf n x, rdsOf n xs with
    | some a, some as => some (a :: as)
    | _, _ => none

noncomputable def Rd.rds (xs : List Rd) (e : E) : List AV := List.rec (motive := fun _ => List AV) [] (fun x _ ih => Rd.rd x e :: ih) xs

theorem rdsOf_opds {n : Nat} {E0 : E} {e : List AV} (hR : Rel E0 e n) : ∀ {xs : List Operand} {rs : List Rd}, rdsOf n xs = some rs → opds e xs = some (Rd.rds rs E0)
  | [], rs, h => by
    simp only [rdsOf] at h; injection h with h; subst h; rfl
  | x :: xs, rs, h => by
    simp only [rdsOf] at h
    split at h
    · rename_i a as h1 h2
      injection h with h; subst h
      simp only [opds, rdOf_opd h1 hR, rdsOf_opds hR h2]; rfl
    · cases h

/-- Where a value is put. -/
inductive Pt where
  | no
  | t (a b c : D8)

noncomputable def Pt.put (d : Pt) (v : AV) (e : E) : E := Pt.rec (motive := fun _ => E) e (fun a b c => E.put a b c v e) d

def ptOf (n : Nat) : Option Nat → Option Pt
  | none => some .no
  | some t => if t < n ∧ t < 512 then some (.t (dig (t / 64)) (dig (t / 8)) (dig t)) else none

theorem ptOf_put {n : Nat} {d : Option Nat} {p : Pt} {E0 : E} {e : List AV} (h : ptOf n d = some p) (hn : n ≤ 512) (hR : Rel E0 e n) (v : AV) : Rel (p.put v E0) (ePut e d v) n := by
  cases d with
  | none => simp only [ptOf] at h; injection h with h; subst h; exact hR
  | some t =>
    simp only [ptOf] at h
    split at h
    · rename_i hl
      injection h with h; subst h
      refine ⟨by simp [ePut, hR.len], fun u hu => ?_⟩
      show (e.set t v)[u]? = some (E.at (E.put (dig (t / 64)) (dig (t / 8)) (dig t) v E0) u)
      rw [E.at_put _ _ hl.2 (by omega), List.getElem?_set]
      by_cases htu : t = u
      · subst htu; simp [hR.len, hl.1]
      · rw [if_neg htu, if_neg htu]; exact hR.at_ u hu
    · cases h

/-! ### Values, by what they are -/
section
variable {β : Type}
noncomputable def AV.onBool (z : β) (t f : β) (x : AV) : β :=
  AV.rec (motive_1 := fun _ => β) (motive_2 := fun _ => PUnit) (fun b => Bool.rec (motive := fun _ => β) f t b) (fun _ _ => z) (fun _ => z) z z z z z (fun _ _ => z) (fun _ _ _ _ _ _ => z) (fun _ => z) (fun _ _ => z) (fun _ _ _ => z) (fun _ _ _ _ _ => z) (fun _ _ _ => z) (fun _ _ _ => z) (fun _ _ => z) z ⟨⟩ (fun _ _ _ _ => ⟨⟩) x
noncomputable def AV.onInt (z : β) (k : IntKind → Int → β) (x : AV) : β :=
  AV.rec (motive_1 := fun _ => β) (motive_2 := fun _ => PUnit) (fun _ => z) k (fun _ => z) z z z z z (fun _ _ => z) (fun _ _ _ _ _ _ => z) (fun _ => z) (fun _ _ => z) (fun _ _ _ => z) (fun _ _ _ _ _ => z) (fun _ _ _ => z) (fun _ _ _ => z) (fun _ _ => z) z ⟨⟩ (fun _ _ _ _ => ⟨⟩) x
noncomputable def AV.onPtr (z : β) (k : Nat → Nat → β) (x : AV) : β :=
  AV.rec (motive_1 := fun _ => β) (motive_2 := fun _ => PUnit) (fun _ => z) (fun _ _ => z) (fun _ => z) z z z z z k (fun _ _ _ _ _ _ => z) (fun _ => z) (fun _ _ => z) (fun _ _ _ => z) (fun _ _ _ _ _ => z) (fun _ _ _ => z) (fun _ _ _ => z) (fun _ _ => z) z ⟨⟩ (fun _ _ _ _ => ⟨⟩) x
noncomputable def AV.onSl (z : β) (k : Nat → Nat → Nat → Nat → Nat → Bool → β) (x : AV) : β :=
  AV.rec (motive_1 := fun _ => β) (motive_2 := fun _ => PUnit) (fun _ => z) (fun _ _ => z) (fun _ => z) z z z z z (fun _ _ => z) k (fun _ => z) (fun _ _ => z) (fun _ _ _ => z) (fun _ _ _ _ _ => z) (fun _ _ _ => z) (fun _ _ _ => z) (fun _ _ => z) z ⟨⟩ (fun _ _ _ _ => ⟨⟩) x
noncomputable def AV.onTup (z : β) (k : List AV → β) (x : AV) : β :=
  AV.rec (motive_1 := fun _ => β) (motive_2 := fun _ => PUnit) (fun _ => z) (fun _ _ => z) (fun _ => z) z z z z z (fun _ _ => z) (fun _ _ _ _ _ _ => z) (fun _ => z) (fun _ _ => z) (fun _ _ _ => z) (fun _ _ _ _ _ => z) (fun _ _ _ => z) (fun _ _ _ => z) (fun vs _ => k vs) z ⟨⟩ (fun _ _ _ _ => ⟨⟩) x
noncomputable def AV.onAgg (z : β) (k : Nat → List AV → β) (x : AV) : β :=
  AV.rec (motive_1 := fun _ => β) (motive_2 := fun _ => PUnit) (fun _ => z) (fun _ _ => z) (fun _ => z) z z z z z (fun _ _ => z) (fun _ _ _ _ _ _ => z) (fun _ => z) (fun _ _ => z) (fun _ _ _ => z) (fun _ _ _ _ _ => z) (fun _ _ _ => z) (fun n vs _ => k n vs) (fun _ _ => z) z ⟨⟩ (fun _ _ _ _ => ⟨⟩) x
end
end Go.Ab
/-! Code for quick runs. -/
namespace Go.Ab

/-! ### Numbers -/
noncomputable def knum (k : IntKind) : Nat := IntKind.rec (motive := fun _ => Nat) (nat_lit 0) (nat_lit 1) (nat_lit 2) (nat_lit 3) (nat_lit 4) (nat_lit 5) (nat_lit 6) (nat_lit 7) k
noncomputable def kmax (k : IntKind) : Nat := IntKind.rec (motive := fun _ => Nat) (nat_lit 127) (nat_lit 32767) (nat_lit 2147483647) (nat_lit 9223372036854775807) (nat_lit 255) (nat_lit 65535) (nat_lit 4294967295) (nat_lit 18446744073709551615) k
theorem knum_eq {a b : IntKind} (h : Nat.beq (knum a) (knum b) = true) : a = b := by cases a <;> cases b <;> first | rfl | cases h
theorem wrapN_small (k : IntKind) (n : Nat) (h : n ≤ kmax k) : k.wrap (n : Int) = n := by
  cases k <;> simp only [kmax] at h <;> simp [IntKind.wrap, IntKind.bits, IntKind.signed] <;> omega

/-- Wrapped, if it must be. -/
noncomputable def wrapN (k : IntKind) (n : Nat) : Int := Bool.rec (motive := fun _ => Int) (k.wrap (Int.ofNat n)) (Int.ofNat n) (Nat.ble n (kmax k))
theorem wrapN_eq (k : IntKind) (n : Nat) : wrapN k n = k.wrap (n : Int) := by
  unfold wrapN
  cases hb : Nat.ble n (kmax k) with
  | false => rfl
  | true => exact (wrapN_small k n (Nat.le_of_ble_eq_true hb)).symm

noncomputable def onNN {β : Type} (x y : Int) (f : Nat → Nat → β) (z : β) : β := Int.rec (motive := fun _ => β) (fun a => Int.rec (motive := fun _ => β) (fun b => f a b) (fun _ => z) y) (fun _ => z) x

noncomputable def iAdd (k : IntKind) (x y : Int) : Option AV := onNN x y (fun a b => some (.int k (wrapN k (Nat.add a b)))) (aBinInt .add k x y)
noncomputable def iSub (k : IntKind) (x y : Int) : Option AV := onNN x y (fun a b => Bool.rec (motive := fun _ => Option AV) (aBinInt .sub k x y) (some (.int k (wrapN k (Nat.sub a b)))) (Nat.ble b a)) (aBinInt .sub k x y)
noncomputable def iMul (k : IntKind) (x y : Int) : Option AV := onNN x y (fun a b => some (.int k (wrapN k (Nat.mul a b)))) (aBinInt .mul k x y)
noncomputable def iQuo (k : IntKind) (x y : Int) : Option AV := onNN x y (fun a b => Bool.rec (motive := fun _ => Option AV) (some (.int k (wrapN k (Nat.div a b)))) none (Nat.beq b (nat_lit 0))) (aBinInt .quo k x y)
noncomputable def iRem (k : IntKind) (x y : Int) : Option AV := onNN x y (fun a b => Bool.rec (motive := fun _ => Option AV) (some (.int k (Int.ofNat (Nat.mod a b)))) none (Nat.beq b (nat_lit 0))) (aBinInt .rem k x y)
noncomputable def iEq (x y : Int) : Option AV := onNN x y (fun a b => some (.bool (Nat.beq a b))) (aCmpInt .eql x y)
noncomputable def iNe (x y : Int) : Option AV := onNN x y (fun a b => some (.bool (Bool.rec (motive := fun _ => Bool) true false (Nat.beq a b)))) (aCmpInt .neq x y)
noncomputable def iLt (x y : Int) : Option AV := onNN x y (fun a b => some (.bool (Nat.ble (Nat.succ a) b))) (aCmpInt .lss x y)
noncomputable def iLe (x y : Int) : Option AV := onNN x y (fun a b => some (.bool (Nat.ble a b))) (aCmpInt .leq x y)
noncomputable def iGt (x y : Int) : Option AV := onNN x y (fun a b => some (.bool (Nat.ble (Nat.succ b) a))) (aCmpInt .gtr x y)
noncomputable def iGe (x y : Int) : Option AV := onNN x y (fun a b => some (.bool (Nat.ble b a))) (aCmpInt .geq x y)

inductive IB where
  | add | sub | mul | quo | rem | eql | neq | lss | leq | gtr | geq

def IB.op : IB → BinOp
  | .add => .add | .sub => .sub | .mul => .mul | .quo => .quo | .rem => .rem | .eql => .eql | .neq => .neq | .lss => .lss | .leq => .leq | .gtr => .gtr | .geq => .geq

noncomputable def IB.run (o : IB) (k : IntKind) (x y : Int) : Option AV :=
  IB.rec (motive := fun _ => IntKind → Int → Int → Option AV) iAdd iSub iMul iQuo iRem (fun _ => iEq) (fun _ => iNe) (fun _ => iLt) (fun _ => iLe) (fun _ => iGt) (fun _ => iGe) o k x y

theorem IB.run_eq (o : IB) (k : IntKind) (x y : Int) {v : AV} (h : o.run k x y = some v) : aBinInt o.op k x y = some v := by
  have W := wrapN_eq
  cases o <;> cases x <;> cases y <;> first
    | exact h
    | skip
  all_goals rename_i a b
  · exact (congrArg (fun z => some (AV.int k z)) (W k (a + b)).symm : aBinInt .add k a b = _).trans h
  · change Bool.rec (motive := fun _ => Option AV) (aBinInt .sub k a b) (some (.int k (wrapN k (Nat.sub a b)))) (Nat.ble b a) = some v at h
    cases hb : Nat.ble b a with
    | false => rw [hb] at h; exact h
    | true =>
      rw [hb] at h
      have hle := Nat.le_of_ble_eq_true hb
      refine Eq.trans ?_ h
      show some (AV.int k (k.wrap ((a : Int) - b))) = some (AV.int k (wrapN k (a - b)))
      rw [W, Int.ofNat_sub hle]
  · refine Eq.trans ?_ h
    show some (AV.int k (k.wrap ((a : Int) * b))) = some (AV.int k (wrapN k (a * b)))
    rw [W, Int.natCast_mul]
  · change Bool.rec (motive := fun _ => Option AV) (some (.int k (wrapN k (Nat.div a b)))) none (Nat.beq b 0) = some v at h
    cases hb : Nat.beq b 0 with
    | true => rw [hb] at h; cases h
    | false =>
      rw [hb] at h
      have hne : ¬ ((b : Int) = 0) := by
        intro e0
        have : b = 0 := by omega
        subst this; cases hb
      refine Eq.trans ?_ h
      show (if (b : Int) = 0 then none else some (AV.int k (k.wrap ((a : Int).tdiv b)))) = some (AV.int k (wrapN k (a / b)))
      rw [if_neg hne, W]; rfl
  · change Bool.rec (motive := fun _ => Option AV) (some (.int k (Int.ofNat (Nat.mod a b)))) none (Nat.beq b 0) = some v at h
    cases hb : Nat.beq b 0 with
    | true => rw [hb] at h; cases h
    | false =>
      rw [hb] at h
      have hne : ¬ ((b : Int) = 0) := by
        intro e0
        have : b = 0 := by omega
        subst this; cases hb
      refine Eq.trans ?_ h
      show (if (b : Int) = 0 then none else some (AV.int k ((a : Int).tmod b))) = some (AV.int k (Int.ofNat (a % b)))
      rw [if_neg hne]; rfl
  · refine Eq.trans ?_ h
    show some (AV.bool ((a : Int) == b)) = some (AV.bool (Nat.beq a b))
    congr 2
    cases hb : Nat.beq a b with
    | true => simp [Nat.eq_of_beq_eq_true hb]
    | false => have := Nat.ne_of_beq_eq_false hb; simp; omega
  · refine Eq.trans ?_ h
    show some (AV.bool ((a : Int) != b)) = some (AV.bool (Bool.rec (motive := fun _ => Bool) true false (Nat.beq a b)))
    congr 2
    cases hb : Nat.beq a b with
    | true => simp [Nat.eq_of_beq_eq_true hb]
    | false => have := Nat.ne_of_beq_eq_false hb; simp; omega
  all_goals
    refine Eq.trans ?_ h
    simp only [IB.op, aBinInt, aCmpInt, IB.run, iLt, iLe, iGt, iGe, onNN]
    congr 2
    rw [Bool.eq_iff_iff]
    simp [Nat.ble_eq]
    try omega

/-! ### Light operations -/
inductive MV where
  | mov (x : Rd)
  | pick (c a b : Rd)
  | load1 (x : Rd)
  | load (t : TypeId) (x : Rd)
  | nilc (x : Rd)
  | ibin (o : IB) (op : BinOp) (t : TypeId) (cst : Bool) (x y : Rd)
  | bin (op : BinOp) (t : TypeId) (cst : Bool) (x y : Rd)
  | un (op : UnOp) (x : Rd)
  | conv (s d : TypeId) (x : Rd)
  | mkif (t : TypeId) (x : Rd)
  | slice (t : TypeId) (x : Rd) (lo hi mx : Option Rd)
  | shift (off : Nat) (x : Rd)
  | field (s : TypeId) (x : Rd) (f : Nat)
  | iaddr (t : TypeId) (x i : Rd)
  | index (t : TypeId) (x i : Rd)
  | ext (x : Rd) (i : Nat)
  | len (t : TypeId) (x : Rd)
  | gen (n : Nat) (op : Op)

/-- All slots. -/
noncomputable def E.toL (e : E) (m k : Nat) : List AV := Nat.rec (motive := fun _ => Nat → List AV) (fun _ => []) (fun _ ih k => e.at k :: ih (Nat.add k (nat_lit 1))) m k

theorem E.toL_get (e : E) : ∀ (m k t : Nat), t < m → (e.toL m k)[t]? = some (e.at (k + t))
  | 0, _, _, h => by omega
  | m + 1, k, 0, _ => rfl
  | m + 1, k, t + 1, h => by
    have := E.toL_get e m (k + 1) t (by omega)
    rw [show k + (t + 1) = k + 1 + t by omega]
    exact this
theorem E.toL_len (e : E) : ∀ (m k : Nat), (e.toL m k).length = m
  | 0, _ => rfl
  | m + 1, k => congrArg (· + 1) (E.toL_len e m (k + 1))
theorem Rel.toL {E0 : E} {e : List AV} {n : Nat} (h : Rel E0 e n) : E0.toL n 0 = e := by
  apply List.ext_getElem?
  intro t
  by_cases ht : t < n
  · rw [E.toL_get _ _ _ _ ht, h.at_ t ht, Nat.zero_add]
  · rw [List.getElem?_eq_none (by rw [E.toL_len]; omega), List.getElem?_eq_none (by rw [h.len]; omega)]

noncomputable def getN {α : Type} (xs : List α) : Nat → Option α :=
  List.rec (motive := fun _ => Nat → Option α) (fun _ => none) (fun x _ ih i => Nat.rec (motive := fun _ => Option α) (some x) (fun j _ => ih j) i) xs
theorem getN_eq {α : Type} : ∀ (xs : List α) (i : Nat), getN xs i = xs[i]?
  | [], _ => rfl
  | _ :: _, 0 => rfl
  | _ :: xs, i + 1 => (getN_eq xs i).trans (by simp)

noncomputable def vPick (c a b : Rd) (e : E) (_ : Heap) : Option AV := AV.onBool none (some (a.rd e)) (some (b.rd e)) (c.rd e)

noncomputable def aoRow {β : Type} (z : β) (f : Bool → Cs → β) (x : AO) : β := AO.rec (motive := fun _ => β) f (fun _ _ => z) (fun _ _ _ _ => z) (fun _ => z) (fun _ => z) x
noncomputable def hRow {β : Type} (z : β) (f : Bool → Cs → β) (h : Heap) (id : Nat) : β :=
  Heap.rec (motive := fun _ => β) (fun _ tr => Option.rec (motive := fun _ => β) z (fun x => Option.rec (motive := fun _ => β) z (aoRow z f) x) (Tr.get tr id)) h
theorem hRow_eq {β : Type} {f : Bool → Cs → Option β} {h : Heap} {id : Nat} {v : β} (hq : hRow none f h id = some v) : ∃ s cs, h.get id = some (some (.row s cs)) ∧ f s cs = some v := by
  have hg : h.get id = h.tr.get id := rfl
  rw [hg]
  have : hRow none f h id = Option.rec (motive := fun _ => Option β) none (fun x => Option.rec (motive := fun _ => Option β) none (aoRow none f) x) (h.tr.get id) := rfl
  rw [this] at hq
  cases hx : h.tr.get id with
  | none => rw [hx] at hq; cases hq
  | some x =>
    cases x with
    | none => rw [hx] at hq; cases hq
    | some o => cases o with
      | row s cs => rw [hx] at hq; exact ⟨s, cs, rfl, hq⟩
      | _ => rw [hx] at hq; cases hq

noncomputable def csGet (cs : Cs) (i : Nat) : Option AV :=
  Cs.rec (motive := fun _ => Option AV) (fun n xs => Bool.rec (motive := fun _ => Option AV) none (Option.rec (motive := fun _ => Option AV) (some .any) some (getN xs i)) (Nat.ble (Nat.succ i) n)) (fun m zl z os => Cs.get? (.ov m zl z os) i) cs
theorem csGet_eq (cs : Cs) (i : Nat) : csGet cs i = cs.get? i := by
  cases cs with
  | ov m zl z os => rfl
  | lst n xs =>
    show Bool.rec (motive := fun _ => Option AV) none (Option.rec (motive := fun _ => Option AV) (some .any) some (getN xs i)) (Nat.ble (Nat.succ i) n) = if i < n then some (xs.getD i .any) else none
    cases hb : Nat.ble (Nat.succ i) n with
    | true =>
      rw [if_pos (show i < n from Nat.le_of_ble_eq_true hb), getN_eq, List.getD_eq_getElem?_getD]
      cases xs[i]? <;> rfl
    | false => rw [if_neg]; intro hl; rw [Nat.ble_eq_true_of_le hl] at hb; cases hb

noncomputable def vLoad1 (x : Rd) (e : E) (h : Heap) : Option AV := AV.onPtr (cellOf h (x.rd e)) (fun id off => hRow none (fun _ cs => csGet cs off) h id) (x.rd e)

noncomputable def vIbin (T : Tab) (o : IB) (op : BinOp) (t : TypeId) (cst : Bool) (x y : Rd) (e : E) (h : Heap) : Option AV :=
  AV.onInt (aBin T h op t cst (x.rd e) (y.rd e)) (fun k a => AV.onInt none (fun k' b => Bool.rec (motive := fun _ => Option AV) none (o.run k a b) (Nat.beq (knum k) (knum k'))) (y.rd e)) (x.rd e)

noncomputable def vShift (off : Nat) (x : Rd) (e : E) (_ : Heap) : Option AV := AV.onPtr ((x.rd e).shift off) (fun id o => some (.ptr id (Nat.add o off))) (x.rd e)
noncomputable def vExt (x : Rd) (i : Nat) (e : E) (_ : Heap) : Option AV := AV.onTup none (fun vs => getN vs i) (x.rd e)
noncomputable def vNilc (x : Rd) (e : E) (_ : Heap) : Option AV := AV.onPtr (aNil (x.rd e)) (fun id o => some (.ptr id o)) (x.rd e)
noncomputable def rdO (x : Option Rd) (e : E) : Option AV := Option.rec (motive := fun _ => Option AV) none (fun r => some (r.rd e)) x

noncomputable def MV.val (T : Tab) (m : MV) : E → Heap → Option AV :=
  MV.rec (motive := fun _ => E → Heap → Option AV)
    (fun x e _ => some (x.rd e)) vPick vLoad1 (fun t x e h => aLoad T h t (x.rd e)) vNilc (vIbin T)
    (fun op t cst x y e h => aBin T h op t cst (x.rd e) (y.rd e))
    (fun op x e _ => aUn op (x.rd e))
    (fun s d x e h => aConvert T h s d (x.rd e))
    (fun t x e _ => some (.ifc t (x.rd e)))
    (fun t x lo hi mx e h => aSlice T h t (x.rd e) (rdO lo e) (rdO hi e) (rdO mx e))
    vShift
    (fun s x f e _ => aField T s (x.rd e) f)
    (fun t x i e _ => aIndexAddr T t (x.rd e) (i.rd e))
    (fun t x i e _ => aIndex T t (x.rd e) (i.rd e))
    vExt
    (fun t x e h => aLen T h t (x.rd e))
    (fun n op e h => light T (e.toL n (nat_lit 0)) h op) m

def ibOf : BinOp → Option IB
  | .add => some .add | .sub => some .sub | .mul => some .mul | .quo => some .quo | .rem => some .rem | .eql => some .eql | .neq => some .neq | .lss => some .lss | .leq => some .leq | .gtr => some .gtr | .geq => some .geq
  | _ => none

def rdoOf (n : Nat) : Option Operand → Option (Option Rd)
  | none => some none
  | some x => (rdOf n x).map some

def mvOf (T : Tab) (n : Nat) (op : Op) : Option MV :=
  match op with
  | .move x | .assign x => (rdOf n x).map .mov
  | .pick c a b => match rdOf n c, rdOf n a, rdOf n b with
    | some c, some a, some b => some (.pick c a b)
    | _, _, _ => none
  | .load t a => match rdOf n a, T.und t, T.size t with
    | some a, some d, some _ => if isAggD d then some (.load t a) else some (.load1 a)
    | _, _, _ => none
  | .nilCheck x => (rdOf n x).map .nilc
  | .binOp op t x y _ => match rdOf n x, rdOf n y with
    | some a, some b => match ibOf op, T.und t with
      | some o, some (.int _) => some (.ibin o op t (isNilConst x || isNilConst y) a b)
      | _, _ => some (.bin op t (isNilConst x || isNilConst y) a b)
    | _, _ => none
  | .unOp op _ x => (rdOf n x).map (.un op)
  | .convert src dst x => (rdOf n x).map (.conv src dst)
  | .makeInterface t x => match T.und t, rdOf n x with
    | some (.interface _), _ => none
    | some _, some a => some (.mkif t a)
    | _, _ => none
  | .slice t x lo hi mx => match rdOf n x, rdoOf n lo, rdoOf n hi, rdoOf n mx with
    | some a, some l, some u, some m => some (.slice t a l u m)
    | _, _, _, _ => none
  | .fieldAddr s x f => match T.und s, rdOf n x with
    | some (.struct fields), some a => match fields[f]? with
      | some fd => match T.size fd.type with
        | some (_ + 1) => some (.shift fd.offset a)
        | _ => none
      | none => none
    | _, _ => none
  | .field s x f => (rdOf n x).map fun a => .field s a f
  | .indexAddr t x i => match rdOf n x, rdOf n i with
    | some a, some b => some (.iaddr t a b)
    | _, _ => none
  | .index t x i => match rdOf n x, rdOf n i with
    | some a, some b => some (.index t a b)
    | _, _ => none
  | .extract x i => (rdOf n x).map fun a => .ext a i
  | op => some (.gen n op)

section
variable {T : Tab} {n : Nat} {E0 : E} {e : List AV} {h : Heap}

theorem rdoOf_optd {x : Option Operand} {r : Option Rd} (hq : rdoOf n x = some r) (hR : Rel E0 e n) : optd e x = some (rdO r E0) := by
  cases x with
  | none => simp only [rdoOf] at hq; injection hq with hq; subst hq; rfl
  | some x =>
    simp only [rdoOf, Option.map_eq_some_iff] at hq
    obtain ⟨a, h1, rfl⟩ := hq
    simp only [optd, rdOf_opd h1 hR, Option.map_some]; rfl

theorem mv_sound {op : Op} {m : MV} (hq : mvOf T n op = some m) (hR : Rel E0 e n) {v : AV} (hv : m.val T E0 h = some v) : light T e h op = some v := by
  unfold mvOf at hq
  split at hq
  · simp only [Option.map_eq_some_iff] at hq
    obtain ⟨a, h1, rfl⟩ := hq
    simp only [light, rdOf_opd h1 hR]; exact hv
  · simp only [Option.map_eq_some_iff] at hq
    obtain ⟨a, h1, rfl⟩ := hq
    simp only [light, rdOf_opd h1 hR]; exact hv
  · split at hq
    · rename_i c a b h1 h2 h3
      injection hq with hq; subst hq
      simp only [light, rdOf_opd h1 hR, rdOf_opd h2 hR, rdOf_opd h3 hR]
      change AV.onBool none (some (a.rd E0)) (some (b.rd E0)) (c.rd E0) = some v at hv
      cases hc : c.rd E0 with
      | bool t => rw [hc] at hv; cases t <;> exact hv
      | _ => rw [hc] at hv; cases hv
    · cases hq
  · split at hq
    · rename_i a d k h1 h2 h3
      split at hq
      · injection hq with hq; subst hq
        simp only [light, rdOf_opd h1 hR]; exact hv
      · rename_i hagg
        injection hq with hq; subst hq
        simp only [light, rdOf_opd h1 hR, Option.bind_some, aLoad, h2, h3, hagg, Bool.false_eq_true, if_false]
        change AV.onPtr (cellOf h (a.rd E0)) (fun id off => hRow none (fun _ cs => csGet cs off) h id) (a.rd E0) = some v at hv
        cases hc : a.rd E0 with
        | ptr id off =>
          rw [hc] at hv
          obtain ⟨s, cs, g1, g2⟩ := hRow_eq (show hRow none (fun _ cs => csGet cs off) h id = some v from hv)
          rw [csGet_eq] at g2
          simp only [cellOf, rowOf, g1, Option.bind_some, g2]
        | _ => rw [hc] at hv; exact hv
    · cases hq
  · simp only [Option.map_eq_some_iff] at hq
    obtain ⟨a, h1, rfl⟩ := hq
    simp only [light, rdOf_opd h1 hR, Option.bind_some]
    change AV.onPtr (aNil (a.rd E0)) (fun id o => some (.ptr id o)) (a.rd E0) = some v at hv
    cases hc : a.rd E0 <;> rw [hc] at hv <;> exact hv
  · rename_i op t x y _
    split at hq
    · rename_i a b h1 h2
      have L : light T e h (.binOp op t x y ‹_›) = aBin T h op t (isNilConst x || isNilConst y) (a.rd E0) (b.rd E0) := by
        simp only [light, rdOf_opd h1 hR, rdOf_opd h2 hR]
      split at hq
      · rename_i o k h3 h4
        injection hq with hq; subst hq
        rw [L]
        change AV.onInt (aBin T h op t (isNilConst x || isNilConst y) (a.rd E0) (b.rd E0)) (fun k a => AV.onInt none (fun k' b => Bool.rec (motive := fun _ => Option AV) none (o.run k a b) (Nat.beq (knum k) (knum k'))) (b.rd E0)) (a.rd E0) = some v at hv
        cases hc : a.rd E0 with
        | int k1 n1 =>
          rw [hc] at hv
          cases hd : b.rd E0 with
          | int k2 n2 =>
            rw [hd] at hv
            change Bool.rec (motive := fun _ => Option AV) none (o.run k1 n1 n2) (Nat.beq (knum k1) (knum k2)) = some v at hv
            cases hb : Nat.beq (knum k1) (knum k2) with
            | false => rw [hb] at hv; cases hv
            | true =>
              rw [hb] at hv
              have hk := knum_eq hb
              subst hk
              have := IB.run_eq o k1 n1 n2 hv
              cases op <;> simp only [ibOf] at h3 <;> first | (cases h3; done) | (injection h3 with h3; subst h3; simp only [aBin, if_true]; exact this)
          | _ => rw [hd] at hv; cases hv
        | _ => rw [hc] at hv; exact hv
      · injection hq with hq; subst hq
        rw [L]; exact hv
    · cases hq
  · simp only [Option.map_eq_some_iff] at hq
    obtain ⟨a, h1, rfl⟩ := hq
    simp only [light, rdOf_opd h1 hR]; exact hv
  · simp only [Option.map_eq_some_iff] at hq
    obtain ⟨a, h1, rfl⟩ := hq
    simp only [light, rdOf_opd h1 hR]; exact hv
  · split at hq
    · cases hq
    · rename_i d a hni h1 h2
      injection hq with hq; subst hq
      simp only [light, h1, rdOf_opd h2 hR, Option.map_some]
      exact hv
    · cases hq
  · split at hq
    · rename_i a l u m h1 h2 h3 h4
      injection hq with hq; subst hq
      simp only [light, rdOf_opd h1 hR, rdoOf_optd h2 hR, rdoOf_optd h3 hR, rdoOf_optd h4 hR]; exact hv
    · cases hq
  · split at hq
    · rename_i fields a h1 h2
      split at hq
      · rename_i fd h3
        split at hq
        · rename_i k h4
          injection hq with hq; subst hq
          simp only [light, rdOf_opd h2 hR, Option.bind_some, aFieldAddr, h1, h3, h4]
          change AV.onPtr ((a.rd E0).shift fd.offset) (fun id o => some (.ptr id (Nat.add o fd.offset))) (a.rd E0) = some v at hv
          cases hc : a.rd E0 <;> rw [hc] at hv <;> exact hv
        · cases hq
      · cases hq
    · cases hq
  · simp only [Option.map_eq_some_iff] at hq
    obtain ⟨a, h1, rfl⟩ := hq
    simp only [light, rdOf_opd h1 hR]; exact hv
  · split at hq
    · rename_i a b h1 h2
      injection hq with hq; subst hq
      simp only [light, rdOf_opd h1 hR, rdOf_opd h2 hR]; exact hv
    · cases hq
  · split at hq
    · rename_i a b h1 h2
      injection hq with hq; subst hq
      simp only [light, rdOf_opd h1 hR, rdOf_opd h2 hR]; exact hv
    · cases hq
  · simp only [Option.map_eq_some_iff] at hq
    obtain ⟨a, h1, rfl⟩ := hq
    simp only [light, rdOf_opd h1 hR]
    change AV.onTup none (fun vs => getN vs _) (a.rd E0) = some v at hv
    cases hc : a.rd E0 with
    | tup vs => rw [hc] at hv; exact (getN_eq vs _).symm.trans hv
    | _ => rw [hc] at hv; cases hv
  · injection hq with hq; subst hq
    change light T (E0.toL n 0) h op = some v at hv
    rw [hR.toL] at hv; exact hv

end
end Go.Ab
/-! Regions for quick runs. -/
namespace Go.Ab

/-! ### A store of one cell -/
noncomputable def setN {α : Type} (v : α) (xs : List α) : Nat → Option (List α) :=
  List.rec (motive := fun _ => Nat → Option (List α)) (fun _ => none)
    (fun x xs ih i => Nat.rec (motive := fun _ => Option (List α)) (some (v :: xs)) (fun j _ => Option.rec (motive := fun _ => Option (List α)) none (fun ys => some (x :: ys)) (ih j)) i) xs

theorem setN_eq {α : Type} {v : α} : ∀ {xs : List α} {i : Nat} {ys : List α}, setN v xs i = some ys → i < xs.length ∧ ys = xs.set i v
  | [], i, ys, h => by cases h
  | x :: xs, 0, ys, h => by
    injection h with h; subst h; exact ⟨by simp, rfl⟩
  | x :: xs, i + 1, ys, h => by
    change Option.rec (motive := fun _ => Option (List α)) none (fun ys => some (x :: ys)) (setN v xs i) = some ys at h
    cases hs : setN v xs i with
    | none => rw [hs] at h; cases h
    | some zs =>
      rw [hs] at h
      injection h with h; subst h
      obtain ⟨h1, h2⟩ := setN_eq hs
      exact ⟨by simpa using h1, by rw [h2]; rfl⟩

theorem pad_take : ∀ (n : Nat) (xs : List AV), n ≤ xs.length → pad n xs = xs.take n
  | 0, _, _ => by simp [pad]
  | n + 1, [], h => by simp at h
  | n + 1, x :: xs, h => by simp [pad, pad_take n xs (by simpa using h)]

noncomputable def csSet (v : AV) (cs : Cs) (i : Nat) : Option Cs :=
  Cs.rec (motive := fun _ => Option Cs)
    (fun n xs => Bool.rec (motive := fun _ => Option Cs) (Cs.write (.lst n xs) i 1 [v])
      (Bool.rec (motive := fun _ => Option Cs) none (Option.rec (motive := fun _ => Option Cs) none (fun ys => some (.lst n ys)) (setN v xs i)) (Nat.ble (Nat.succ i) n)) (Nat.ble (nat_lit 2) n))
    (fun m zl z os => Cs.write (.ov m zl z os) i 1 [v]) cs

theorem csSet_eq {v : AV} {cs : Cs} {i : Nat} {c : Cs} (h : csSet v cs i = some c) : cs.write i 1 [v] = some c := by
  cases cs with
  | ov m zl z os => exact h
  | lst n xs =>
    change Bool.rec (motive := fun _ => Option Cs) (Cs.write (.lst n xs) i 1 [v])
      (Bool.rec (motive := fun _ => Option Cs) none (Option.rec (motive := fun _ => Option Cs) none (fun ys => some (.lst n ys)) (setN v xs i)) (Nat.ble (Nat.succ i) n)) (Nat.ble 2 n) = some c at h
    cases hb : Nat.ble 2 n with
    | false => rw [hb] at h; exact h
    | true =>
      rw [hb] at h
      change Bool.rec (motive := fun _ => Option Cs) none (Option.rec (motive := fun _ => Option Cs) none (fun ys => some (.lst n ys)) (setN v xs i)) (Nat.ble (Nat.succ i) n) = some c at h
      cases hl : Nat.ble (Nat.succ i) n with
      | false => rw [hl] at h; cases h
      | true =>
        rw [hl] at h
        change Option.rec (motive := fun _ => Option Cs) none (fun ys => some (.lst n ys)) (setN v xs i) = some c at h
        cases hs : setN v xs i with
        | none => rw [hs] at h; cases h
        | some ys =>
          rw [hs] at h
          injection h with h; subst h
          obtain ⟨h1, rfl⟩ := setN_eq hs
          have h2 : 2 ≤ n := Nat.le_of_ble_eq_true hb
          have h3 : i + 1 ≤ n := Nat.le_of_ble_eq_true hl
          simp only [Cs.write]
          rw [if_pos h3, if_neg (by omega), pad_take _ _ (by omega)]
          congr 2
          rw [List.set_eq_take_append_cons_drop, if_pos h1, List.append_assoc]; rfl

noncomputable def AV.one (x : AV) : Bool :=
  AV.rec (motive_1 := fun _ => Bool) (motive_2 := fun _ => PUnit) (fun _ => true) (fun _ _ => true) (fun _ => true) true true true true true (fun _ _ => true) (fun _ _ _ _ _ _ => true) (fun _ => true) (fun _ _ => true) (fun _ _ _ => true) (fun _ _ _ _ _ => true) (fun _ _ _ => true) (fun _ _ _ => false) (fun _ _ => false) false ⟨⟩ (fun _ _ _ _ => ⟨⟩) x
theorem AV.one_spec {x : AV} (h : x.one = true) : x.cells = some [x] ∧ x.width = 1 := by
  cases x <;> first | exact ⟨rfl, rfl⟩ | cases h

noncomputable def vStore1 (T : Tab) (t : TypeId) (h : Heap) (x v : AV) : Option Heap :=
  Bool.rec (motive := fun _ => Option Heap) (wrStore T h t x v)
    (AV.onPtr none (fun i off => hRow none (fun s cs => Option.rec (motive := fun _ => Option Heap) none (fun c => some (h.set i (some (.row s c)))) (csSet v cs off)) h i) x) (AV.one v)

theorem vStore1_eq {T : Tab} {t : TypeId} {h : Heap} {x v : AV} {h' : Heap} (ht : T.size t = some 1) (hq : vStore1 T t h x v = some h') : wrStore T h t x v = some h' := by
  unfold vStore1 at hq
  cases ho : AV.one v with
  | false => rw [ho] at hq; exact hq
  | true =>
    rw [ho] at hq
    obtain ⟨h1, h2⟩ := AV.one_spec ho
    cases x with
    | ptr i off =>
      obtain ⟨s, cs, g1, g2⟩ := hRow_eq (show hRow none (fun s cs => Option.rec (motive := fun _ => Option Heap) none (fun c => some (h.set i (some (.row s c)))) (csSet v cs off)) h i = some h' from hq)
      cases hc : csSet v cs off with
      | none => rw [hc] at g2; cases g2
      | some c =>
        rw [hc] at g2
        injection g2 with g2; subst g2
        simp only [wrStore, h1, ht, h2, g1, csSet_eq hc, if_true, Option.map_some]
    | _ => cases hq

/-! ### The operations of a region -/
structure MLk where
  gd : Option (Rd × Bool)
  dst : Option Rd
  m : MV

inductive MC where
  | done
  | mv (x : Rd) (d : Pt) (r : MC)
  | v0 (m : MV) (d : Pt) (r : MC)
  | v1 (m : MV) (d : Pt) (r : MC)
  | mk (i n : Nat) (op : Op) (d : Pt) (r : MC)
  | mk6 (i n : Nat) (op : Op) (d : Pt) (r : MC)
  | st1 (t : TypeId) (x v : Rd) (d : Pt) (r : MC)
  | st (t : TypeId) (x v : Rd) (d : Pt) (r : MC)
  | app (i : Nat) (st xt : TypeId) (s x : Rd) (d : Pt) (r : MC)
  | wr (i n : Nat) (op : Op) (d : Pt) (r : MC)
  | nx (n : Nat) (op : Op) (d : Pt) (r : MC)
  | cs (f : FuncId) (xs : List Rd) (d : Pt) (r : MC)
  | cd (i n : Nat) (op : Op) (d : Pt) (r : MC)
  | gd (s : Rd) (want : Bool) (one : MC) (d : Pt) (r : MC)
  | rc (l : List MLk) (r : MC)

abbrev MK := Nat → E → Heap → (E → Heap → Bool) → Bool

noncomputable def oB {α : Type} (f : α → Bool) (x : Option α) : Bool := Option.rec (motive := fun _ => Bool) false f x
theorem oB_some {α : Type} {f : α → Bool} {x : Option α} (h : oB f x = true) : ∃ v, x = some v ∧ f v = true := by
  cases x with
  | none => cases h
  | some v => exact ⟨v, rfl, h⟩

noncomputable def rMv (x : Rd) (d : Pt) (_ : MC) (ih : MK) : MK := fun base e h K => ih base (Pt.put d (Rd.rd x e) e) h K
noncomputable def rV0 (T : Tab) (m : MV) (d : Pt) (_ : MC) (ih : MK) : MK := fun base e h K => oB (fun v => ih base (Pt.put d v e) h K) (m.val T e Heap.empty)
noncomputable def rV1 (T : Tab) (m : MV) (d : Pt) (_ : MC) (ih : MK) : MK := fun base e h K => oB (fun v => ih base (Pt.put d v e) h K) (m.val T e h)
noncomputable def rMk (T : Tab) (i n : Nat) (op : Op) (d : Pt) (_ : MC) (ih : MK) : MK := fun base e h K =>
  oB (fun r => ih base (Pt.put d (r.2 (Nat.add base i)) e) (h.set (Nat.add base i) (some r.1)) K) (mkOp T (e.toL n (nat_lit 0)) Heap.empty op)
noncomputable def rMk6 (T : Tab) (i n : Nat) (op : Op) (d : Pt) (_ : MC) (ih : MK) : MK := fun base e h K =>
  oB (fun r => ih base (Pt.put d (r.2 (Nat.add base i)) e) (h.set (Nat.add base i) (some r.1)) K) (mkOp T (e.toL n (nat_lit 0)) h op)
noncomputable def rSt1 (T : Tab) (t : TypeId) (x v : Rd) (d : Pt) (_ : MC) (ih : MK) : MK := fun base e h K =>
  oB (fun h' => ih base (Pt.put d (.tup []) e) h' K) (vStore1 T t h (x.rd e) (v.rd e))
noncomputable def rSt (T : Tab) (t : TypeId) (x v : Rd) (d : Pt) (_ : MC) (ih : MK) : MK := fun base e h K =>
  oB (fun h' => ih base (Pt.put d (.tup []) e) h' K) (wrStore T h t (x.rd e) (v.rd e))
noncomputable def rPair (d : Pt) (ih : MK) (base : Nat) (e : E) (K : E → Heap → Bool) (r : AV × Heap) : Bool := ih base (Pt.put d r.1 e) r.2 K
noncomputable def rApp (T : Tab) (i : Nat) (st xt : TypeId) (s x : Rd) (d : Pt) (_ : MC) (ih : MK) : MK := fun base e h K =>
  oB (rPair d ih base e K) (wrAppend T h (Nat.add base i) st xt (s.rd e) (x.rd e))
noncomputable def rWr (T : Tab) (i n : Nat) (op : Op) (d : Pt) (_ : MC) (ih : MK) : MK := fun base e h K =>
  oB (rPair d ih base e K) (wrOp T (e.toL n (nat_lit 0)) h (Nat.add base i) op)
noncomputable def rNx (T : Tab) (n : Nat) (op : Op) (d : Pt) (_ : MC) (ih : MK) : MK := fun base e h K =>
  oB (fun outs => outs.all (rPair d ih base e K)) (nxOp T (e.toL n (nat_lit 0)) h op)
noncomputable def rCs (call : XCall) (f : FuncId) (xs : List Rd) (d : Pt) (_ : MC) (ih : MK) : MK := fun base e h K =>
  call f (Rd.rds xs e) h fun v h' => ih base (Pt.put d v e) h' K
noncomputable def rCd (T : Tab) (call : XCall) (i n : Nat) (op : Op) (d : Pt) (_ : MC) (ih : MK) : MK := fun base e h K =>
  Option.rec (motive := fun _ => Bool) (oB (rPair d ih base e K) (wrOp T (e.toL n (nat_lit 0)) h (Nat.add base i) op))
    (fun r => call r.1 r.2 h fun v h' => ih base (Pt.put d v e) h' K) (calleeOf T (e.toL n (nat_lit 0)) h op)

/-- Is it wanted? 'y': yes; 'n': no. -/
noncomputable def wantB {β : Type} (z y n : β) (want : Bool) (v : AV) : β :=
  AV.rec (motive_1 := fun _ => β) (motive_2 := fun _ => PUnit) (fun b => Bool.rec (motive := fun _ => β) (Bool.rec (motive := fun _ => β) y n want) (Bool.rec (motive := fun _ => β) n y want) b) (fun _ _ => z) (fun _ => z) z z z z z (fun _ _ => z) (fun _ _ _ _ _ _ => z) (fun _ => z) (fun _ _ => z) (fun _ _ _ => z) (fun _ _ _ _ _ => z) (fun _ _ _ => z) (fun _ _ _ => z)
    (fun vs _ => List.rec (motive := fun _ => β) n (fun _ _ _ => z) vs) z ⟨⟩ (fun _ _ _ _ => ⟨⟩) v

noncomputable def rGd (s : Rd) (want : Bool) (_ : MC) (d : Pt) (_ : MC) (one : MK) (ih : MK) : MK := fun base e h K =>
  wantB false (one base e h fun e' h' => ih base e' h' K) (ih base (Pt.put d (.tup []) e) h K) want (s.rd e)

noncomputable def sameF (a b : AV) : Bool := AV.same a b

noncomputable def MLk.ok2 (T : Tab) (e : E) (h : Heap) (l : MLk) : Bool :=
  oB (fun v => Option.rec (motive := fun _ => Bool) true (fun (r : Rd) => AV.same (r.rd e) v) l.dst) (l.m.val T e h)
noncomputable def MLk.ok (T : Tab) (e : E) (h : Heap) (l : MLk) : Bool :=
  Option.rec (motive := fun _ => Bool) (l.ok2 T e h) (fun g => wantB false (l.ok2 T e h) true g.2 (g.1.rd e)) l.gd

noncomputable def rRc (T : Tab) (l : List MLk) (_ : MC) (ih : MK) : MK := fun base e h K => l.all (MLk.ok T e h) && ih base e h K

noncomputable def MC.run (T : Tab) (call : XCall) (m : MC) : MK :=
  MC.rec (motive := fun _ => MK) (fun _ e h K => K e h) rMv (rV0 T) (rV1 T) (rMk T) (rMk6 T) (rSt1 T) (rSt T) (rApp T) (rWr T) (rNx T) (rCs call) (rCd T call) rGd (rRc T) m

/-! ### Turning -/
def mcV0 (m : MV) (d : Pt) (r : MC) : MC :=
  match m with
  | .mov x => .mv x d r
  | m => .v0 m d r

def mop1 (T : Tab) (n : Nat) (x : XOp) (r : MC) : Option MC :=
  match ptOf n x.dst with
  | none => none
  | some p => match x.cls with
    | 0 => (mvOf T n x.op).map fun m => mcV0 m p r
    | 1 => (mvOf T n x.op).map fun m => .v1 m p r
    | 2 => some (.mk x.i n x.op p r)
    | 3 => match x.op with
      | .store t a v => match rdOf n a, rdOf n v with
        | some a, some v => if T.size t = some 1 then some (.st1 t a v p r) else some (.st t a v p r)
        | _, _ => none
      | .call { callee := .builtin .append, args, argTypes } => match rdsOf n args.toList, argTypes.toList with
        | some [s, a], [st, xt] => some (.app x.i st xt s a p r)
        | _, _ => none
      | op => some (.wr x.i n op p r)
    | 4 => some (.nx n x.op p r)
    | 5 => match x.op with
      | .call { callee := .value (.func f), args, argTypes } => if T.go f then match rdsOf n args.toList with
          | some xs => some (.cs f xs p r)
          | none => none
        else some (.cd x.i n (.call { callee := .value (.func f), args, argTypes }) p r)
      | op => some (.cd x.i n op p r)
    | _ => some (.mk6 x.i n x.op p r)

def mgdOf (T : Tab) (n : Nat) (x : XOp) (r : MC) : Option MC :=
  match x.gd with
  | none => mop1 T n x r
  | some (d, want) => match rdOf n (.tmp d), ptOf n x.dst, mop1 T n x .done with
    | some s, some p, some one => some (.gd s want one p r)
    | _, _, _ => none

def mlkOf (T : Tab) (n : Nat) (l : XLook) : Option MLk :=
  match mvOf T n l.op with
  | none => none
  | some m => match l.gd, l.dst with
    | none, none => some ⟨none, none, m⟩
    | none, some d => (rdOf n (.tmp d)).map fun r => ⟨none, some r, m⟩
    | some (g, want), none => (rdOf n (.tmp g)).map fun s => ⟨some (s, want), none, m⟩
    | some (g, want), some d => match rdOf n (.tmp g), rdOf n (.tmp d) with
      | some s, some r => some ⟨some (s, want), some r, m⟩
      | _, _ => none

def mrcOf (T : Tab) (n : Nat) (ls : List XLook) (r : MC) : Option MC :=
  match ls with
  | [] => some r
  | ls => (ls.mapM (mlkOf T n)).map fun l => .rc l r

def mcOf (T : Tab) (n : Nat) : List XOp → Option MC
  | [] => some .done
  | x :: xs => match mcOf T n xs with
    | none => none
    | some r => match mrcOf T n x.rc r with
      | none => none
      | some r => mgdOf T n x r
end Go.Ab
/-! Quick runs of regions tell the truth. -/
namespace Go.Ab
section
variable {P : Program} {T : Tab} {h : Heap} {e : List AV} {n base : Nat} {E0 : E}

/-- A call whose contract holds. -/
noncomputable def CTB (P : Program) : XCall := fun f args h K => @decide (CT P f args h fun v h' => K v h' = true) (Classical.propDecidable _)
theorem CTB_ok : CallOk P (CTB P) := fun f args h K hq => by
  unfold CTB at hq
  exact @of_decide_eq_true _ (Classical.propDecidable _) hq
theorem CTB_of {call : XCall} (hc : CallOk P call) {f : FuncId} {args : List AV} {K K' : AV → Heap → Bool} (hq : call f args h K = true) (hk : ∀ v h', K v h' = true → K' v h' = true) : CTB P f args h K' = true := by
  unfold CTB
  exact @decide_eq_true _ (Classical.propDecidable _) ((hc _ _ _ _ hq).mono hk)

theorem pair_some {E0 : E} {base : Nat} {o : Option (AV × Heap)} {d : Pt} {ih : MK} {K : E → Heap → Bool} (hq : oB (rPair d ih base E0 K) o = true) : ∃ v h', o = some (v, h') ∧ ih base (Pt.put d v E0) h' K = true := by
  obtain ⟨r, rfl, hr⟩ := oB_some hq
  exact ⟨r.1, r.2, rfl, hr⟩

theorem mcV0_run {call : XCall} {m : MV} {p : Pt} {r : MC} {h : Heap} {K : E → Heap → Bool} (hq : (mcV0 m p r).run T call base E0 h K = true) : ∃ v, m.val T E0 Heap.empty = some v ∧ r.run T call base (p.put v E0) h K = true := by
  unfold mcV0 at hq
  split at hq
  · exact ⟨_, rfl, hq⟩
  · exact oB_some hq

theorem mop1_sound {call : XCall} (hc : CallOk P call) (hn : n ≤ 512) {x : XOp} {r m : MC} (hm : mop1 T n x r = some m) (hR : Rel E0 e n) {K : E → Heap → Bool} {K' : List AV → Heap → Bool}
    (hr : ∀ E1 e1 h1, Rel E1 e1 n → r.run T call base E1 h1 K = true → K' e1 h1 = true) (hw : xw e x.gd = some true) (hq : m.run T call base E0 h K = true) : xop1 T (CTB P) base x e h K' = true := by
  unfold mop1 at hm
  split at hm
  · cases hm
  rename_i p hp
  have put : ∀ v h', r.run T call base (p.put v E0) h' K = true → K' (ePut e x.dst v) h' = true := fun v h' k => hr _ _ _ (ptOf_put hp hn hR v) k
  unfold xop1
  simp only [hw]
  generalize x.cls = c at hm ⊢
  rcases c with _ | _ | _ | _ | _ | _ | c <;> simp only [Nat.zero_add, Nat.reduceAdd] at hm ⊢
  · simp only [Option.map_eq_some_iff] at hm
    obtain ⟨mv, h1, rfl⟩ := hm
    obtain ⟨v, h2, h3⟩ := mcV0_run hq
    rw [mv_sound h1 hR h2]; exact put _ _ h3
  · simp only [Option.map_eq_some_iff] at hm
    obtain ⟨mv, h1, rfl⟩ := hm
    obtain ⟨v, h2, h3⟩ := oB_some (show oB (fun v => r.run T call base (Pt.put p v E0) h K) (mv.val T E0 h) = true from hq)
    rw [mv_sound h1 hR h2]; exact put _ _ h3
  · injection hm with hm; subst hm
    change oB (fun r' => r.run T call base (Pt.put p (r'.2 (Nat.add base x.i)) E0) (h.set (Nat.add base x.i) (some r'.1)) K) (mkOp T (E0.toL n 0) Heap.empty x.op) = true at hq
    rw [hR.toL] at hq
    obtain ⟨⟨ao, f⟩, h2, h3⟩ := oB_some hq
    rw [h2]; exact put _ _ h3
  · split at hm
    · rename_i t a v hop
      split at hm
      · rename_i ra rv h1 h2
        have L : wrOp T e h (base + x.i) x.op = (wrStore T h t (ra.rd E0) (rv.rd E0)).map fun h' => (.tup [], h') := by
          rw [hop]; simp only [wrOp, rdOf_opd h1 hR, rdOf_opd h2 hR]
        split at hm
        · rename_i ht
          injection hm with hm; subst hm
          obtain ⟨h', g1, g2⟩ := oB_some (show oB (fun h' => r.run T call base (Pt.put p (.tup []) E0) h' K) (vStore1 T t h (ra.rd E0) (rv.rd E0)) = true from hq)
          rw [L, vStore1_eq ht g1]; exact put _ _ g2
        · injection hm with hm; subst hm
          obtain ⟨h', g1, g2⟩ := oB_some (show oB (fun h' => r.run T call base (Pt.put p (.tup []) E0) h' K) (wrStore T h t (ra.rd E0) (rv.rd E0)) = true from hq)
          rw [L, g1]; exact put _ _ g2
      · cases hm
    · rename_i args ats hop
      split at hm
      · rename_i s a st xt h1 h2
        injection hm with hm; subst hm
        have L : wrOp T e h (base + x.i) x.op = wrAppend T h (base + x.i) st xt (s.rd E0) (a.rd E0) := by
          rw [hop]
          have := rdsOf_opds hR h1
          simp only [wrOp, this, h2]; rfl
        rw [L]
        obtain ⟨v, h', g1, g2⟩ := pair_some (show oB (rPair p (r.run T call) base E0 K) (wrAppend T h (Nat.add base x.i) st xt (s.rd E0) (a.rd E0)) = true from hq)
        rw [show wrAppend T h (base + x.i) st xt (s.rd E0) (a.rd E0) = some (v, h') from g1]
        exact put _ _ g2
      · cases hm
    · injection hm with hm; subst hm
      change oB (rPair p (r.run T call) base E0 K) (wrOp T (E0.toL n 0) h (Nat.add base x.i) x.op) = true at hq
      rw [hR.toL] at hq
      obtain ⟨v, h', g1, g2⟩ := pair_some hq
      rw [show wrOp T e h (base + x.i) x.op = some (v, h') from g1]
      exact put _ _ g2
  · injection hm with hm; subst hm
    change oB (fun outs => outs.all (rPair p (r.run T call) base E0 K)) (nxOp T (E0.toL n 0) h x.op) = true at hq
    rw [hR.toL] at hq
    obtain ⟨outs, h2, h3⟩ := oB_some hq
    rw [h2]
    exact List.all_eq_true.2 fun out ho => put _ _ (List.all_eq_true.1 h3 out ho)
  · have dyn : ∀ op, x.op = op → (MC.cd x.i n op p r).run T call base E0 h K = true → (match calleeOf T e h op with
        | some (f, args) => CTB P f args h fun v h' => K' (ePut e x.dst v) h'
        | none => match wrOp T e h (base + x.i) op with
          | some (v, h') => K' (ePut e x.dst v) h'
          | none => false) = true := by
      intro op _ hq
      change Option.rec (motive := fun _ => Bool) (oB (rPair p (r.run T call) base E0 K) (wrOp T (E0.toL n 0) h (Nat.add base x.i) op))
        (fun q => call q.1 q.2 h fun v h' => r.run T call base (Pt.put p v E0) h' K) (calleeOf T (E0.toL n 0) h op) = true at hq
      rw [hR.toL] at hq
      cases hcal : calleeOf T e h op with
      | none =>
        rw [hcal] at hq
        obtain ⟨v, h', g1, g2⟩ := pair_some (show oB (rPair p (r.run T call) base E0 K) (wrOp T e h (Nat.add base x.i) op) = true from hq)
        rw [show wrOp T e h (base + x.i) op = some (v, h') from g1]
        exact put _ _ g2
      | some q =>
        rw [hcal] at hq
        obtain ⟨f, args⟩ := q
        exact CTB_of hc (show call f args h _ = true from hq) fun v h' k => put _ _ k
    split at hm
    · rename_i f args ats hop
      split at hm
      · rename_i hg
        split at hm
        · rename_i xs h1
          injection hm with hm; subst hm
          change call f (Rd.rds xs E0) h (fun v h' => r.run T call base (Pt.put p v E0) h' K) = true at hq
          have L : calleeOf T e h x.op = some (f, Rd.rds xs E0) := by
            rw [hop]
            have := rdsOf_opds hR h1
            simp only [calleeOf, this, opd, hg, if_true, List.nil_append, List.append_nil]
          rw [L]
          exact CTB_of hc hq fun v h' k => put _ _ k
        · cases hm
      · injection hm with hm; subst hm
        have := dyn _ hop hq
        rw [hop]; exact this
    · injection hm with hm; subst hm
      exact dyn _ rfl hq
  · injection hm with hm; subst hm
    change oB (fun r' => r.run T call base (Pt.put p (r'.2 (Nat.add base x.i)) E0) (h.set (Nat.add base x.i) (some r'.1)) K) (mkOp T (E0.toL n 0) h x.op) = true at hq
    rw [hR.toL] at hq
    obtain ⟨⟨ao, f⟩, h2, h3⟩ := oB_some hq
    rw [h2]; exact put _ _ h3

theorem wantB_spec {β : Type} {z y q : β} {want : Bool} {v : AV} : (∃ b, v = .bool b ∧ wantB z y q want v = if b = want then y else q) ∨ (v = .tup [] ∧ wantB z y q want v = q) ∨ wantB z y q want v = z := by
  cases v with
  | bool b => exact .inl ⟨b, rfl, by cases b <;> cases want <;> rfl⟩
  | tup vs => cases vs with
    | nil => exact .inr (.inl ⟨rfl, rfl⟩)
    | cons => exact .inr (.inr rfl)
  | _ => exact .inr (.inr rfl)

theorem mgd_sound {call : XCall} (hc : CallOk P call) (hn : n ≤ 512) {x : XOp} {r m : MC} (hm : mgdOf T n x r = some m) (hR : Rel E0 e n) {K : E → Heap → Bool} {K' : List AV → Heap → Bool}
    (hr : ∀ E1 e1 h1, Rel E1 e1 n → r.run T call base E1 h1 K = true → K' e1 h1 = true) (hq : m.run T call base E0 h K = true) : xop1 T (CTB P) base x e h K' = true := by
  unfold mgdOf at hm
  split at hm
  · rename_i hg
    exact mop1_sound hc hn hm hR hr (by rw [hg]; rfl) hq
  · rename_i d want hg
    split at hm
    · rename_i s p one h1 h2 h3
      injection hm with hm; subst hm
      change wantB false (one.run T call base E0 h fun e' h' => r.run T call base e' h' K) (r.run T call base (Pt.put p (.tup []) E0) h K) want (s.rd E0) = true at hq
      have hd : e[d]? = some (s.rd E0) := rdOf_opd h1 hR
      have yes : one.run T call base E0 h (fun e' h' => r.run T call base e' h' K) = true → xw e x.gd = some true → xop1 T (CTB P) base x e h K' = true := fun hq hw =>
        mop1_sound hc hn h3 hR (fun E1 e1 h1 hR1 k => hr E1 e1 h1 hR1 k) hw hq
      have no : r.run T call base (Pt.put p (.tup []) E0) h K = true → xw e x.gd = some false → xop1 T (CTB P) base x e h K' = true := fun hq hw => by
        unfold xop1
        simp only [hw]
        exact hr _ _ _ (ptOf_put h2 hn hR _) hq
      rcases wantB_spec (z := false) (y := one.run T call base E0 h fun e' h' => r.run T call base e' h' K) (q := r.run T call base (Pt.put p (.tup []) E0) h K) (want := want) (v := s.rd E0) with ⟨b, hb, hv⟩ | ⟨hb, hv⟩ | hv
      · rw [hv] at hq
        rw [hb] at hd
        by_cases hbw : b = want
        · rw [if_pos hbw] at hq
          exact yes hq (by rw [hg]; simp [xw, hd, hbw])
        · rw [if_neg hbw] at hq
          exact no hq (by rw [hg]; simp [xw, hd, hbw])
      · rw [hv] at hq
        rw [hb] at hd
        exact no hq (by rw [hg]; simp [xw, hd])
      · rw [hv] at hq; cases hq
    · cases hm

theorem mlk_sound {l : XLook} {m : MLk} (hm : mlkOf T n l = some m) (hR : Rel E0 e n) (hq : m.ok T E0 h = true) : xlk T e h l = true := by
  unfold mlkOf at hm
  split at hm
  · cases hm
  rename_i mv hmv
  have A : ∀ (gd : Option (Rd × Bool)) , MLk.ok2 T E0 h ⟨gd, none, mv⟩ = true → l.dst = none → xw e l.gd = some true → xlk T e h l = true := fun gd k hd hw => by
    obtain ⟨v, h2, _⟩ := oB_some k
    simp only [xlk, hw, mv_sound hmv hR h2, hd]
  have B : ∀ (gd : Option (Rd × Bool)) (r : Rd) (d : Nat), rdOf n (.tmp d) = some r → MLk.ok2 T E0 h ⟨gd, some r, mv⟩ = true → l.dst = some d → xw e l.gd = some true → xlk T e h l = true := fun gd r d hr k hd hw => by
    obtain ⟨v, h2, h3⟩ := oB_some k
    have hd' : e[d]? = some (r.rd E0) := rdOf_opd hr hR
    simp only [xlk, hw, mv_sound hmv hR h2, hd, hd']
    exact h3
  have W : ∀ (s : Rd) (g : Nat) (want : Bool) (x : Bool), l.gd = some (g, want) → rdOf n (.tmp g) = some s → wantB false x true want (s.rd E0) = true → (x = true ∧ xw e l.gd = some true) ∨ xlk T e h l = true := fun s g want x hg hs k => by
    have hd : e[g]? = some (s.rd E0) := rdOf_opd hs hR
    rcases wantB_spec (z := false) (y := x) (q := true) (want := want) (v := s.rd E0) with ⟨b, hb, hv⟩ | ⟨hb, hv⟩ | hv
    · rw [hv] at k
      rw [hb] at hd
      by_cases hbw : b = want
      · rw [if_pos hbw] at k
        exact .inl ⟨k, by rw [hg]; simp [xw, hd, hbw]⟩
      · refine .inr ?_
        have hw : xw e l.gd = some false := by rw [hg]; simp [xw, hd, hbw]
        simp only [xlk, hw]
    · rw [hb] at hd
      refine .inr ?_
      have hw : xw e l.gd = some false := by rw [hg]; simp [xw, hd]
      simp only [xlk, hw]
    · rw [hv] at k; cases k
  split at hm
  · rename_i h1 h2
    injection hm with hm; subst hm
    exact A none hq h2 (by rw [h1]; rfl)
  · rename_i d h1 h2
    simp only [Option.map_eq_some_iff] at hm
    obtain ⟨r, h3, rfl⟩ := hm
    exact B none r d h3 hq h2 (by rw [h1]; rfl)
  · rename_i g want h1 h2
    simp only [Option.map_eq_some_iff] at hm
    obtain ⟨s, h3, rfl⟩ := hm
    rcases W s g want _ h1 h3 (show wantB false (MLk.ok2 T E0 h ⟨some (s, want), none, mv⟩) true want (s.rd E0) = true from hq) with ⟨k, hw⟩ | k
    · exact A _ k h2 hw
    · exact k
  · rename_i g want d h1 h2
    split at hm
    · rename_i s r h3 h4
      injection hm with hm; subst hm
      rcases W s g want _ h1 h3 (show wantB false (MLk.ok2 T E0 h ⟨some (s, want), some r, mv⟩) true want (s.rd E0) = true from hq) with ⟨k, hw⟩ | k
      · exact B _ r d h4 k h2 hw
      · exact k
    · cases hm

theorem mlks_sound (hR : Rel E0 e n) : ∀ {ls : List XLook} {ms : List MLk}, ls.mapM (mlkOf T n) = some ms → ms.all (MLk.ok T E0 h) = true → ls.all (xlk T e h) = true
  | [], _, _, _ => rfl
  | l :: ls, ms, hm, ha => by
    simp only [List.mapM_cons, Option.bind_eq_bind, Option.bind_eq_some_iff, Option.pure_def] at hm
    obtain ⟨x, hx, xs, hxs, hm⟩ := hm
    injection hm with hm; subst hm
    simp only [List.all_cons, Bool.and_eq_true] at ha ⊢
    exact ⟨mlk_sound hx hR ha.1, mlks_sound hR hxs ha.2⟩

theorem mrc_sound {call : XCall} {ls : List XLook} {r m : MC} (hm : mrcOf T n ls r = some m) (hR : Rel E0 e n) {K : E → Heap → Bool} (hq : m.run T call base E0 h K = true) : ls.all (xlk T e h) = true ∧ r.run T call base E0 h K = true := by
  unfold mrcOf at hm
  split at hm
  · injection hm with hm; subst hm; exact ⟨rfl, hq⟩
  · simp only [Option.map_eq_some_iff] at hm
    obtain ⟨l, h1, rfl⟩ := hm
    have hq' : (l.all (MLk.ok T E0 h) && r.run T call base E0 h K) = true := hq
    simp only [Bool.and_eq_true] at hq'
    exact ⟨mlks_sound hR h1 hq'.1, hq'.2⟩

theorem mc_sound {call : XCall} (hc : CallOk P call) (hn : n ≤ 512) {K : E → Heap → Bool} {K' : List AV → Heap → Bool} (hk : ∀ E1 e1 h1, Rel E1 e1 n → K E1 h1 = true → K' e1 h1 = true) :
    ∀ {items : List XOp} {m : MC}, mcOf T n items = some m → ∀ {E0 : E} {e : List AV} {h : Heap}, Rel E0 e n → m.run T call base E0 h K = true → xitems T (CTB P) base items e h K' = true
  | [], m, hm, E0, e, h, hR, hq => by
    simp only [mcOf] at hm; injection hm with hm; subst hm
    exact hk _ _ _ hR hq
  | x :: xs, m, hm, E0, e, h, hR, hq => by
    simp only [mcOf] at hm
    split at hm
    · cases hm
    rename_i r h1
    split at hm
    · cases hm
    rename_i r' h2
    simp only [xitems]
    refine mgd_sound hc hn hm hR (fun E1 e1 h' hR1 k => ?_) hq
    obtain ⟨k1, k2⟩ := mrc_sound h2 hR1 k
    simp only [Bool.and_eq_true]
    exact ⟨k1, mc_sound hc hn hk h1 hR1 k2⟩

end
end Go.Ab
/-! Quick runs of code and of functions. -/
namespace Go.Ab

inductive MX where
  | skip
  | reg (m : Nat) (c : MC)
  | seq (a b : MX)
  | cond (c : Rd) (a b : MX)
  | block (id : Nat) (b : MX)
  | loop (b : MX)
  | exit (id : Nat)
  | ret
  | rf (f : Rd)
  | bad

abbrev MPost := Exit → E → List Nat → Heap → Bool
abbrev MR := E → List Nat → Heap → MPost → Bool

/-- 'y': where it went on normally. -/
noncomputable def onN (y z : Bool) (x : Exit) : Bool := Exit.rec (motive := fun _ => Bool) y (fun _ => z) (fun _ => z) z (fun _ => z) z x
noncomputable def onE (f : Nat → Bool) (z : Bool) (x : Exit) : Bool := Exit.rec (motive := fun _ => Bool) z f (fun _ => z) z (fun _ => z) z x

noncomputable def mxReg (T : Tab) (call : XCall) (m : Nat) (c : MC) : MR := fun e ds h K =>
  Bool.rec (motive := fun _ => Bool) false (c.run T call h.next e (h.bump m) fun e h => K .normal e ds h) (Nat.ble (Nat.succ (Nat.add h.next m)) (nat_lit 1000000000000))
noncomputable def mxSeq (_ _ : MX) (ra rb : MR) : MR := fun e ds h K => ra e ds h fun x e ds h => onN (rb e ds h K) (K x e ds h) x
noncomputable def mxCond (c : Rd) (_ _ : MX) (ra rb : MR) : MR := fun e ds h K => AV.onBool false (ra e ds h K) (rb e ds h K) (c.rd e)
noncomputable def mxBlock (id : Nat) (_ : MX) (r : MR) : MR := fun e ds h K => r e ds h fun x e ds h =>
  onE (fun id' => Bool.rec (motive := fun _ => Bool) (K x e ds h) (K .normal e ds h) (Nat.beq id' id)) (K x e ds h) x
noncomputable def mxLoopGo (r : MR) (fuel : Nat) : MR := Nat.rec (motive := fun _ => MR) (fun _ _ _ _ => false) (fun _ ih e ds h K => r e ds h fun x e ds h => onN (ih e ds h K) (K x e ds h) x) fuel
noncomputable def mxLoop (fuel : Nat) (_ : MX) (r : MR) : MR := mxLoopGo r fuel
noncomputable def mxRf (call : XCall) (f : Rd) : MR := fun e ds h K =>
  match f.rd e with
  | .fn (.func g) first cap => if h.next + 2 < 1000000000000 then
      call g (first ++ [.any] ++ cap) (((h.bump 2).set h.next (some (.dfr true))).set (h.next + 1) (some (.lp true))) fun _ h3 =>
        lpB h3 (h.next + 1) && K .normal e (h.next :: ds) (h3.set (h.next + 1) (some (.lp false)))
    else false
  | _ => false

noncomputable def MX.run (T : Tab) (call : XCall) (fuel : Nat) (c : MX) : MR :=
  MX.rec (motive := fun _ => MR) (fun e ds h K => K .normal e ds h) (mxReg T call) mxSeq mxCond mxBlock (mxLoop fuel) (fun id e ds h K => K (.exit id) e ds h) (fun e ds h K => K .ret e ds h) (mxRf call) (fun _ _ _ _ => false) c

def mxOf (T : Tab) (n : Nat) : XC → Option MX
  | .skip => some .skip
  | .region m items _ => (mcOf T n items).map (.reg m)
  | .seq a b => match mxOf T n a, mxOf T n b with
    | some a, some b => some (.seq a b)
    | _, _ => none
  | .cond c a b => match rdOf n c, mxOf T n a, mxOf T n b with
    | some c, some a, some b => some (.cond c a b)
    | _, _, _ => none
  | .block id b => (mxOf T n b).map (.block id)
  | .loop b => (mxOf T n b).map .loop
  | .exit id => some (.exit id)
  | .ret => some .ret
  | .rf f => (rdOf n f).map .rf
  | .bad => some .bad

section
variable {P : Program} {T : Tab} {n : Nat}

theorem onN_spec {y z : Bool} {x : Exit} (h : onN y z x = true) : (x = .normal ∧ y = true) ∨ (x ≠ .normal ∧ z = true) := by
  cases x <;> first | exact .inl ⟨rfl, h⟩ | exact .inr ⟨fun e0 => (by cases e0), h⟩

theorem aops_mono {ops : Array Oper} {base : Nat} {K K' : List AV → Heap → Prop} (hk : ∀ e h, K e h → K' e h) : ∀ {l : List Nat} {e : List AV} {h : Heap}, aops P T ops base l e h K → aops P T ops base l e h K'
  | [], _, _, hq => hk _ _ hq
  | i :: l, e, h, hq => by
    unfold aops at hq ⊢
    split
    · rename_i h1; simp only [h1] at hq; exact aops_mono hk hq
    · rename_i o h1
      simp only [h1] at hq
      split
      · rename_i h2; simp only [h2] at hq
        exact aop_mono (fun v h' hv => aops_mono hk hv) hq
      · rename_i h2; simp only [h2] at hq
        exact aops_mono hk hq
      · rename_i h2; simp only [h2] at hq

theorem Run_mono {ops : Array Oper} {base : Nat} {K K' : List AV → Heap → Prop} (hk : ∀ e h, K e h → K' e h) : ∀ {l : List Go.Ab.Item} {e : List AV} {h : Heap}, Run P T ops base l e h K → Run P T ops base l e h K'
  | [], _, _, hq => hk _ _ hq
  | (i, c, rc) :: l, e, h, hq => by
    simp only [Run] at hq ⊢
    exact dstep_mono0 (fun e h hv => ⟨hv.1, Run_mono hk hv.2⟩) hq

theorem mx_sound (hT : T.ok P) (hm : P.follows .mixedOrders = true) (hn : n ≤ 512) {call : XCall} (hc : CallOk P call) (hgo : ∀ g as h K, call g as h K = true → T.go g = true) (fuel : Nat) :
    ∀ (c : Code) {m : MX}, mxOf T n (conv T c) = some m → ∀ {N : Nat} {E0 : E} {e : List AV} {ds : List Nat} {h : Heap} {K : MPost} {Q : CPost}, Rel E0 e n → N ≤ h.next →
      (∀ x E1 e1 ds1 h1, Rel E1 e1 n → K x E1 ds1 h1 = true → Q x e1 ds1 h1) → m.run T call fuel E0 ds h K = true → AC P N c e ds h Q := by
  intro c
  induction c with
  | skip =>
    intro m hx N E0 e ds h K Q hR hN hk hq
    simp only [conv, mxOf] at hx; injection hx with hx; subst hx
    exact AC_skip hN (hk _ _ _ _ _ hR hq)
  | label l =>
    intro m hx N E0 e ds h K Q hR hN hk hq
    simp only [conv, mxOf] at hx; injection hx with hx; subst hx
    exact AC_label hN (hk _ _ _ _ _ hR hq)
  | exit id =>
    intro m hx N E0 e ds h K Q hR hN hk hq
    simp only [conv, mxOf] at hx; injection hx with hx; subst hx
    exact AC_exit hN (hk _ _ _ _ _ hR hq)
  | ret =>
    intro m hx N E0 e ds h K Q hR hN hk hq
    simp only [conv, mxOf] at hx; injection hx with hx; subst hx
    exact AC_ret hN (hk _ _ _ _ _ hR hq)
  | scope b =>
    intro m hx N E0 e ds h K Q hR hN hk hq
    simp only [conv, mxOf] at hx; injection hx with hx; subst hx; cases hq
  | goto l =>
    intro m hx N E0 e ds h K Q hR hN hk hq
    simp only [conv, mxOf] at hx; injection hx with hx; subst hx; cases hq
  | refuse s =>
    intro m hx N E0 e ds h K Q hR hN hk hq
    simp only [conv, mxOf] at hx; injection hx with hx; subst hx; cases hq
  | seq a b iha ihb =>
    intro m hx N E0 e ds h K Q hR hN hk hq
    simp only [conv, mxOf] at hx
    split at hx
    · rename_i ma mb h1 h2
      injection hx with hx; subst hx
      change ma.run T call fuel E0 ds h (fun x e ds h => onN (mb.run T call fuel e ds h K) (K x e ds h) x) = true at hq
      refine AC_seq (iha h1 hR hN (fun x E1 e1 ds1 h1 hR1 k => ?_) hq)
      rcases onN_spec k with ⟨rfl, k⟩ | ⟨hx, k⟩
      · exact fun hN' => ihb h2 hR1 hN' hk k
      · cases x <;> first | exact absurd rfl hx | exact hk _ _ _ _ _ hR1 k
    · cases hx
  | cond c a b iha ihb =>
    intro m hx N E0 e ds h K Q hR hN hk hq
    simp only [conv, mxOf] at hx
    split at hx
    · rename_i rc ma mb h0 h1 h2
      injection hx with hx; subst hx
      change AV.onBool false (ma.run T call fuel E0 ds h K) (mb.run T call fuel E0 ds h K) (rc.rd E0) = true at hq
      have hop := rdOf_opd h0 hR
      cases hb : rc.rd E0 with
      | bool t =>
        rw [hb] at hq hop
        cases t with
        | true => exact AC_cond hop (by simpa using iha h1 hR hN hk hq)
        | false => exact AC_cond hop (by simpa using ihb h2 hR hN hk hq)
      | _ => rw [hb] at hq; cases hq
    · cases hx
  | block id b ih =>
    intro m hx N E0 e ds h K Q hR hN hk hq
    simp only [conv, mxOf, Option.map_eq_some_iff] at hx
    obtain ⟨mb, h1, rfl⟩ := hx
    change mb.run T call fuel E0 ds h (fun x e ds h => onE (fun id' => Bool.rec (motive := fun _ => Bool) (K x e ds h) (K .normal e ds h) (Nat.beq id' id)) (K x e ds h) x) = true at hq
    refine AC_block (ih h1 hR hN (fun x E1 e1 ds1 h1 hR1 k => ?_) hq)
    cases x with
    | exit id' =>
      change Bool.rec (motive := fun _ => Bool) (K (.exit id') E1 ds1 h1) (K .normal E1 ds1 h1) (Nat.beq id' id) = true at k
      simp only
      cases hb : Nat.beq id' id with
      | true =>
        rw [hb] at k
        rw [if_pos (Nat.eq_of_beq_eq_true hb)]
        exact hk _ _ _ _ _ hR1 k
      | false =>
        rw [hb] at k
        rw [if_neg (Nat.ne_of_beq_eq_false hb)]
        exact hk _ _ _ _ _ hR1 k
    | _ => exact hk _ _ _ _ _ hR1 k
  | loop b ih =>
    intro m hx N E0 e ds h K Q hR hN hk hq
    simp only [conv, mxOf, Option.map_eq_some_iff] at hx
    obtain ⟨mb, h1, rfl⟩ := hx
    refine AC_loop (fun j e ds h => ∃ E1, Rel E1 e n ∧ mxLoopGo (mb.run T call fuel) j E1 ds h K = true) fuel ⟨E0, hR, hq⟩ hN ?_
    rintro j e ds h ⟨E1, hR1, hq⟩ hN'
    cases j with
    | zero => cases hq
    | succ j =>
      change mb.run T call fuel E1 ds h (fun x e ds h => onN (mxLoopGo (mb.run T call fuel) j e ds h K) (K x e ds h) x) = true at hq
      refine ih h1 hR1 hN' (fun x E2 e2 ds2 h2 hR2 k => ?_) hq
      rcases onN_spec k with ⟨rfl, k⟩ | ⟨hx, k⟩
      · exact ⟨j, Nat.lt_succ_self j, E2, hR2, k⟩
      · cases x <;> first | exact absurd rfl hx | exact hk _ _ _ _ _ hR2 k
  | region id ops draw =>
    intro m hx N E0 e ds h K Q hR hN hk hq
    have R : ∀ {items : List XOp} {mc : MC} {k : Nat}, mcOf T n items = some mc → (MX.reg k mc).run T call fuel E0 ds h K = true → h.next + k < 1000000000000 ∧
        xitems T (CTB P) h.next items e (h.bump k) (fun e h => @decide (Q .normal e ds h) (Classical.propDecidable _)) = true := by
      intro items mc k h1 hq
      change Bool.rec (motive := fun _ => Bool) false (mc.run T call h.next E0 (h.bump k) fun e h => K .normal e ds h) (Nat.ble (Nat.succ (Nat.add h.next k)) 1000000000000) = true at hq
      cases hb : Nat.ble (Nat.succ (Nat.add h.next k)) 1000000000000 with
      | false => rw [hb] at hq; cases hq
      | true =>
        rw [hb] at hq
        exact ⟨Nat.le_of_ble_eq_true hb, mc_sound (K' := fun e h => @decide (Q .normal e ds h) (Classical.propDecidable _)) hc hn (fun E1 e1 h1 hR1 k => @decide_eq_true _ (Classical.propDecidable _) (hk _ _ _ _ _ hR1 k)) h1 hR hq⟩
    cases draw with
    | false =>
      simp only [conv] at hx
      split at hx
      · rename_i items hm'
        simp only [mxOf, Option.map_eq_some_iff] at hx
        obtain ⟨mc, h1, rfl⟩ := hx
        obtain ⟨r1, r2⟩ := R h1 hq
        exact AC_region hT hN r1 (aops_mono (fun e h k => @of_decide_eq_true _ (Classical.propDecidable _) k) (xitems_aops hT CTB_ok hm' r2))
      · simp only [mxOf] at hx; injection hx with hx; subst hx; cases hq
    | true =>
      simp only [conv] at hx
      split at hx
      · rename_i ord
        split at hx
        · rename_i items hm'
          simp only [mxOf, Option.map_eq_some_iff] at hx
          obtain ⟨mc, h1, rfl⟩ := hx
          obtain ⟨r1, r2⟩ := R h1 hq
          simp only [Bool.and_eq_true, beq_iff_eq] at ord
          exact AC_drawn hT hm ord.1 ord.2 hN r1 (Run_mono (fun e h k => @of_decide_eq_true _ (Classical.propDecidable _) k) (xitems_run hT CTB_ok hm' r2))
        · simp only [mxOf] at hx; injection hx with hx; subst hx; cases hq
      · simp only [mxOf] at hx; injection hx with hx; subst hx; cases hq
  | rangeFunc f ps asg body _ _ =>
    intro m hx N E0 e ds h K Q hR hN hk hq
    simp only [conv, mxOf, Option.map_eq_some_iff] at hx
    obtain ⟨rf, h1, rfl⟩ := hx
    have hop := rdOf_opd h1 hR
    change mxRf call rf E0 ds h K = true at hq
    unfold mxRf at hq
    split at hq
    · rename_i g first cap hf
      rw [hf] at hop
      split at hq
      · rename_i hlt
        refine AC_range hT hN hlt hop (hgo _ _ _ _ hq) ((hc _ _ _ _ hq).mono fun v h' hk' => ?_)
        simp only [Bool.and_eq_true] at hk'
        exact ⟨lpB_ok hk'.1, hk _ _ _ _ _ hR hk'.2⟩
      · cases hq
    · cases hq

end
end Go.Ab
/-! Quick runs of functions. -/
namespace Go.Ab

inductive MRes where
  | tmp (r : Rd)
  | cell (r : Rd) (t : TypeId)

structure MFn where
  code : MX
  params : List Pt
  results : List MRes

noncomputable def MRes.val (T : Tab) (e : E) (h : Heap) (r : MRes) : Option AV := MRes.rec (motive := fun _ => Option AV) (fun r => some (r.rd e)) (fun r t => aLoad T h t (r.rd e)) r
noncomputable def mres (T : Tab) (e : E) (h : Heap) (rs : List MRes) : Option (List AV) :=
  List.rec (motive := fun _ => Option (List AV)) (some []) (fun r _ ih => Option.rec (motive := fun _ => Option (List AV)) none (fun v => Option.rec (motive := fun _ => Option (List AV)) none (fun vs => some (v :: vs)) ih) (r.val T e h)) rs

noncomputable def isEnd (x : Exit) : Bool := Exit.rec (motive := fun _ => Bool) true (fun _ => false) (fun _ => false) true (fun _ => false) false x

noncomputable def endM (T : Tab) (rs : List MRes) (K : AV → Heap → Bool) : MPost := fun x e ds h =>
  Bool.rec (motive := fun _ => Bool) false (List.rec (motive := fun _ => Bool) (oB (fun vs => K (packR vs) h) (mres T e h rs))
    (fun _ _ _ => dsOkB ds h && oB (fun vs => K (packR vs) (dsCut ds h)) (mres T e (dsCut ds h) rs)) ds) (isEnd x)

noncomputable def N8.all {α : Type} (x : α) : N8 α := .mk x x x x x x x x
noncomputable def E.none : E := N8.all (N8.all (N8.all (.tup [])))

noncomputable def E.init (ps : List Pt) : List AV → E → Option E :=
  List.rec (motive := fun _ => List AV → E → Option E) (fun as e => List.rec (motive := fun _ => Option E) (some e) (fun _ _ _ => Option.none) as)
    (fun p _ ih as e => List.rec (motive := fun _ => Option E) (some e) (fun a as _ => ih as (p.put a e)) as) ps

noncomputable def mbody (T : Tab) (fuel : Nat) (call : XCall) (args : List AV) (h : Heap) (K : AV → Heap → Bool) (fn : MFn) : Bool :=
  MFn.rec (motive := fun _ => Bool) (fun code params results => oB (fun e => code.run T call fuel e [] h (endM T results K)) (E.init params args E.none)) fn

noncomputable def mcall (T : Tab) (F : FuncId → Option MFn) (fuel n : Nat) : XCall :=
  Nat.rec (motive := fun _ => XCall) (fun _ _ _ _ => false) (fun _ ih f args h K => oB (mbody T fuel ih args h K) (F f)) n

def mresOf (n : Nat) : ResultVar → Option MRes
  | .tmp t => (rdOf n (.tmp t)).map .tmp
  | .cell x t => (rdOf n (.tmp x)).map fun r => .cell r t

def mresesOf (n : Nat) : List ResultVar → Option (List MRes)
  | [] => some []
  | r :: rs => match mresOf n r, mresesOf n rs with
    | some a, some as => some (a :: as)
    | _, _ => none

def ptsOf (n : Nat) : Nat → Nat → Option (List Pt)
  | 0, _ => some []
  | m + 1, i => match ptOf n (some i), ptsOf n m (i + 1) with
    | some a, some as => some (a :: as)
    | _, _ => none

def mfnOf (T : Tab) (P : Program) (f : FuncId) : Option MFn :=
  match P.funcs[f]? with
  | some fn => match fn.body with
    | some c => if T.go f && Nat.ble fn.ntmps 512 then match mxOf T fn.ntmps (conv T c), ptsOf fn.ntmps (min fn.ntmps 16) 0, mresesOf fn.ntmps fn.results.toList with
        | some m, some ps, some rs => some ⟨m, ps, rs⟩
        | _, _, _ => none
      else none
    | none => none
  | none => none

section
variable {P : Program} {T : Tab} {h : Heap} {e : List AV} {n : Nat} {E0 : E}

theorem Rel.none (n : Nat) : Rel E.none (List.replicate n (.tup [])) n := by
  refine ⟨by simp, fun t ht => ?_⟩
  have : E.at E.none t = .tup [] := by
    unfold E.at
    cases dig t <;> cases dig (t / 8) <;> cases dig (t / 64) <;> rfl
  rw [this]; simp [ht]

theorem init_sound (hn : n ≤ 512) : ∀ {m i : Nat} {ps : List Pt} {as pre : List AV} {E0 E1 : E}, ptsOf n m i = some ps → pre.length = i → Rel E0 (pre ++ List.replicate (n - i) (.tup [])) n → E.init ps as E0 = some E1 →
    Rel E1 (pre ++ as ++ List.replicate (n - (i + as.length)) (.tup [])) n
  | 0, i, ps, as, pre, E0, E1, hp, hl, hR, hi => by
    simp only [ptsOf] at hp; injection hp with hp; subst hp
    cases as with
    | nil => injection hi with hi; subst hi; simpa using hR
    | cons => cases hi
  | m + 1, i, ps, as, pre, E0, E1, hp, hl, hR, hi => by
    simp only [ptsOf] at hp
    split at hp
    · rename_i p ps' h1 h2
      injection hp with hp; subst hp
      cases as with
      | nil => injection hi with hi; subst hi; simpa using hR
      | cons a as =>
        change E.init ps' as (p.put a E0) = some E1 at hi
        have hin : i < n := by
          simp only [ptOf] at h1
          split at h1
          · rename_i hl; exact hl.1
          · cases h1
        have r1 := ptOf_put h1 hn hR a
        have e1 : ePut (pre ++ List.replicate (n - i) (.tup [])) (some i) a = (pre ++ [a]) ++ List.replicate (n - (i + 1)) (AV.tup []) := by
          simp only [ePut]
          rw [show n - i = (n - (i + 1)) + 1 by omega, List.replicate_succ, List.set_append]
          simp [hl]
        rw [e1] at r1
        have := init_sound hn h2 (by simp [hl]) r1 hi
        simp only [List.append_assoc, List.cons_append, List.nil_append, List.length_cons] at this ⊢
        rw [show i + (as.length + 1) = i + 1 + as.length by omega]
        exact this
    · cases hp

theorem mres_sound (hR : Rel E0 e n) : ∀ {rs : List ResultVar} {ms : List MRes} {vs : List AV}, mresesOf n rs = some ms → mres T E0 h ms = some vs → aResults T e h rs = some vs
  | [], ms, vs, hm, hv => by
    simp only [mresesOf] at hm; injection hm with hm; subst hm
    exact hv
  | r :: rs, ms, vs, hm, hv => by
    simp only [mresesOf] at hm
    split at hm
    · rename_i a as h1 h2
      injection hm with hm; subst hm
      change Option.rec (motive := fun _ => Option (List AV)) none (fun v => Option.rec (motive := fun _ => Option (List AV)) none (fun vs => some (v :: vs)) (mres T E0 h as)) (a.val T E0 h) = some vs at hv
      cases ha : a.val T E0 h with
      | none => rw [ha] at hv; cases hv
      | some v =>
        rw [ha] at hv
        change Option.rec (motive := fun _ => Option (List AV)) none (fun vs => some (v :: vs)) (mres T E0 h as) = some vs at hv
        cases hb : mres T E0 h as with
        | none => rw [hb] at hv; cases hv
        | some us =>
          rw [hb] at hv
          injection hv with hv; subst hv
          have A : aResult T e h r = some v := by
            cases r with
            | tmp t =>
              simp only [mresOf, Option.map_eq_some_iff] at h1
              obtain ⟨rd, h3, rfl⟩ := h1
              exact (show e[t]? = some (rd.rd E0) from rdOf_opd h3 hR).trans ha
            | cell x t =>
              simp only [mresOf, Option.map_eq_some_iff] at h1
              obtain ⟨rd, h3, rfl⟩ := h1
              have : e[x]? = some (rd.rd E0) := rdOf_opd h3 hR
              simp only [aResult, this, Option.bind_some]; exact ha
          simp only [aResults, A, mres_sound hR h2 hb]
    · cases hm

/-- What the table tells is the program's. -/
def MOk (P : Program) (T : Tab) (F : FuncId → Option MFn) : Prop := ∀ f x, F f = some x → mfnOf T P f = some x

theorem oB_of {α : Type} {f : α → Bool} {x : Option α} {v : α} (h : x = some v) (hf : f v = true) : oB f x = true := by subst h; exact hf

theorem mcall_sound (hT : T.ok P) (hm : P.follows .mixedOrders = true) {F : FuncId → Option MFn} (hF : MOk P T F) (fuel : Nat) : ∀ n, CallOk P (mcall T F fuel n) ∧ ∀ g as h K, mcall T F fuel n g as h K = true → T.go g = true := by
  intro n
  induction n with
  | zero => exact ⟨fun f args h K hq => (by cases hq), fun g as h K hq => (by cases hq)⟩
  | succ n ih =>
    have B : ∀ f args h K, mcall T F fuel (n + 1) f args h K = true → ∃ x, mfnOf T P f = some x ∧ mbody T fuel (mcall T F fuel n) args h K x = true := fun f args h K hq => by
      obtain ⟨x, h1, h2⟩ := oB_some (show oB (mbody T fuel (mcall T F fuel n) args h K) (F f) = true from hq)
      exact ⟨x, hF _ _ h1, h2⟩
    refine ⟨fun f args h K hq => ?_, fun g as h K hq => ?_⟩
    · obtain ⟨x, h1, h2⟩ := B _ _ _ _ hq
      unfold mfnOf at h1
      split at h1
      · rename_i fn hf
        split at h1
        · rename_i c hb
          split at h1
          · rename_i hg
            simp only [Bool.and_eq_true] at hg
            split at h1
            · rename_i m ps rs k1 k2 k3
              injection h1 with h1; subst h1
              have hn : fn.ntmps ≤ 512 := Nat.le_of_ble_eq_true hg.2
              obtain ⟨E1, g1, g2⟩ := oB_some (show oB (fun e => m.run T (mcall T F fuel n) fuel e [] h (endM T rs K)) (E.init ps args E.none) = true from h2)
              have hR := init_sound (n := fn.ntmps) hn (pre := []) k2 rfl (by simpa using Rel.none fn.ntmps) g1
              simp only [List.nil_append, Nat.zero_add] at hR
              refine CT_of_body hT hf hb (mx_sound hT hm hn ih.1 ih.2 fuel c k1 hR (Nat.le_refl _) (fun x E2 e2 ds h' hR2 hk => ?_) g2)
              change Bool.rec (motive := fun _ => Bool) false (List.rec (motive := fun _ => Bool) (oB (fun vs => K (packR vs) h') (mres T E2 h' rs))
                (fun _ _ _ => dsOkB ds h' && oB (fun vs => K (packR vs) (dsCut ds h')) (mres T E2 (dsCut ds h') rs)) ds) (isEnd x) = true at hk
              have hx : isEnd x = true := by
                cases hx : isEnd x with
                | true => rfl
                | false => rw [hx] at hk; cases hk
              rw [hx] at hk
              have hk' : (dsOkB ds h' && oB (fun vs => K (packR vs) (dsCut ds h')) (mres T E2 (dsCut ds h') rs)) = true := by
                cases ds with
                | nil => exact hk
                | cons => exact hk
              simp only [Bool.and_eq_true] at hk'
              obtain ⟨vs, q1, q2⟩ := oB_some hk'.2
              refine ⟨?_, dsOkB_ok hk'.1, vs, mres_sound hR2 k3 q1, q2⟩
              cases x <;> first | exact Or.inl rfl | exact Or.inr rfl | cases hx
            · cases h1
          · cases h1
        · cases h1
      · cases h1
    · obtain ⟨x, h1, h2⟩ := B _ _ _ _ hq
      unfold mfnOf at h1
      split at h1
      · split at h1
        · split at h1
          · rename_i hg
            simp only [Bool.and_eq_true] at hg
            exact hg.1
          · cases h1
        · cases h1
      · cases h1

theorem CT_of_mcall (hT : T.ok P) (hm : P.follows .mixedOrders = true) {F : FuncId → Option MFn} (hF : MOk P T F) {fuel n : Nat} {f : FuncId} {args : List AV} {K : AV → Heap → Bool} (hq : mcall T F fuel n f args h K = true) : CT P f args h fun v h' => K v h' = true :=
  (mcall_sound hT hm hF fuel n).1 _ _ _ _ hq

end
end Go.Ab
/-! Tables of turned functions. -/
namespace Go.Ab

noncomputable def tblOf (l : List (Nat × MFn)) : Tr MFn := List.rec (motive := fun _ => Tr MFn) .nil (fun p _ ih => Tr.set (nat_lit 60) ih p.1 p.2) l
noncomputable def fnsOf (l : List (Nat × MFn)) (f : FuncId) : Option MFn := Tr.get (tblOf l) f

/-- Each is what its number says. -/
def AllOk (P : Program) (T : Tab) : List (Nat × MFn) → Prop
  | [] => True
  | p :: l => mfnOf T P p.1 = some p.2 ∧ AllOk P T l

theorem Tr.get_set {α : Type} {t : Tr α} {k j : Nat} {v x : α} (h : (Tr.set 60 t k v).get j = some x) (hk : k < 1000000000000) : (j = k ∧ x = v) ∨ t.get j = some x := by
  by_cases hj : k = j
  · subst hj
    rw [Tr.get_set_eq _ _ _ _ (by omega)] at h
    injection h with h
    exact .inl ⟨rfl, h.symm⟩
  · rw [Tr.get_set_ne _ _ _ _ _ hj] at h
    exact .inr h

theorem MOk_of {P : Program} {T : Tab} : ∀ {l : List (Nat × MFn)}, l.all (fun p => decide (p.1 < 1000000000000)) = true → AllOk P T l → MOk P T (fnsOf l)
  | [], _, _, f, x, h => by
    have : fnsOf [] f = none := rfl
    rw [this] at h; cases h
  | p :: l, hb, ha, f, x, h => by
    simp only [List.all_cons, Bool.and_eq_true, decide_eq_true_eq] at hb
    rcases Tr.get_set (t := tblOf l) h hb.1 with ⟨rfl, rfl⟩ | h
    · exact ha.1
    · exact MOk_of hb.2 ha.2 f x h
end Go.Ab
