/- Abstract values, memory and operations, and how they are related to the model. -/
import Derived.Calls
import Derived.Laws.Sem
import GoSem.Dispatch
set_option linter.unusedSimpArgs false
set_option linter.unusedVariables false
/-! Abstract values, heaps, and how they are related to the model's memory. -/
namespace Go.Ab

/-- Abstract values. 'ptr', 'sl', 'mp': memory of our own, by its number; 'rp', 'rs': memory that nobody writes, by what it reads as. -/
inductive AV where
  | bool (b : Bool)
  | int (k : IntKind) (n : Int)
  | str (s : ByteArray)
  | nilp | nils | nilm | nilf | nili
  | ptr (id off : Nat)
  | sl (id off es len cm : Nat) (ex : Bool)
  | mp (id : Nat)
  | rp (cs : List AV)
  | rs (len : Nat) (cs : List AV)
  | fn (f : Fn) (first captured : List AV)
  | ifc (t : TypeId) (v : AV)
  /-- 'n': how many cells -/
  | agg (n : Nat) (cs : List AV)
  | tup (vs : List AV)
  | any
  deriving Inhabited

abbrev Sig := Nat → Option (Nat × Nat)

/-- How many cells a block has. -/
def csize (w : World) (b : Nat) : Nat :=
  match w.heap[b]? with
  | some (.cells c _ _) => c.size
  | _ => 0

def cellsAt (w : World) (b o : Nat) (vs : List Value) : Prop := ∀ i v, vs[i]? = some v → w.cell? ⟨b, o + i, none⟩ = some v

/-- Each of them is the value of one cell. -/
def ones (vs : List Value) : Prop := ∀ v, v ∈ vs → v.oneCell' = true

theorem ones.take {vs : List Value} (h : ones vs) (n : Nat) : ones (vs.take n) := fun v hv => h v (List.mem_of_mem_take hv)
theorem ones.drop {vs : List Value} (h : ones vs) (n : Nat) : ones (vs.drop n) := fun v hv => h v (List.mem_of_mem_drop hv)
theorem ones.append {vs us : List Value} (h : ones vs) (k : ones us) : ones (vs ++ us) := fun v hv => (List.mem_append.1 hv).elim (h v) (k v)
theorem ones_nil : ones [] := fun v hv => by simp at hv
theorem ones_one {v : Value} (h : v.oneCell' = true) : ones [v] := fun u hu => by simp at hu; subst hu; exact h
theorem ones.get {vs : List Value} (h : ones vs) {i : Nat} {v : Value} (hi : vs[i]? = some v) : v.oneCell' = true := h v (List.mem_of_getElem? hi)

mutual
def VR (σ : Sig) (Z : Nat → Prop) (w : World) : AV → Value → Prop
  | .bool b, v => v = .bool b
  | .int k n, v => v = .int k n
  | .str s, v => v = .string s
  | .nilp, v => v = .pointer none
  | .nils, v => v = .slice none 0 0
  | .nilm, v => v = .map none
  | .nilf, v => v = .nilFunc
  | .nili, v => v = .nilIface
  | .ptr id off, v => ∃ p, σ id = some p ∧ v = .pointer (some ⟨p.1, p.2 + off, none⟩)
  | .sl id off es len cm ex, v => ∃ p a c, σ id = some p ∧ v = .slice (some a) len c ∧ a.spot = none ∧ len ≤ cm ∧ cm ≤ c ∧ (ex = true → c = cm) ∧
      (c ≠ 0 → a = ⟨p.1, p.2 + off, none⟩) ∧ p.2 + off + c * es ≤ csize w p.1
  | .mp id, v => ∃ p, σ id = some p ∧ v = .map (some p.1)
  | .rp cs, v => ∃ b o vs, v = .pointer (some ⟨b, o, none⟩) ∧ (cs ≠ [] → Z b) ∧ VRs σ Z w cs vs ∧ cellsAt w b o vs ∧ ones vs
  | .rs len cs, v => ∃ b o c vs, v = .slice (some ⟨b, o, none⟩) len c ∧ len ≤ c ∧ (cs ≠ [] → Z b) ∧ VRs σ Z w cs vs ∧ cellsAt w b o vs ∧ ones vs
  | .fn f first captured, v => ∃ xs ys : Array Value, v = .func f xs ys ∧ VRs σ Z w first xs.toList ∧ VRs σ Z w captured ys.toList
  | .ifc t x, v => ∃ y, v = .iface t y ∧ VR σ Z w x y
  | .agg n cs, v => ∃ xs : Array Value, v = .agg xs ∧ xs.size = n ∧ VRs σ Z w cs xs.toList ∧ ones xs.toList
  | .tup cs, v => ∃ xs : Array Value, v = .tuple xs ∧ VRs σ Z w cs xs.toList
  | .any, _ => True
def VRs (σ : Sig) (Z : Nat → Prop) (w : World) : List AV → List Value → Prop
  | [], vs => vs = []
  | a :: as, vs => ∃ v vs', vs = v :: vs' ∧ VR σ Z w a v ∧ VRs σ Z w as vs'
end

theorem VRs.length {σ : Sig} {Z : Nat → Prop} {w : World} : ∀ {as : List AV} {vs : List Value}, VRs σ Z w as vs → vs.length = as.length
  | [], vs, h => by simp only [VRs] at h; simp [h]
  | a :: as, vs, h => by
    simp only [VRs] at h
    obtain ⟨v, vs', rfl, _, h'⟩ := h
    simp [VRs.length h']

theorem VRs.get {σ : Sig} {Z : Nat → Prop} {w : World} : ∀ {as : List AV} {vs : List Value} {i : Nat} {a : AV}, VRs σ Z w as vs → as[i]? = some a → ∃ v, vs[i]? = some v ∧ VR σ Z w a v
  | [], vs, i, a, h, hi => by simp at hi
  | a :: as, vs, i, b, h, hi => by
    simp only [VRs] at h
    obtain ⟨v, vs', rfl, hv, h'⟩ := h
    cases i with
    | zero => simp at hi; subst hi; exact ⟨v, rfl, hv⟩
    | succ i => simpa using VRs.get h' (by simpa using hi)

theorem VRs.append {σ : Sig} {Z : Nat → Prop} {w : World} : ∀ {as bs : List AV} {vs us : List Value}, VRs σ Z w as vs → VRs σ Z w bs us → VRs σ Z w (as ++ bs) (vs ++ us)
  | [], bs, vs, us, h, h' => by simp only [VRs] at h; subst h; simpa using h'
  | a :: as, bs, vs, us, h, h' => by
    simp only [VRs] at h
    obtain ⟨v, vs', rfl, hv, ht⟩ := h
    simp only [List.cons_append, VRs]
    exact ⟨v, vs' ++ us, rfl, hv, VRs.append ht h'⟩

theorem VRs.take {σ : Sig} {Z : Nat → Prop} {w : World} : ∀ {as : List AV} {vs : List Value} (n : Nat), VRs σ Z w as vs → VRs σ Z w (as.take n) (vs.take n)
  | [], vs, n, h => by simp only [VRs] at h; subst h; simp [VRs]
  | a :: as, vs, 0, h => by simp [VRs]
  | a :: as, vs, n + 1, h => by
    simp only [VRs] at h
    obtain ⟨v, vs', rfl, hv, ht⟩ := h
    simp only [List.take_succ_cons, VRs]
    exact ⟨v, _, rfl, hv, VRs.take n ht⟩

theorem VRs.drop {σ : Sig} {Z : Nat → Prop} {w : World} : ∀ {as : List AV} {vs : List Value} (n : Nat), VRs σ Z w as vs → VRs σ Z w (as.drop n) (vs.drop n)
  | [], vs, n, h => by simp only [VRs] at h; subst h; simp [VRs]
  | a :: as, vs, 0, h => by simpa using h
  | a :: as, vs, n + 1, h => by
    simp only [VRs] at h
    obtain ⟨v, vs', rfl, hv, ht⟩ := h
    simpa using VRs.drop n ht

theorem VRs.set {σ : Sig} {Z : Nat → Prop} {w : World} : ∀ {as : List AV} {vs : List Value} (i : Nat) {a : AV} {v : Value}, VRs σ Z w as vs → VR σ Z w a v → VRs σ Z w (as.set i a) (vs.set i v)
  | [], vs, i, a, v, h, _ => by simp only [VRs] at h; subst h; simp [VRs]
  | b :: as, vs, 0, a, v, h, hv => by
    simp only [VRs] at h
    obtain ⟨u, vs', rfl, _, ht⟩ := h
    simp only [List.set_cons_zero, VRs]
    exact ⟨v, vs', rfl, hv, ht⟩
  | b :: as, vs, i + 1, a, v, h, hv => by
    simp only [VRs] at h
    obtain ⟨u, vs', rfl, hu, ht⟩ := h
    simp only [List.set_cons_succ, VRs]
    exact ⟨u, _, rfl, hu, VRs.set i ht hv⟩

theorem VRs.of_get {σ : Sig} {Z : Nat → Prop} {w : World} : ∀ {as : List AV} {vs : List Value}, as.length = vs.length → (∀ (i : Nat) a v, as[i]? = some a → vs[i]? = some v → VR σ Z w a v) → VRs σ Z w as vs
  | [], vs, hl, _ => by simp only [VRs]; exact List.eq_nil_of_length_eq_zero (by simpa using hl.symm)
  | a :: as, [], hl, _ => by simp at hl
  | a :: as, v :: vs, hl, h => by
    simp only [VRs]
    exact ⟨v, vs, rfl, h 0 a v rfl rfl, VRs.of_get (by simpa using hl) fun i a v ha hv => h (i + 1) a v (by simpa using ha) (by simpa using hv)⟩

/-- What a step may do to what is known. -/
structure Grow (σ : Sig) (Z : Nat → Prop) (w : World) (σ' : Sig) (Z' : Nat → Prop) (w' : World) : Prop where
  sig : ∀ id p, σ id = some p → σ' id = some p
  z : ∀ b, Z b → Z' b
  mem : ∀ b, Z b → w'.heap[b]? = w.heap[b]?
  csz : ∀ b, csize w b ≤ csize w' b

theorem cell_of_block {w w' : World} {b : Nat} (h : w'.heap[b]? = w.heap[b]?) (o : Nat) (s : Option Nat) : w'.cell? ⟨b, o, s⟩ = w.cell? ⟨b, o, s⟩ := by
  simp [World.cell?, h]

mutual
theorem VR.grow {σ σ' : Sig} {Z Z' : Nat → Prop} {w w' : World} (g : Grow σ Z w σ' Z' w') : ∀ {a : AV} {v : Value}, VR σ Z w a v → VR σ' Z' w' a v
  | .bool b, v, h => by simpa only [VR] using h
  | .int k n, v, h => by simpa only [VR] using h
  | .str s, v, h => by simpa only [VR] using h
  | .nilp, v, h => by simpa only [VR] using h
  | .nils, v, h => by simpa only [VR] using h
  | .nilm, v, h => by simpa only [VR] using h
  | .nilf, v, h => by simpa only [VR] using h
  | .nili, v, h => by simpa only [VR] using h
  | .ptr id off, v, h => by
    simp only [VR] at h ⊢
    obtain ⟨p, hp, e⟩ := h
    exact ⟨p, g.sig _ _ hp, e⟩
  | .sl id off es len cm ex, v, h => by
    simp only [VR] at h ⊢
    obtain ⟨p, a, c, hp, e, h1, h2, h3, h4, h5, h6⟩ := h
    exact ⟨p, a, c, g.sig _ _ hp, e, h1, h2, h3, h4, h5, Nat.le_trans h6 (g.csz _)⟩
  | .mp id, v, h => by
    simp only [VR] at h ⊢
    obtain ⟨p, hp, e⟩ := h
    exact ⟨p, g.sig _ _ hp, e⟩
  | .rp cs, v, h => by
    simp only [VR] at h ⊢
    obtain ⟨b, o, vs, e, hz, hv, hc, h1⟩ := h
    refine ⟨b, o, vs, e, fun hn => g.z _ (hz hn), VRs.grow g hv, fun i v hi => ?_, h1⟩
    have hn : cs ≠ [] := by
      intro hn; subst hn
      simp only [VRs] at hv; subst hv; simp at hi
    rw [cell_of_block (g.mem _ (hz hn))]; exact hc i v hi
  | .rs len cs, v, h => by
    simp only [VR] at h ⊢
    obtain ⟨b, o, c, vs, e, hl, hz, hv, hc, h1⟩ := h
    refine ⟨b, o, c, vs, e, hl, fun hn => g.z _ (hz hn), VRs.grow g hv, fun i v hi => ?_, h1⟩
    have hn : cs ≠ [] := by
      intro hn; subst hn
      simp only [VRs] at hv; subst hv; simp at hi
    rw [cell_of_block (g.mem _ (hz hn))]; exact hc i v hi
  | .fn f first captured, v, h => by
    simp only [VR] at h ⊢
    obtain ⟨xs, ys, e, h1, h2⟩ := h
    exact ⟨xs, ys, e, VRs.grow g h1, VRs.grow g h2⟩
  | .ifc t x, v, h => by
    simp only [VR] at h ⊢
    obtain ⟨y, e, h1⟩ := h
    exact ⟨y, e, VR.grow g h1⟩
  | .agg n cs, v, h => by
    simp only [VR] at h ⊢
    obtain ⟨xs, e, h0, h1, h2⟩ := h
    exact ⟨xs, e, h0, VRs.grow g h1, h2⟩
  | .tup cs, v, h => by
    simp only [VR] at h ⊢
    obtain ⟨xs, e, h1⟩ := h
    exact ⟨xs, e, VRs.grow g h1⟩
  | .any, v, h => by simp only [VR]
theorem VRs.grow {σ σ' : Sig} {Z Z' : Nat → Prop} {w w' : World} (g : Grow σ Z w σ' Z' w') : ∀ {as : List AV} {vs : List Value}, VRs σ Z w as vs → VRs σ' Z' w' as vs
  | [], vs, h => by simpa only [VRs] using h
  | a :: as, vs, h => by
    simp only [VRs] at h ⊢
    obtain ⟨v, vs', e, h1, h2⟩ := h
    exact ⟨v, vs', e, VR.grow g h1, VRs.grow g h2⟩
end

end Go.Ab
/-! Abstract memory. -/
namespace Go.Ab

/-! ### Tables by number -/
inductive Tr (α : Type) where
  | nil
  | node (s : Option α) (a b c d e f g h : Tr α)
  deriving Inhabited

/-- One of eight. -/
noncomputable def sel8 {β : Type} (i : Nat) (a b c d e f g h : β) : β :=
  Bool.rec (motive := fun _ => β)
    (Bool.rec (motive := fun _ => β) (Bool.rec (motive := fun _ => β) a b (Nat.ble (nat_lit 1) i)) (Bool.rec (motive := fun _ => β) c d (Nat.ble (nat_lit 3) i)) (Nat.ble (nat_lit 2) i))
    (Bool.rec (motive := fun _ => β) (Bool.rec (motive := fun _ => β) e f (Nat.ble (nat_lit 5) i)) (Bool.rec (motive := fun _ => β) g h (Nat.ble (nat_lit 7) i)) (Nat.ble (nat_lit 6) i))
    (Nat.ble (nat_lit 4) i)

theorem lt8 {i : Nat} (h : i < 8) : i = 0 ∨ i = 1 ∨ i = 2 ∨ i = 3 ∨ i = 4 ∨ i = 5 ∨ i = 6 ∨ i = 7 := by omega

noncomputable def Tr.get {α : Type} (t : Tr α) : Nat → Option α :=
  Tr.rec (motive := fun _ => Nat → Option α) (fun _ => none)
    (fun s _ _ _ _ _ _ _ _ ga gb gc gd ge gf gg gh k =>
      Bool.rec (motive := fun _ => Option α) (sel8 (Nat.mod (Nat.sub k (nat_lit 1)) (nat_lit 8)) ga gb gc gd ge gf gg gh (Nat.div (Nat.sub k (nat_lit 1)) (nat_lit 8))) s (Nat.beq k (nat_lit 0))) t

noncomputable def Tr.w0 {α : Type} (j : Tr α → Tr α) (s : Option α) (a b c d e f g h : Tr α) : Tr α := .node s (j a) b c d e f g h
noncomputable def Tr.w1 {α : Type} (j : Tr α → Tr α) (s : Option α) (a b c d e f g h : Tr α) : Tr α := .node s a (j b) c d e f g h
noncomputable def Tr.w2 {α : Type} (j : Tr α → Tr α) (s : Option α) (a b c d e f g h : Tr α) : Tr α := .node s a b (j c) d e f g h
noncomputable def Tr.w3 {α : Type} (j : Tr α → Tr α) (s : Option α) (a b c d e f g h : Tr α) : Tr α := .node s a b c (j d) e f g h
noncomputable def Tr.w4 {α : Type} (j : Tr α → Tr α) (s : Option α) (a b c d e f g h : Tr α) : Tr α := .node s a b c d (j e) f g h
noncomputable def Tr.w5 {α : Type} (j : Tr α → Tr α) (s : Option α) (a b c d e f g h : Tr α) : Tr α := .node s a b c d e (j f) g h
noncomputable def Tr.w6 {α : Type} (j : Tr α → Tr α) (s : Option α) (a b c d e f g h : Tr α) : Tr α := .node s a b c d e f (j g) h
noncomputable def Tr.w7 {α : Type} (j : Tr α → Tr α) (s : Option α) (a b c d e f g h : Tr α) : Tr α := .node s a b c d e f g (j h)

noncomputable def Tr.setN {α : Type} (ih : Tr α → Nat → α → Tr α) (k : Nat) (v : α) (s : Option α) (a b c d e f g h : Tr α) : Tr α :=
  Bool.rec (motive := fun _ => Tr α)
    (sel8 (Nat.mod (Nat.sub k (nat_lit 1)) (nat_lit 8)) Tr.w0 Tr.w1 Tr.w2 Tr.w3 Tr.w4 Tr.w5 Tr.w6 Tr.w7 (fun t => ih t (Nat.div (Nat.sub k (nat_lit 1)) (nat_lit 8)) v) s a b c d e f g h)
    (.node (some v) a b c d e f g h) (Nat.beq k (nat_lit 0))

noncomputable def Tr.set {α : Type} (d : Nat) : Tr α → Nat → α → Tr α :=
  Nat.rec (motive := fun _ => Tr α → Nat → α → Tr α) (fun t _ _ => t)
    (fun _ ih t k v => Tr.rec (motive := fun _ => Tr α) (Tr.setN ih k v none .nil .nil .nil .nil .nil .nil .nil .nil)
      (fun s a b c d e f g h _ _ _ _ _ _ _ _ => Tr.setN ih k v s a b c d e f g h) t) d

def Tr.top {α : Type} : Tr α → Option α
  | .nil => none
  | .node s _ _ _ _ _ _ _ _ => s

def Tr.kid {α : Type} : Tr α → Nat → Tr α
  | .nil, _ => .nil
  | .node _ a _ _ _ _ _ _ _, 0 => a
  | .node _ _ a _ _ _ _ _ _, 1 => a
  | .node _ _ _ a _ _ _ _ _, 2 => a
  | .node _ _ _ _ a _ _ _ _, 3 => a
  | .node _ _ _ _ _ a _ _ _, 4 => a
  | .node _ _ _ _ _ _ a _ _, 5 => a
  | .node _ _ _ _ _ _ _ a _, 6 => a
  | .node _ _ _ _ _ _ _ _ a, _ => a

def Tr.upd {α : Type} (t : Tr α) (i : Nat) (c : Tr α) : Tr α :=
  .node t.top (if i = 0 then c else t.kid 0) (if i = 1 then c else t.kid 1) (if i = 2 then c else t.kid 2) (if i = 3 then c else t.kid 3) (if i = 4 then c else t.kid 4) (if i = 5 then c else t.kid 5) (if i = 6 then c else t.kid 6) (if i = 7 then c else t.kid 7)

def Tr.setTop {α : Type} (t : Tr α) (v : α) : Tr α := .node (some v) (t.kid 0) (t.kid 1) (t.kid 2) (t.kid 3) (t.kid 4) (t.kid 5) (t.kid 6) (t.kid 7)

section
variable {α : Type}

theorem Tr.get_nil (k : Nat) : (Tr.nil : Tr α).get k = none := rfl

theorem Tr.get_eq (t : Tr α) (k : Nat) : t.get k = if k = 0 then t.top else (t.kid ((k - 1) % 8)).get ((k - 1) / 8) := by
  cases t with
  | nil => simp only [Tr.get_nil, Tr.top, Tr.kid, ite_self]
  | node s a b c d e f g h =>
    by_cases h0 : k = 0
    · subst h0; rfl
    · rw [if_neg h0]
      have hb : Nat.beq k 0 = false := by cases k with | zero => exact absurd rfl h0 | succ n => rfl
      have e1 : (Tr.node s a b c d e f g h).get k = sel8 ((k - 1) % 8) a.get b.get c.get d.get e.get f.get g.get h.get ((k - 1) / 8) := by
        show Bool.rec (motive := fun _ => Option α) _ s (Nat.beq k 0) = _
        rw [hb]; rfl
      rw [e1]
      have hl : (k - 1) % 8 < 8 := Nat.mod_lt _ (by omega)
      generalize (k - 1) % 8 = i at hl ⊢
      rcases lt8 hl with rfl | rfl | rfl | rfl | rfl | rfl | rfl | rfl <;> rfl

theorem Tr.set_eq (n : Nat) (t : Tr α) (k : Nat) (v : α) : Tr.set (n + 1) t k v = if k = 0 then t.setTop v else t.upd ((k - 1) % 8) (Tr.set n (t.kid ((k - 1) % 8)) ((k - 1) / 8) v) := by
  by_cases h0 : k = 0
  · subst h0; cases t <;> rfl
  · rw [if_neg h0]
    have hb : Nat.beq k 0 = false := by cases k with | zero => exact absurd rfl h0 | succ n => rfl
    have hl : (k - 1) % 8 < 8 := Nat.mod_lt _ (by omega)
    have key : ∀ s a b c d e f g h, Tr.setN (Tr.set n) k v s a b c d e f g h = sel8 ((k - 1) % 8) Tr.w0 Tr.w1 Tr.w2 Tr.w3 Tr.w4 Tr.w5 Tr.w6 Tr.w7 (fun t => Tr.set n t ((k - 1) / 8) v) s a b c d e f g h := by
      intro s a b c d e f g h
      show Bool.rec (motive := fun _ => Tr α) _ _ (Nat.beq k 0) = _
      rw [hb]; rfl
    cases t with
    | nil =>
      have e1 : Tr.set (n + 1) Tr.nil k v = Tr.setN (Tr.set n) k v none .nil .nil .nil .nil .nil .nil .nil .nil := rfl
      rw [e1, key]
      generalize (k - 1) % 8 = i at hl ⊢
      rcases lt8 hl with rfl | rfl | rfl | rfl | rfl | rfl | rfl | rfl <;> rfl
    | node s a b c d e f g h =>
      have e1 : Tr.set (n + 1) (Tr.node s a b c d e f g h) k v = Tr.setN (Tr.set n) k v s a b c d e f g h := rfl
      rw [e1, key]
      generalize (k - 1) % 8 = i at hl ⊢
      rcases lt8 hl with rfl | rfl | rfl | rfl | rfl | rfl | rfl | rfl <;> rfl

theorem Tr.kid_upd (t : Tr α) (c : Tr α) {i j : Nat} (hi : i < 8) (hj : j < 8) : (t.upd i c).kid j = if i = j then c else t.kid j := by
  rcases lt8 hj with rfl | rfl | rfl | rfl | rfl | rfl | rfl | rfl <;> rfl
theorem Tr.kid_setTop (t : Tr α) (v : α) {j : Nat} (hj : j < 8) : (t.setTop v).kid j = t.kid j := by
  rcases lt8 hj with rfl | rfl | rfl | rfl | rfl | rfl | rfl | rfl <;> rfl
theorem Tr.setTop_upd (t : Tr α) (v : α) (i : Nat) (c : Tr α) : (t.upd i c).setTop v = (t.setTop v).upd i c := rfl
theorem ite_swap {β : Type} {i j n : Nat} (h : i ≠ j) (a b x : β) : (if j = n then b else if i = n then a else x) = if i = n then a else if j = n then b else x := by
  by_cases h1 : i = n
  · subst h1; simp [show ¬ j = i from fun e => h e.symm]
  · by_cases h2 : j = n <;> simp [h1, h2]
theorem ite_twice {β : Type} {i n : Nat} (a b x : β) : (if i = n then b else if i = n then a else x) = if i = n then b else x := by
  by_cases h1 : i = n <;> simp [h1]
theorem Tr.upd_comm (t : Tr α) {i j : Nat} (h : i ≠ j) (a b : Tr α) : (t.upd i a).upd j b = (t.upd j b).upd i a := by
  have e1 : (t.upd i a).upd j b = .node t.top (if j = 0 then b else if i = 0 then a else t.kid 0) (if j = 1 then b else if i = 1 then a else t.kid 1) (if j = 2 then b else if i = 2 then a else t.kid 2) (if j = 3 then b else if i = 3 then a else t.kid 3) (if j = 4 then b else if i = 4 then a else t.kid 4) (if j = 5 then b else if i = 5 then a else t.kid 5) (if j = 6 then b else if i = 6 then a else t.kid 6) (if j = 7 then b else if i = 7 then a else t.kid 7) := rfl
  have e2 : (t.upd j b).upd i a = .node t.top (if i = 0 then a else if j = 0 then b else t.kid 0) (if i = 1 then a else if j = 1 then b else t.kid 1) (if i = 2 then a else if j = 2 then b else t.kid 2) (if i = 3 then a else if j = 3 then b else t.kid 3) (if i = 4 then a else if j = 4 then b else t.kid 4) (if i = 5 then a else if j = 5 then b else t.kid 5) (if i = 6 then a else if j = 6 then b else t.kid 6) (if i = 7 then a else if j = 7 then b else t.kid 7) := rfl
  rw [e1, e2]
  simp only [ite_swap h]
theorem Tr.upd_upd (t : Tr α) (i : Nat) (a b : Tr α) : (t.upd i a).upd i b = t.upd i b := by
  have e1 : (t.upd i a).upd i b = .node t.top (if i = 0 then b else if i = 0 then a else t.kid 0) (if i = 1 then b else if i = 1 then a else t.kid 1) (if i = 2 then b else if i = 2 then a else t.kid 2) (if i = 3 then b else if i = 3 then a else t.kid 3) (if i = 4 then b else if i = 4 then a else t.kid 4) (if i = 5 then b else if i = 5 then a else t.kid 5) (if i = 6 then b else if i = 6 then a else t.kid 6) (if i = 7 then b else if i = 7 then a else t.kid 7) := rfl
  rw [e1]
  simp only [ite_twice]
  rfl

theorem Tr.get_set_ne : ∀ (d : Nat) (t : Tr α) (k j : Nat) (v : α), k ≠ j → (Tr.set d t k v).get j = t.get j
  | 0, _, _, _, _, _ => rfl
  | d + 1, t, k, j, v, h => by
    rw [Tr.set_eq]
    by_cases k0 : k = 0
    · rw [if_pos k0, Tr.get_eq, Tr.get_eq t]
      have j0 : ¬ j = 0 := fun e => h (k0.trans e.symm)
      rw [if_neg j0, if_neg j0, Tr.kid_setTop _ _ (Nat.mod_lt _ (by omega))]
    · rw [if_neg k0, Tr.get_eq, Tr.get_eq t]
      by_cases j0 : j = 0
      · rw [if_pos j0, if_pos j0]; rfl
      · rw [if_neg j0, if_neg j0, Tr.kid_upd _ _ (Nat.mod_lt _ (by omega)) (Nat.mod_lt _ (by omega))]
        split
        · rename_i e0
          rw [← e0, Tr.get_set_ne d]
          omega
        · rfl

theorem Tr.get_set_eq : ∀ (d : Nat) (t : Tr α) (k : Nat) (v : α), k + 1 < 2 ^ d → (Tr.set d t k v).get k = some v
  | 0, _, k, _, h => by simp at h
  | d + 1, t, k, v, h => by
    have h2 : k + 1 < 2 * 2 ^ d := by rw [Nat.pow_succ] at h; omega
    rw [Tr.set_eq]
    by_cases k0 : k = 0
    · rw [if_pos k0, Tr.get_eq, if_pos k0]; rfl
    · rw [if_neg k0, Tr.get_eq, if_neg k0, Tr.kid_upd _ _ (Nat.mod_lt _ (by omega)) (Nat.mod_lt _ (by omega)), if_pos rfl]
      exact Tr.get_set_eq d _ _ _ (by omega)

theorem Tr.set_comm : ∀ (d : Nat) (t : Tr α) (k j : Nat) (v u : α), k ≠ j → Tr.set d (Tr.set d t k v) j u = Tr.set d (Tr.set d t j u) k v
  | 0, _, _, _, _, _, _ => rfl
  | d + 1, t, k, j, v, u, h => by
    rw [Tr.set_eq d t k v, Tr.set_eq d t j u]
    by_cases k0 : k = 0
    · have j0 : ¬ j = 0 := fun e => h (k0.trans e.symm)
      rw [if_pos k0, if_neg j0, Tr.set_eq, if_neg j0, Tr.set_eq, if_pos k0, Tr.kid_setTop _ _ (Nat.mod_lt _ (by omega))]; rfl
    · by_cases j0 : j = 0
      · rw [if_neg k0, if_pos j0, Tr.set_eq, if_pos j0, Tr.set_eq, if_neg k0, Tr.kid_setTop _ _ (Nat.mod_lt _ (by omega))]; rfl
      · rw [if_neg k0, if_neg j0, Tr.set_eq, if_neg j0, Tr.set_eq, if_neg k0, Tr.kid_upd _ _ (Nat.mod_lt _ (by omega)) (Nat.mod_lt _ (by omega)), Tr.kid_upd _ _ (Nat.mod_lt _ (by omega)) (Nat.mod_lt _ (by omega))]
        by_cases hij : (k - 1) % 8 = (j - 1) % 8
        · rw [if_pos hij, if_pos hij.symm, hij, Tr.upd_upd, Tr.upd_upd, Tr.set_comm d]
          omega
        · rw [if_neg hij, if_neg (fun e => hij e.symm), Tr.upd_comm _ hij]
end

/-! ### The cells of a block -/
/-- The first 'n' of a list, and what is not known behind its end. -/
def pad : Nat → List AV → List AV
  | 0, _ => []
  | n + 1, [] => .any :: pad n []
  | n + 1, x :: xs => x :: pad n xs

theorem pad_length : ∀ (n : Nat) (xs : List AV), (pad n xs).length = n
  | 0, _ => rfl
  | n + 1, [] => by simp [pad, pad_length n]
  | n + 1, x :: xs => by simp [pad, pad_length n]

theorem pad_get : ∀ (n : Nat) (xs : List AV) (i : Nat), (pad n xs)[i]? = if i < n then some (xs.getD i .any) else none
  | 0, _, i => by simp [pad]
  | n + 1, [], i => by
    cases i with
    | zero => simp [pad]
    | succ i => simp only [pad, List.getElem?_cons_succ, pad_get n]; simp
  | n + 1, x :: xs, i => by
    cases i with
    | zero => simp [pad]
    | succ i => simp only [pad, List.getElem?_cons_succ, pad_get n]; simp

theorem pad_self {n : Nat} {xs : List AV} (h : xs.length = n) : pad n xs = xs := by
  apply List.ext_getElem?
  intro i
  rw [pad_get]
  split
  · rw [List.getElem?_eq_getElem (by omega)]; simp [List.getElem?_eq_getElem (show i < xs.length by omega)]
  · rw [List.getElem?_eq_none (by omega)]

/-- 'lst n xs': n cells. 'ov m zl z ov': m cells, each like the one of 'z' (of 'zl' cells) at its place, but where 'ov' lies above: from where, how many, what. -/
inductive Cs where
  | lst (n : Nat) (xs : List AV)
  | ov (m zl : Nat) (z : List AV) (os : List (Nat × Nat × List AV))
  deriving Inhabited

def ovAt (zl : Nat) (z : List AV) : List (Nat × Nat × List AV) → Nat → AV
  | [], i => z.getD (i % zl) .any
  | (o, k, ys) :: r, i => if o ≤ i ∧ i < o + k then ys.getD (i - o) .any else ovAt zl z r i

def Cs.toList : Cs → List AV
  | .lst n xs => pad n xs
  | .ov m zl z os => (List.range m).map (ovAt zl z os)

def Cs.len : Cs → Nat
  | .lst n _ => n
  | .ov m _ _ _ => m

theorem Cs.len_eq (c : Cs) : c.len = c.toList.length := by cases c <;> simp [Cs.len, Cs.toList, pad_length]

def Cs.get? : Cs → Nat → Option AV
  | .lst n xs, i => if i < n then some (xs.getD i .any) else none
  | .ov m zl z os, i => if i < m then some (ovAt zl z os i) else none

theorem Cs.get?_eq (c : Cs) (i : Nat) : c.get? i = c.toList[i]? := by
  cases c with
  | lst n xs => simp only [Cs.get?, Cs.toList, pad_get]
  | ov m zl z os =>
    simp only [Cs.get?, Cs.toList]
    split <;> simp_all

/-- What lies from 'o' on, 'n' cells. -/
def ovRead (zl : Nat) (z : List AV) (o n : Nat) : List (Nat × Nat × List AV) → Option (List AV)
  | [] => some (if n = zl ∧ o % zl = 0 then pad n z else (List.range n).map fun i => z.getD ((o + i) % zl) .any)
  | (o', k, ys) :: r => if o' = o ∧ k = n then some (pad n ys) else if o' + k ≤ o ∨ o + n ≤ o' then ovRead zl z o n r else some ((List.range n).map fun i => ovAt zl z ((o', k, ys) :: r) (o + i))

theorem ovRead_eq {zl : Nat} {z : List AV} {o n : Nat} : ∀ {r : List (Nat × Nat × List AV)} {ys : List AV}, ovRead zl z o n r = some ys → ys.length = n ∧ ∀ i, i < n → ys[i]? = some (ovAt zl z r (o + i))
  | [], ys, h => by
    simp only [ovRead] at h
    injection h with h; subst h
    split
    · rename_i hz
      refine ⟨pad_length _ _, fun i hi => ?_⟩
      rw [pad_get, if_pos hi]
      simp only [ovAt]
      have : (o + i) % zl = i := by
        rw [Nat.add_mod, hz.2, Nat.zero_add, Nat.mod_mod, Nat.mod_eq_of_lt (by omega)]
      rw [this]
    · refine ⟨by simp, fun i hi => ?_⟩
      simp [hi, ovAt]
  | (o', k, xs) :: r, ys, h => by
    simp only [ovRead] at h
    split at h
    · rename_i he
      injection h with h; subst h
      obtain ⟨rfl, rfl⟩ := he
      refine ⟨pad_length _ _, fun i hi => ?_⟩
      rw [pad_get, if_pos hi]
      simp only [ovAt]
      rw [if_pos (by omega)]
      have : o' + i - o' = i := by omega
      rw [this]
    · split at h
      · rename_i hd
        obtain ⟨h1, h2⟩ := ovRead_eq h
        refine ⟨h1, fun i hi => ?_⟩
        rw [h2 i hi]
        simp only [ovAt]
        rw [if_neg (by omega)]
      · injection h with h; subst h
        refine ⟨by simp, fun i hi => ?_⟩
        simp [hi]

/-- The cells from 'o' on, 'n' of them. -/
def Cs.read (c : Cs) (o n : Nat) : Option (List AV) :=
  match c with
  | .lst m xs => if o + n ≤ m then some (pad n (xs.drop o)) else none
  | .ov m zl z os => if o + n ≤ m then ovRead zl z o n os else none

theorem Cs.read_eq {c : Cs} {o n : Nat} {ys : List AV} (h : c.read o n = some ys) : ys = (c.toList.drop o).take n ∧ o + n ≤ c.toList.length ∧ ys.length = n := by
  cases c with
  | lst m xs =>
    simp only [Cs.read] at h
    split at h
    · injection h with h; subst h
      refine ⟨?_, by simpa [Cs.toList, pad_length], pad_length _ _⟩
      apply List.ext_getElem?
      intro i
      simp only [Cs.toList, List.getElem?_take, List.getElem?_drop, pad_get]
      by_cases hi : i < n
      · simp [hi, show o + i < m by omega]
      · simp [hi]
    · cases h
  | ov m zl z os =>
    simp only [Cs.read] at h
    split at h
    · obtain ⟨h1, h2⟩ := ovRead_eq h
      refine ⟨?_, by simpa [Cs.toList], h1⟩
      apply List.ext_getElem?
      intro i
      simp only [Cs.toList, List.getElem?_map, List.getElem?_take, List.getElem?_drop]
      by_cases hi : i < n
      · rw [h2 i hi]; simp [hi, List.getElem?_range (show o + i < m by omega)]
      · rw [List.getElem?_eq_none (by omega)]; simp [hi]
    · cases h

/-- The cells from 'o' on become 'ys', that are 'k'. -/
def Cs.write (c : Cs) (o k : Nat) (ys : List AV) : Option Cs :=
  match c with
  | .lst n xs => if o + k ≤ n then some (if o = 0 ∧ k = n then .lst n ys else .lst n (pad o xs ++ ys ++ xs.drop (o + k))) else none
  | .ov m zl z os => if o + k ≤ m then some (.ov m zl z ((o, k, ys) :: os.filter fun x => !(x.1 == o && x.2.1 == k))) else none

theorem ovAt_filter {zl : Nat} {z : List AV} {o k i : Nat} (hi : ¬ (o ≤ i ∧ i < o + k)) : ∀ (r : List (Nat × Nat × List AV)), ovAt zl z (r.filter fun x => !(x.1 == o && x.2.1 == k)) i = ovAt zl z r i
  | [] => rfl
  | (o', k', ys) :: r => by
    simp only [List.filter_cons]
    by_cases he : o' = o ∧ k' = k
    · obtain ⟨rfl, rfl⟩ := he
      simp only [beq_self_eq_true, Bool.and_self, Bool.not_true, Bool.false_eq_true, if_false, ovAt, if_neg hi]
      exact ovAt_filter hi r
    · have : (!(o' == o && k' == k)) = true := by
        simp only [Bool.not_eq_true', Bool.and_eq_false_iff, beq_eq_false_iff_ne]
        by_cases h1 : o' = o
        · exact .inr fun h2 => he ⟨h1, h2⟩
        · exact .inl h1
      rw [if_pos this]
      simp only [ovAt, ovAt_filter hi r]

theorem Cs.write_eq {c c' : Cs} {o k : Nat} {ys : List AV} (hk : ys.length = k) (h : c.write o k ys = some c') : c'.toList = c.toList.take o ++ ys ++ c.toList.drop (o + ys.length) ∧ o + ys.length ≤ c.toList.length := by
  subst hk
  cases c with
  | lst n xs =>
    simp only [Cs.write] at h
    split at h
    · rename_i hle
      injection h with h; subst h
      refine ⟨?_, by simpa [Cs.toList, pad_length]⟩
      apply List.ext_getElem?
      intro i
      by_cases he : o = 0 ∧ ys.length = n
      · rw [if_pos he]
        obtain ⟨rfl, rfl⟩ := he
        simp only [Cs.toList, List.take_zero, List.nil_append, Nat.zero_add, pad_get]
        by_cases h2 : i < ys.length
        · rw [if_pos h2, List.getElem?_append_left h2, List.getElem?_eq_getElem h2]; simp [h2]
        · rw [if_neg h2, List.getElem?_append_right (by omega), List.getElem?_drop, pad_get, if_neg (by omega)]
      · rw [if_neg he]
        simp only [Cs.toList, pad_get]
        have lt : (List.take o (pad n xs)).length = o := by simp [pad_length]; omega
        by_cases h1 : i < o
        · have L : (pad o xs ++ ys ++ xs.drop (o + ys.length)).getD i .any = xs.getD i .any := by
            rw [List.getD_eq_getElem?_getD, List.append_assoc, List.getElem?_append_left (by rw [pad_length]; exact h1), pad_get, if_pos h1]; rfl
          have Q : (List.take o (pad n xs) ++ ys ++ List.drop (o + ys.length) (pad n xs))[i]? = some (xs.getD i .any) := by
            rw [List.append_assoc, List.getElem?_append_left (by omega), List.getElem?_take, if_pos h1, pad_get, if_pos (by omega)]
          rw [if_pos (by omega), L, Q]
        · by_cases h2 : i < o + ys.length
          · have L : (pad o xs ++ ys ++ xs.drop (o + ys.length)).getD i .any = ys.getD (i - o) .any := by
              rw [List.getD_eq_getElem?_getD, List.append_assoc, List.getElem?_append_right (by rw [pad_length]; omega), pad_length, List.getElem?_append_left (by omega)]; simp
            have Q : (List.take o (pad n xs) ++ ys ++ List.drop (o + ys.length) (pad n xs))[i]? = some (ys.getD (i - o) .any) := by
              rw [List.append_assoc, List.getElem?_append_right (by omega), lt, List.getElem?_append_left (by omega), List.getElem?_eq_getElem (by omega)]
              simp [show i - o < ys.length by omega]
            rw [if_pos (by omega), L, Q]
          · have Q : (List.take o (pad n xs) ++ ys ++ List.drop (o + ys.length) (pad n xs))[i]? = (pad n xs)[i]? := by
              rw [List.getElem?_append_right (by rw [List.length_append, lt]; omega), List.getElem?_drop, List.length_append, lt]
              have e1 : o + ys.length + (i - (o + ys.length)) = i := by omega
              rw [e1]
            rw [Q, pad_get]
            split
            · have L : (pad o xs ++ ys ++ xs.drop (o + ys.length)).getD i .any = xs.getD i .any := by
                rw [List.getD_eq_getElem?_getD, List.getElem?_append_right (by rw [List.length_append, pad_length]; omega), List.getElem?_drop, List.length_append, pad_length]
                have e2 : o + ys.length + (i - (o + ys.length)) = i := by omega
                rw [e2]; rfl
              rw [L]
            · rfl
    · cases h
  | ov m zl z os =>
    simp only [Cs.write] at h
    split at h
    · rename_i hm
      injection h with h; subst h
      refine ⟨?_, by simpa [Cs.toList] using hm⟩
      apply List.ext_getElem?
      intro i
      simp only [Cs.toList]
      by_cases hi : i < m
      · rw [List.getElem?_map, List.getElem?_range hi]
        simp only [Option.map_some, ovAt]
        by_cases h1 : i < o
        · rw [if_neg (by omega), List.append_assoc, List.getElem?_append_left (by simp; omega), List.getElem?_take, if_pos h1, List.getElem?_map, List.getElem?_range hi, ovAt_filter (by omega)]
          rfl
        · by_cases h2 : i < o + ys.length
          · rw [if_pos (by omega), List.append_assoc, List.getElem?_append_right (by simp; omega)]
            simp only [List.length_take, List.length_map, List.length_range]
            rw [List.getElem?_append_left (by omega)]
            have e : min o m = o := by omega
            rw [e, List.getElem?_eq_getElem (by omega)]
            simp [show i - o < ys.length by omega]
          · rw [if_neg (by omega), List.getElem?_append_right (by simp; omega), List.getElem?_drop]
            simp only [List.length_append, List.length_take, List.length_map, List.length_range]
            rw [List.getElem?_map, List.getElem?_range (by omega)]
            have e : o + ys.length + (i - (min o m + ys.length)) = i := by omega
            rw [e, ovAt_filter (by omega)]; simp
      · rw [List.getElem?_eq_none (by simp; omega), List.getElem?_eq_none (by simp; omega)]
    · cases h

/-! ### Objects and heaps -/
inductive AO where
  | row (strg : Bool) (cs : Cs)
  | map (es : List (AV × AV × Nat)) (clock : Nat)
  | mit (m : Option Nat) (since : Nat) (seen : List Nat) (stepped : Nat)
  /-- what a range over a function leaves: the block for deferred calls; the loop's record -/
  | dfr (full : Bool)
  | lp (rdy : Bool)
  deriving Inhabited

/-- A number is fresh (none), dead (some none) or live. -/
structure Heap where
  next : Nat
  tr : Tr (Option AO)
  deriving Inhabited

noncomputable def Heap.get (h : Heap) (id : Nat) : Option (Option AO) := Heap.rec (motive := fun _ => Option (Option AO)) (fun _ tr => Tr.get tr id) h
noncomputable def Heap.set (h : Heap) (id : Nat) (o : Option AO) : Heap := Heap.rec (motive := fun _ => Heap) (fun next tr => ⟨next, Tr.set (nat_lit 60) tr id o⟩) h
def Heap.empty : Heap := ⟨0, .nil⟩
noncomputable def Heap.live (h : Heap) (id : Nat) : Option AO := match h.get id with | some (some o) => some o | _ => none
noncomputable def Heap.bump (h : Heap) (n : Nat) : Heap := Heap.rec (motive := fun _ => Heap) (fun next tr => ⟨Nat.add next n, tr⟩) h

theorem Heap.set_next (h : Heap) (i : Nat) (o : Option AO) : (h.set i o).next = h.next := rfl
theorem Heap.bump_next (h : Heap) (n : Nat) : (h.bump n).next = h.next + n := rfl
theorem Heap.get_set_ne (h : Heap) {i j : Nat} (o : Option AO) (hij : i ≠ j) : (h.set i o).get j = h.get j := by
  show (Tr.set 60 h.tr i o).get j = h.tr.get j
  exact Tr.get_set_ne _ _ _ _ _ hij
theorem Heap.get_set_eq (h : Heap) {i : Nat} (o : Option AO) (hi : i < 1000000000000) : (h.set i o).get i = some o := by
  show (Tr.set 60 h.tr i o).get i = some o
  exact Tr.get_set_eq _ _ _ _ (by omega)
theorem Heap.set_comm (h : Heap) {i j : Nat} (a b : Option AO) (hij : i ≠ j) : (h.set i a).set j b = (h.set j b).set i a := by
  show (⟨h.next, Tr.set 60 (Tr.set 60 h.tr i a) j b⟩ : Heap) = ⟨h.next, Tr.set 60 (Tr.set 60 h.tr j b) i a⟩
  rw [Tr.set_comm _ _ _ _ _ _ hij]
theorem Heap.live_iff {h : Heap} {id : Nat} {o : AO} : h.live id = some o ↔ h.get id = some (some o) := by
  unfold Heap.live
  split
  · rename_i o' e; rw [e]; simp
  · rename_i hn
    constructor
    · intro h'; cases h'
    · intro h'; exact absurd h' (hn o)

def MRs (σ : Sig) (Z : Nat → Prop) (w : World) : List (AV × AV × Nat) → List MapEntry → Prop
  | [], es => es = []
  | x :: xs, es => ∃ e es', es = e :: es' ∧ VR σ Z w x.1 e.key ∧ VR σ Z w x.2.1 e.val ∧ e.born = x.2.2 ∧ MRs σ Z w xs es'

theorem MRs.grow {σ σ' : Sig} {Z Z' : Nat → Prop} {w w' : World} (g : Grow σ Z w σ' Z' w') : ∀ {xs : List (AV × AV × Nat)} {es : List MapEntry}, MRs σ Z w xs es → MRs σ' Z' w' xs es
  | [], es, h => h
  | x :: xs, es, h => by
    obtain ⟨e, es', e1, h1, h2, h3, h4⟩ := h
    exact ⟨e, es', e1, h1.grow g, h2.grow g, h3, MRs.grow g h4⟩

def BR (σ : Sig) (Z : Nat → Prop) (w : World) (o : AO) (p : Nat × Nat) : Prop :=
  match o with
  | .row strg cs => ∃ c t fr vs, w.heap[p.1]? = some (.cells c t fr) ∧ (strg = false → fr = (0, 0)) ∧ (∀ k, k < c.size → ¬(fr.1 ≤ k ∧ k < fr.2)) ∧
      VRs σ Z w cs.toList vs ∧ p.2 + vs.length ≤ c.size ∧ ones vs ∧ ∀ i v, vs[i]? = some v → c[p.2 + i]? = some v
  | .map es clock => p.2 = 0 ∧ ∃ ents : Array MapEntry, w.heap[p.1]? = some (.map ents clock) ∧ MRs σ Z w es ents.toList
  | .mit m since seen stepped => p.2 = 0 ∧ ∃ m', w.heap[p.1]? = some (.mapIter m' since seen.toArray stepped) ∧
      (match m with | none => m' = none | some id => ∃ q, σ id = some q ∧ m' = some q.1)
  | .dfr full => p.2 = 0 ∧ w.heap[p.1]? = some (.deferred (if full then some [] else none))
  | .lp rdy => p.2 = 0 ∧ ∃ r : Loop, w.heap[p.1]? = some (.loop r) ∧ r.pending = none ∧ (rdy = true → r.state = .ready)

theorem BR.grow {σ σ' : Sig} {Z Z' : Nat → Prop} {w w' : World} (g : Grow σ Z w σ' Z' w') {o : AO} {p : Nat × Nat} (hb : w'.heap[p.1]? = w.heap[p.1]?) (h : BR σ Z w o p) : BR σ' Z' w' o p := by
  cases o with
  | row strg cs =>
    obtain ⟨c, t, fr, vs, h1, h2, h3, h4, h5, h6, h7⟩ := h
    exact ⟨c, t, fr, vs, by rw [hb, h1], h2, h3, h4.grow g, h5, h6, h7⟩
  | map es clock =>
    obtain ⟨h0, ents, h1, h2⟩ := h
    exact ⟨h0, ents, by rw [hb, h1], h2.grow g⟩
  | mit m since seen stepped =>
    obtain ⟨h0, m', h1, h2⟩ := h
    refine ⟨h0, m', by rw [hb, h1], ?_⟩
    cases m with
    | none => exact h2
    | some id =>
      obtain ⟨q, hq, e⟩ := h2
      exact ⟨q, g.sig _ _ hq, e⟩
  | dfr full => exact ⟨h.1, by rw [hb, h.2]⟩
  | lp rdy =>
    obtain ⟨h0, r, h1, h2⟩ := h
    exact ⟨h0, r, by rw [hb, h1], h2⟩

/-- The heap tells what is in memory. -/
structure R (σ : Sig) (Z : Nat → Prop) (h : Heap) (w : World) : Prop where
  nofresh : ∀ id, h.get id = none → σ id = none
  top : ∀ id, h.next ≤ id → h.get id = none
  live : ∀ id o, h.get id = some (some o) → ∃ p, σ id = some p ∧ BR σ Z w o p
  inj : ∀ i j oi oj p q, h.get i = some (some oi) → h.get j = some (some oj) → σ i = some p → σ j = some q → p.1 = q.1 → i = j
  own : ∀ id o p, h.get id = some (some o) → σ id = some p → ¬ Z p.1
  zlt : ∀ b, Z b → b < w.heap.size
  lim : h.next < 1000000000000

theorem BR.lt {σ : Sig} {Z : Nat → Prop} {w : World} {o : AO} {p : Nat × Nat} (h : BR σ Z w o p) : p.1 < w.heap.size := by
  cases o with
  | row strg cs => obtain ⟨c, t, fr, vs, h1, _⟩ := h; exact (Array.getElem?_eq_some_iff.1 h1).1
  | map es clock => obtain ⟨_, ents, h1, _⟩ := h; exact (Array.getElem?_eq_some_iff.1 h1).1
  | mit m since seen stepped => obtain ⟨_, m', h1, _⟩ := h; exact (Array.getElem?_eq_some_iff.1 h1).1
  | dfr full => exact (Array.getElem?_eq_some_iff.1 h.2).1
  | lp rdy => obtain ⟨_, r, h1, _⟩ := h; exact (Array.getElem?_eq_some_iff.1 h1).1

/-- Does a number of this heap stand for this block? -/
def Owns (σ : Sig) (h : Heap) (b : Nat) : Prop := ∃ id o p, h.get id = some (some o) ∧ σ id = some p ∧ p.1 = b

/-- From one state to a later one; numbers below 'N' that were fresh stay so. -/
structure Ext (N : Nat) (σ : Sig) (Z : Nat → Prop) (h : Heap) (w : World) (σ' : Sig) (Z' : Nat → Prop) (h' : Heap) (w' : World) : Prop where
  sig : ∀ id p, σ id = some p → σ' id = some p
  z : ∀ b, Z b → Z' b
  znew : ∀ b, Z' b → Z b ∨ w.heap.size ≤ b ∨ Owns σ h b
  own : ∀ b, Owns σ' h' b → w.heap.size ≤ b ∨ Owns σ h b
  same : ∀ b, b < w.heap.size → ¬ Owns σ h b → w'.heap[b]? = w.heap[b]?
  size : w.heap.size ≤ w'.heap.size
  csz : ∀ b, csize w b ≤ csize w' b
  frs : ∀ id, id < N → h.get id = none → h'.get id = none
  next : N ≤ h'.next
  os : w'.os = w.os
  tape : w'.tape = w.tape
  output : w'.output = w.output

theorem Ext.refl {N : Nat} (σ : Sig) (Z : Nat → Prop) (h : Heap) (w : World) (hN : N ≤ h.next) : Ext N σ Z h w σ Z h w :=
  ⟨fun _ _ h => h, fun _ h => h, fun _ h => .inl h, fun _ h => .inr h, fun _ _ _ => rfl, Nat.le_refl _, fun _ => Nat.le_refl _, fun _ _ h => h, hN, rfl, rfl, rfl⟩

theorem Ext.mono {N M : Nat} {σ σ' : Sig} {Z Z' : Nat → Prop} {h h' : Heap} {w w' : World} (e : Ext N σ Z h w σ' Z' h' w') (hM : M ≤ N) : Ext M σ Z h w σ' Z' h' w' :=
  ⟨e.sig, e.z, e.znew, e.own, e.same, e.size, e.csz, fun id hi => e.frs id (Nat.lt_of_lt_of_le hi hM), Nat.le_trans hM e.next, e.os, e.tape, e.output⟩

theorem Ext.trans {N : Nat} {σ σ1 σ2 : Sig} {Z Z1 Z2 : Nat → Prop} {h h1 h2 : Heap} {w w1 w2 : World} (a : Ext N σ Z h w σ1 Z1 h1 w1) (b : Ext N σ1 Z1 h1 w1 σ2 Z2 h2 w2) : Ext N σ Z h w σ2 Z2 h2 w2 where
  sig id p hp := b.sig _ _ (a.sig _ _ hp)
  z x hx := b.z _ (a.z _ hx)
  znew x hx := by
    rcases b.znew x hx with h | h | h
    · exact a.znew x h
    · exact .inr (.inl (Nat.le_trans a.size h))
    · exact .inr (a.own x h)
  own x hx := by
    rcases b.own x hx with h | h
    · exact .inl (Nat.le_trans a.size h)
    · exact a.own x h
  same x hx hn := by
    rw [b.same x (Nat.lt_of_lt_of_le hx a.size) (fun ho => (a.own x ho).elim (fun h => absurd h (by omega)) hn), a.same x hx hn]
  size := Nat.le_trans a.size b.size
  csz x := Nat.le_trans (a.csz x) (b.csz x)
  frs id hi hf := b.frs id hi (a.frs id hi hf)
  next := b.next
  os := b.os.trans a.os
  tape := b.tape.trans a.tape
  output := b.output.trans a.output

theorem Ext.grow {N : Nat} {σ σ' : Sig} {Z Z' : Nat → Prop} {h h' : Heap} {w w' : World} (e : Ext N σ Z h w σ' Z' h' w') (r : R σ Z h w) : Grow σ Z w σ' Z' w' where
  sig := e.sig
  z := e.z
  mem b hb := e.same b (r.zlt b hb) (fun ⟨id, o, p, h1, h2, h3⟩ => r.own id o p h1 h2 (h3 ▸ hb))
  csz := e.csz

/-- The slots of an activation. -/
def ER (σ : Sig) (Z : Nat → Prop) (w : World) (e : List AV) (a : Act) : Prop := VRs σ Z w e a.tmps.toList

theorem ER.grow {σ σ' : Sig} {Z Z' : Nat → Prop} {w w' : World} {e : List AV} {a : Act} (h : ER σ Z w e a) (g : Grow σ Z w σ' Z' w') : ER σ' Z' w' e a := VRs.grow g h

end Go.Ab
/-! The abstract operations. -/
namespace Go.Ab
noncomputable section

/-- What is known of the program's types. -/
structure Tab where
  und : TypeId → Option TypeDesc
  size : TypeId → Option Nat
  bytes : TypeId → Option Nat
  zero : TypeId → Option AV
  /-- types that are compared plainly -/
  eqok : TypeId → Bool
  /-- are made rows told by their tables? -/
  bigs : Bool
  /-- functions that have a body -/
  go : FuncId → Bool
  /-- functions that have none: 0: maps.clone; 1: strings compared -/
  ext : FuncId → Option Nat
  /-- methods that a type has by itself: the function, and the pointer's element where the receiver is what it points to -/
  meth : TypeId → String → Option (FuncId × Option TypeId)

def AV.cells : AV → Option (List AV)
  | .agg _ cs => some cs
  | .any => none
  | .tup _ => none
  | x => some [x]

/-- How many cells. -/
def AV.width : AV → Nat
  | .agg n _ => n
  | _ => 1

def ofConst : Value → Option AV
  | .bool b => some (.bool b)
  | .int k n => some (.int k n)
  | .string s => some (.str s)
  | .pointer none => some .nilp
  | .slice none 0 0 => some .nils
  | .map none => some .nilm
  | .nilFunc => some .nilf
  | .nilIface => some .nili
  | .tuple cs => if cs.size = 0 then some (.tup []) else none
  | _ => none

def opd (e : List AV) : Operand → Option AV
  | .tmp t => e[t]?
  | .const v => ofConst v
  | .global _ => none
  | .func f => some (.fn (.func f) [] [])

def opds (e : List AV) : List Operand → Option (List AV)
  | [] => some []
  | x :: xs => match opd e x, opds e xs with
    | some a, some as => some (a :: as)
    | _, _ => none

/-- Is a variable of this type several cells? -/
def isAggD : TypeDesc → Bool
  | .struct _ | .array _ _ => true
  | _ => false

def rowOf (h : Heap) (id : Nat) : Option Cs :=
  match h.get id with
  | some (some (.row _ cs)) => some cs
  | _ => none

def cellsOf (h : Heap) (x : AV) (n : Nat) : Option (List AV) :=
  match x with
  | .ptr id off => (rowOf h id).bind fun cs => cs.read off n
  | .rp cs => if n ≤ cs.length then some (cs.take n) else none
  | _ => none

def cellOf (h : Heap) (x : AV) : Option AV :=
  match x with
  | .ptr id off => (rowOf h id).bind fun cs => cs.get? off
  | .rp cs => cs.head?
  | _ => none

def aLoad (T : Tab) (h : Heap) (t : TypeId) (x : AV) : Option AV :=
  match T.und t, T.size t with
  | some d, some n => if isAggD d then (cellsOf h x n).map (.agg n) else cellOf h x
  | _, _ => none

/-- The address 'n' cells on. -/
def AV.shift (x : AV) (n : Nat) : Option AV :=
  match x with
  | .ptr id off => some (.ptr id (off + n))
  | .rp cs => some (.rp (cs.drop n))
  | _ => none

def aFieldAddr (T : Tab) (s : TypeId) (x : AV) (f : Nat) : Option AV :=
  match T.und s with
  | some (.struct fields) => match fields[f]? with
    | some fd => match T.size fd.type with
      | some (_ + 1) => x.shift fd.offset
      | _ => none
    | none => none
  | _ => none

def aPart (T : Tab) (t : TypeId) (m : Nat) (cs : List AV) (off : Nat) : Option AV :=
  match T.und t, T.size t with
  | some d, some n => if isAggD d then (if off + n ≤ m then some (.agg n ((cs.drop off).take n)) else none) else cs[off]?
  | _, _ => none

def aField (T : Tab) (s : TypeId) (x : AV) (f : Nat) : Option AV :=
  match T.und s, x with
  | some (.struct fields), .agg m cs => match fields[f]? with
    | some fd => aPart T fd.type m cs fd.offset
    | none => none
  | _, _ => none

def aIndexAddr (T : Tab) (t : TypeId) (x i : AV) : Option AV :=
  match T.und t, x, i with
  | some (.array len elem), x, .int _ i => match T.size elem with
    | some es => if 0 ≤ i ∧ i < len then x.shift (i.toNat * es) else none
    | none => none
  | some (.slice elem), .sl id off es len _ _, .int _ i => match T.size elem with
    | some es' => if es' = es ∧ 0 ≤ i ∧ i < len then some (.ptr id (off + i.toNat * es)) else none
    | none => none
  | some (.slice elem), .rs len cs, .int _ i => match T.size elem with
    | some es => if 0 ≤ i ∧ i < len then some (.rp (cs.drop (i.toNat * es))) else none
    | none => none
  | _, _, _ => none

def aIndex (T : Tab) (t : TypeId) (x i : AV) : Option AV :=
  match T.und t, x, i with
  | some (.array len elem), .agg m cs, .int _ i => match T.size elem with
    | some es => if 0 ≤ i ∧ i < len then aPart T elem m cs (i.toNat * es) else none
    | none => none
  | some .string, .str s, .int _ i => if h : 0 ≤ i ∧ i.toNat < s.size then some (.int .u8 (s[i.toNat]'h.2).toNat) else none
  | _, _, _ => none

/-- A bound of a slice expression: given or not. -/
def bnd (dflt : Nat) (x : Option AV) : Option Nat :=
  match x with
  | none => some dflt
  | some (.int _ i) => if 0 ≤ i then some i.toNat else none
  | some _ => none

def aSlice (T : Tab) (h : Heap) (t : TypeId) (x : AV) (lo hi mx : Option AV) : Option AV :=
  match T.und t, x with
  | some .string, .str s => match mx, bnd 0 lo, bnd s.size hi with
    | none, some l, some u => if l ≤ u ∧ u ≤ s.size then some (.str (s.extract l u)) else none
    | _, _, _ => none
  | some (.slice elem), .nils => match T.size elem, mx, bnd 0 lo, bnd 0 hi with
    | some _, none, some 0, some 0 => some .nils
    | _, _, _, _ => none
  | some (.slice elem), .sl id off es len cm ex => match T.size elem, bnd 0 lo, bnd len hi, mx with
    | some es', some l, some u, none => if es' = es ∧ l ≤ u ∧ u ≤ cm then some (.sl id (off + l * es) es (u - l) (cm - l) ex) else none
    | some es', some l, some u, some (.int _ m) => if hi.isSome ∧ es' = es ∧ l ≤ u ∧ (u : Int) ≤ m ∧ m ≤ cm then some (.sl id (off + l * es) es (u - l) (m.toNat - l) true) else none
    | _, _, _, _ => none
  | some (.slice elem), .rs len cs => match T.size elem, mx, bnd 0 lo, bnd len hi with
    | some es, none, some l, some u => if l ≤ u ∧ u ≤ len then some (if l = u then .rs 0 [] else .rs (u - l) (cs.drop (l * es))) else none
    | _, _, _, _ => none
  | some (.array n elem), .ptr id off => match T.size elem, mx, bnd 0 lo, bnd n hi, rowOf h id with
    | some es, none, some l, some u, some cs => if l ≤ u ∧ u ≤ n ∧ off + n * es ≤ cs.len then some (.sl id (off + l * es) es (u - l) (n - l) true) else none
    | _, _, _, _, _ => none
  | _, _ => none

def aCmpInt (op : BinOp) (a b : Int) : Option AV :=
  match op with
  | .eql => some (.bool (a == b))
  | .neq => some (.bool (a != b))
  | .lss => some (.bool (decide (a < b)))
  | .leq => some (.bool (decide (a ≤ b)))
  | .gtr => some (.bool (decide (a > b)))
  | .geq => some (.bool (decide (a ≥ b)))
  | _ => none

def aBinInt (op : BinOp) (k : IntKind) (a b : Int) : Option AV :=
  match op with
  | .add => some (.int k (k.wrap (a + b)))
  | .sub => some (.int k (k.wrap (a - b)))
  | .mul => some (.int k (k.wrap (a * b)))
  | .quo => if b = 0 then none else some (.int k (k.wrap (a.tdiv b)))
  | .rem => if b = 0 then none else some (.int k (a.tmod b))
  | .and => some (.int k (k.wrap (BitVec.ofInt k.bits a &&& BitVec.ofInt k.bits b).toNat))
  | .or => some (.int k (k.wrap (BitVec.ofInt k.bits a ||| BitVec.ofInt k.bits b).toNat))
  | .xor => some (.int k (k.wrap (BitVec.ofInt k.bits a ^^^ BitVec.ofInt k.bits b).toNat))
  | .andNot => some (.int k (k.wrap (BitVec.ofInt k.bits a &&& ~~~BitVec.ofInt k.bits b).toNat))
  | op => aCmpInt op a b

def aStr (op : BinOp) (x y : ByteArray) : Option AV :=
  match op with
  | .add => if x.size + y.size ≤ 9223372036854775807 then some (.str (x ++ y)) else none
  | .eql => some (.bool (x.toList == y.toList))
  | .neq => some (.bool !(x.toList == y.toList))
  | .lss => some (.bool (Op.bytesLess x.toList y.toList))
  | .leq => some (.bool (Op.bytesLess x.toList y.toList || x.toList == y.toList))
  | .gtr => some (.bool !(Op.bytesLess x.toList y.toList || x.toList == y.toList))
  | .geq => some (.bool !(Op.bytesLess x.toList y.toList))
  | _ => none

def notStrg (h : Heap) (id : Nat) : Bool :=
  match h.get id with
  | some (some (.row false _)) => true
  | _ => false

/-- '==' of two values that are no numbers and no strings by themselves; 'n': how deep. -/
def aEq (T : Tab) (h : Heap) : Nat → TypeId → AV → AV → Option Bool
  | 0, _, _, _ => none
  | n + 1, t, x, y =>
    match T.und t, x, y with
    | some .bool, .bool a, .bool b => some (a == b)
    | some (.int _), .int k a, .int k' b => if k = k' then some (a == b) else none
    | some .string, .str a, .str b => some (a == b)
    | some (.pointer _), .nilp, .nilp => some true
    | some (.pointer _), .nilp, .ptr _ _ | some (.pointer _), .ptr _ _, .nilp | some (.pointer _), .nilp, .rp _ | some (.pointer _), .rp _, .nilp => some false
    | some (.pointer elem), .ptr i a, .ptr j b => match T.size elem with
      | some (_ + 1) => if i = j then some (a == b) else if notStrg h i && notStrg h j then some false else none
      | _ => none
    | some (.slice _), .nils, .nils => some true
    | some (.slice _), .nils, .sl .. | some (.slice _), .sl .., .nils | some (.slice _), .nils, .rs .. | some (.slice _), .rs .., .nils => some false
    | some (.map _ _), .nilm, .nilm => some true
    | some (.map _ _), .nilm, .mp _ | some (.map _ _), .mp _, .nilm => some false
    | some (.func _ _ _), .nilf, .nilf => some true
    | some (.func _ _ _), .nilf, .fn .. | some (.func _ _ _), .fn .., .nilf => some false
    | some (.interface _), .nili, .ifc .. | some (.interface _), .ifc .., .nili => some false
    | some (.struct fields), .agg mx xs, .agg my ys =>
      if T.eqok t then aEqFs T (fun t x y => aEq T h n t x y) mx my fields.toList xs ys else none
    | _, _, _ => none
 where
  aEqFs (T : Tab) (eq : TypeId → AV → AV → Option Bool) (mx my : Nat) : List Field → List AV → List AV → Option Bool
    | [], _, _ => some true
    | f :: fs, xs, ys =>
      if f.name ≠ "_" then
        match aPart T f.type mx xs f.offset, aPart T f.type my ys f.offset with
        | some a, some b => match eq f.type a b with
          | some true => aEqFs T eq mx my fs xs ys
          | some false => some false
          | none => none
        | _, _ => none
      else aEqFs T eq mx my fs xs ys

def isNilConst : Operand → Bool
  | .const .nilIface => true
  | _ => false

def aBin (T : Tab) (h : Heap) (op : BinOp) (t : TypeId) (cst : Bool) (x y : AV) : Option AV :=
  match x, y with
  | .int k a, .int yk b => match op with
    | .shl => if 0 ≤ b then some (.int k (k.wrap (a * 2 ^ (min b.toNat k.bits)))) else none
    | .shr => if 0 ≤ b then some (.int k (a.fdiv (2 ^ (min b.toNat k.bits)))) else none
    | op => if k = yk then aBinInt op k a b else none
  | .str a, .str b => aStr op a b
  | .nili, .nili => if cst then (match op, T.und t with
    | .eql, some (.interface _) => some (.bool true)
    | .neq, some (.interface _) => some (.bool false)
    | _, _ => none) else none
  | x, y => match op with
    | .eql => (aEq T h 20 t x y).map .bool
    | .neq => (aEq T h 20 t x y).map fun b => .bool !b
    | _ => none

def aUn (op : UnOp) (x : AV) : Option AV :=
  match op, x with
  | .neg, .int k n => some (.int k (k.wrap (0 - n)))
  | .xor, .int k n => some (.int k (k.wrap (BitVec.ofInt k.bits (if k.signed then -1 else k.max) ^^^ BitVec.ofInt k.bits n).toNat))
  | .not, .bool b => some (.bool !b)
  | _, _ => none

/-- The bytes that cells are. -/
def bytesOf : List AV → Option (List UInt8)
  | [] => some []
  | .int .u8 n :: r => (bytesOf r).map (UInt8.ofNat n.toNat :: ·)
  | _ => none

def srcCells (h : Heap) (es : Nat) (x : AV) : Option (Nat × List AV) :=
  match x with
  | .nils => some (0, [])
  | .sl id off es' len _ _ => if es' = es then (if len = 0 then some (0, []) else (rowOf h id).bind fun cs => (cs.read off (len * es)).map fun l => (len, l)) else none
  | .rs len cs => if len * es ≤ cs.length then some (len, cs.take (len * es)) else none
  | .str s => if es = 1 then some (s.size, s.data.toList.map fun b => .int .u8 b.toNat) else none
  | _ => none

def aConvBytes (T : Tab) (h : Heap) (e : TypeId) (x : AV) : Option AV :=
  match T.und e with
  | some (.int .u8) => match x with
    | .str _ => none
    | x => match srcCells h 1 x with
      | some (_, l) => (bytesOf l).map fun bs => .str ⟨bs.toArray⟩
      | none => none
  | _ => none

def aConvert (T : Tab) (h : Heap) (src dst : TypeId) (x : AV) : Option AV :=
  match T.und src, T.und dst, x with
  | some _, some (.int k), .int _ n => some (.int k (k.wrap n))
  | some _, some .string, .str s => some (.str s)
  | some (.slice e), some .string, x => aConvBytes T h e x
  | _, _, _ => none

def aFill (place : Nat → Option (Nat × Nat)) (n : Nat) : List (Nat × AV) → List AV → Option (List AV)
  | [], cells => some cells
  | (i, v) :: rest, cells =>
    match place i, v.cells with
    | some (off, size), some vs => if v.width = size ∧ off + size ≤ n then aFill place n rest (cells.take off ++ vs ++ cells.drop (off + size)) else none
    | _, _ => none

def aParts (e : List AV) : List (Nat × Operand) → Option (List (Nat × AV))
  | [] => some []
  | (i, x) :: r => match opd e x, aParts e r with
    | some v, some vs => some ((i, v) :: vs)
    | _, _ => none

def aPlaces (T : Tab) : List Field → Option (List (Nat × Nat))
  | [] => some []
  | f :: fs => match T.size f.type, aPlaces T fs with
    | some s, some r => some ((f.offset, s) :: r)
    | _, _ => none

def aBuild (T : Tab) (t : TypeId) (parts : List (Nat × AV)) : Option AV :=
  match T.und t, T.zero t with
  | some (.struct fields), some (.agg n z) => match aPlaces T fields.toList with
    | some ps => (aFill (fun i => ps[i]?) n parts z).map (.agg n)
    | none => none
  | some (.array _ elem), some (.agg n z) => match T.size elem with
    | some size => (aFill (fun i => some (i * size, size)) n parts z).map (.agg n)
    | none => none
  | _, _ => none

/-- Maps: the keys that are compared by themselves. -/
def keyIs : AV → AV → Option Bool
  | .int k a, .int k' b => if k = k' then some (a == b) else none
  | .str a, .str b => some (a == b)
  | _, _ => none

def plainKey : TypeDesc → Bool
  | .int _ | .string => true
  | _ => false

def aFind (k : AV) : List (AV × AV × Nat) → Nat → Option (Option (Nat × AV))
  | [], _ => some none
  | e :: es, i => match keyIs k e.1 with
    | some true => some (some (i, e.2.1))
    | some false => aFind k es (i + 1)
    | none => none

def keyFits : TypeDesc → AV → Bool
  | .int k, .int k' _ => k = k'
  | .string, .str _ => true
  | _, _ => false

def mapOf (h : Heap) (x : AV) : Option (List (AV × AV × Nat)) :=
  match x with
  | .nilm => some []
  | .mp id => match h.get id with
    | some (some (.map es _)) => some es
    | _ => none
  | _ => none

def aLookup (T : Tab) (h : Heap) (t : TypeId) (x k : AV) (ok : Bool) : Option AV :=
  match T.und t with
  | some (.map key elem) => match T.und key, mapOf h x with
    | some kd, some es => if keyFits kd k then
        match aFind k es 0 with
        | some (some (_, v)) => some (if ok then .tup [v, .bool true] else v)
        | some none => (T.zero elem).map fun z => if ok then .tup [z, .bool false] else z
        | none => none
      else none
    | _, _ => none
  | _ => none

def aAssert (T : Tab) (x : AV) (asserted : TypeId) (ok : Bool) : Option AV :=
  match T.und asserted, x with
  | some (.interface _), _ => none
  | some _, .ifc t v => if t = asserted then some (if ok then .tup [v, .bool true] else v) else if ok then (T.zero asserted).map fun z => .tup [z, .bool false] else none
  | some _, .nili => if ok then (T.zero asserted).map fun z => .tup [z, .bool false] else none
  | _, _ => none

def aLen (T : Tab) (h : Heap) (t : TypeId) (x : AV) : Option AV :=
  match T.und t, x with
  | some .string, .str s => some (.int .i64 s.size)
  | some (.array n _), _ => some (.int .i64 n)
  | some (.slice _), .nils => some (.int .i64 0)
  | some (.slice _), .sl _ _ _ len _ _ => some (.int .i64 len)
  | some (.slice _), .rs len _ => some (.int .i64 len)
  | some (.map _ _), x => (mapOf h x).map fun es => .int .i64 es.length
  | _, _ => none

def aMinMax (mx : Bool) : List AV → Option AV
  | [.int k a, .int _ b] => some (.int k (if mx then (if b > a then b else a) else (if b < a then b else a)))
  | [.str a, .str b] => some (.str (if mx then (if !(Op.bytesLess a.toList b.toList) then a else b) else (if Op.bytesLess a.toList b.toList || a.toList == b.toList then a else b)))
  | _ => none

def aNil : AV → Option AV
  | .ptr id off => some (.ptr id off)
  | .rp cs => some (.rp cs)
  | .ifc t v => some (.ifc t v)
  | .fn (.func f) first captured => some (.fn (.func f) first captured)
  | _ => none

def optd (e : List AV) : Option Operand → Option (Option AV)
  | none => some none
  | some x => (opd e x).map some

/-- The entry at which an iterator stands. -/
def aEntry (h : Heap) (x : AV) : Option AV :=
  match x with
  | .ptr r 0 => match h.get r with
    | some (some (.mit (some m) _ seen stepped)) => match h.get m with
      | some (some (.map es clock)) => match seen.getLast? with
        | some s => if clock = stepped then (es.find? fun x => x.2.2 == s).map fun x => .tup [x.1, x.2.1] else none
        | none => none
      | _ => none
    | _ => none
  | _ => none

/-- Operations that change nothing and make nothing: their value. -/
def light (T : Tab) (e : List AV) (h : Heap) (op : Op) : Option AV :=
  match op with
  | .move x | .assign x => opd e x
  | .pick c a b => match opd e c with
    | some (.bool t) => if t then opd e a else opd e b
    | _ => none
  | .build t parts => (aParts e parts.toList).bind (aBuild T t)
  | .load t a => (opd e a).bind (aLoad T h t)
  | .nilCheck x => (opd e x).bind aNil
  | .binOp op t x y _ => match opd e x, opd e y with
    | some a, some b => aBin T h op t (isNilConst x || isNilConst y) a b
    | _, _ => none
  | .unOp op _ x => (opd e x).bind (aUn op)
  | .convert src dst x => (opd e x).bind (aConvert T h src dst)
  | .makeInterface t x => match T.und t with
    | some (.interface _) | none => none
    | some _ => (opd e x).map (.ifc t)
  | .makeFunc f first captured => match opds e first.toList, opds e captured.toList with
    | some a, some b => some (.fn f a b)
    | _, _ => none
  | .slice t x lo hi mx => match opd e x, optd e lo, optd e hi, optd e mx with
    | some a, some l, some u, some m => aSlice T h t a l u m
    | _, _, _, _ => none
  | .fieldAddr s x f => (opd e x).bind fun a => aFieldAddr T s a f
  | .field s x f => (opd e x).bind fun a => aField T s a f
  | .indexAddr t x i => match opd e x, opd e i with
    | some a, some b => aIndexAddr T t a b
    | _, _ => none
  | .index t x i => match opd e x, opd e i with
    | some a, some b => aIndex T t a b
    | _, _ => none
  | .lookup t x i ok => match opd e x, opd e i with
    | some a, some b => aLookup T h t a b ok
    | _, _ => none
  | .typeAssert x _ asserted ok => (opd e x).bind fun a => aAssert T a asserted ok
  | .entry x => (opd e x).bind (aEntry h)
  | .extract x i => match opd e x with
    | some (.tup vs) => vs[i]?
    | _ => none
  | .call { callee := .builtin .len, args, argTypes } => match opds e args.toList, argTypes[0]? with
    | some (a :: _), some t => aLen T h t a
    | _, _ => none
  | .call { callee := .builtin .min, args, .. } => (opds e args.toList).bind (aMinMax false)
  | .call { callee := .builtin .max, args, .. } => (opds e args.toList).bind (aMinMax true)
  | _ => none

/-- 'n' cells, each like the one of 'z' at its place. -/
def reps (n : Nat) (z : List AV) : List AV := (List.range n).map fun i => z.getD (i % z.length) .any

/-- Operations that make one thing: what it is, and the value. -/
def mkOp (T : Tab) (e : List AV) (h : Heap) (op : Op) : Option (AO × (Nat → AV)) :=
  match op with
  | .alloc elem => (T.zero elem).bind fun v => v.cells.map fun z => (.row false (.lst v.width z), fun id => .ptr id 0)
  | .box _ x => (opd e x).bind fun v => v.cells.map fun z => (.row false (.lst v.width z), fun id => .ptr id 0)
  | .buildSlice t len parts => match T.und t with
    | some (.slice elem) => match T.size elem, (T.zero elem).bind AV.cells, aParts e parts.toList with
      | some es, some z, some ps => if len * es ≤ 16777216 then (aFill (fun i => some (i * es, es)) (len * es) ps (reps (len * es) z)).map fun cs => (.row false (.lst (len * es) cs), fun id => .sl id 0 es len len true) else none
      | _, _, _ => none
    | _ => none
  | .makeSlice t l c => match T.und t, opd e l, opd e c with
    | some (.slice elem), some (.int _ l), some (.int _ c) => match T.size elem, T.bytes elem, (T.zero elem).bind AV.cells with
      | some es, some bs, some z => if 0 ≤ l ∧ l ≤ c ∧ c < 9223372036854775808 ∧ bs * c ≤ 281474976710656 then
          some (.row false (if T.bigs then .ov (c.toNat * es) z.length z [] else .lst (c.toNat * es) (reps (c.toNat * es) z)), fun id => .sl id 0 es l.toNat c.toNat true) else none
      | _, _, _ => none
    | _, _, _ => none
  | .makeMap t none => match T.und t with
    | some (.map _ _) => some (.map [] 0, fun id => .mp id)
    | _ => none
  | .makeMap t (some x) => match T.und t, opd e x with
    | some (.map _ _), some (.int _ _) => some (.map [] 0, fun id => .mp id)
    | _, _ => none
  | .convert src dst x => match T.und src, T.und dst, opd e x with
    | some _, some (.slice b), some (.str s) => match T.und b with
      | some (.int .u8) => some (.row true (.lst s.size (s.data.toList.map fun c => .int .u8 c.toNat)), fun id => .sl id 0 1 s.size s.size false)
      | _ => none
    | _, _, _ => none
  | .range t x => match T.und t, opd e x with
    | some (.map _ _), some .nilm => some (.mit none 0 [] 0, fun id => .ptr id 0)
    | some (.map _ _), some (.mp id) => match h.get id with
      | some (some (.map _ clock)) => some (.mit (some id) clock [] clock, fun id => .ptr id 0)
      | _ => none
    | _, _ => none
  | _ => none

/-- A store. -/
def wrStore (T : Tab) (h : Heap) (t : TypeId) (x v : AV) : Option Heap :=
  match x, v.cells, T.size t with
  | .ptr i off, some vs, some n => if v.width = n then
      (match h.get i with
       | some (some (.row s cs)) => (cs.write off n vs).map fun cs' => h.set i (some (.row s cs'))
       | _ => none) else none
  | _, _, _ => none

def wrMapUpdate (T : Tab) (h : Heap) (t : TypeId) (m k v : AV) : Option Heap :=
  match T.und t, m with
  | some (.map key _), .mp i => match T.und key, h.get i with
    | some kd, some (some (.map es clock)) => if keyFits kd k then
        match aFind k es 0 with
        | some (some (j, _)) => some (h.set i (some (.map (es.modify j fun e => (k, v, e.2.2)) clock)))
        | some none => some (h.set i (some (.map (es ++ [(k, v, clock)]) (clock + 1))))
        | none => none
      else none
    | _, _ => none
  | _, _ => none

def wrMapEntry (T : Tab) (h : Heap) (t : TypeId) (m k : AV) : Option (AV × Heap) :=
  match T.und t, m with
  | some (.map key el), .mp i => match T.und key, h.get i with
    | some kd, some (some (.map es clock)) => if keyFits kd k then
        match aFind k es 0 with
        | some (some (j, v)) => (es[j]?).map fun x => (.tup [v, .int .i64 x.2.2], h.set i (some (.map (es.modify j fun e => (k, e.2.1, e.2.2)) clock)))
        | some none => (T.zero el).map fun z => (.tup [z, .int .i64 clock], h.set i (some (.map (es ++ [(k, z, clock)]) (clock + 1))))
        | none => none
      else none
    | _, _ => none
  | _, _ => none

def wrEntryStore (h : Heap) (m s v : AV) : Option Heap :=
  match m, s with
  | .mp i, .int _ b => match h.get i with
    | some (some (.map es clock)) => (es.findIdx? fun x => (x.2.2 : Int) == b).map fun j => h.set i (some (.map (es.modify j fun e => (e.1, v, e.2.2)) clock))
    | _ => none
  | _, _ => none

def wrDelete (T : Tab) (h : Heap) (t : TypeId) (m k : AV) : Option Heap :=
  match T.und t with
  | some (.map key _) => match T.und key with
    | some kd => if keyFits kd k then
        match m with
        | .nilm => some h
        | .mp i => match h.get i with
          | some (some (.map es clock)) => match aFind k es 0 with
            | some (some (j, _)) => some (h.set i (some (.map (es.eraseIdx j) clock)))
            | some none => some (h.set i (some (.map es clock)))
            | none => none
          | _ => none
        | _ => none
      else none
    | none => none
  | _ => none

/-- What is appended: how many, and their cells. -/
def appSrc (T : Tab) (h : Heap) (elem : TypeId) (es bs : Nat) (xd : TypeDesc) (x : AV) : Option (Nat × List AV) :=
  match xd with
  | .int _ => match x, (T.zero elem).bind AV.cells with
    | .int _ n, some z => if 0 ≤ n ∧ n < 4611686018427387904 ∧ n.toNat * bs ≤ 140737488355328 then some (n.toNat, reps (n.toNat * es) z) else none
    | _, _ => none
  | .slice _ | .string => srcCells h es x
  | _ => none

def wrAppend (T : Tab) (h : Heap) (id : Nat) (st xt : TypeId) (s x : AV) : Option (AV × Heap) :=
  match T.und st with
  | some (.slice elem) => match T.size elem, T.bytes elem, T.und xt, (T.zero elem).bind AV.cells with
    | some es, some bs, some xd, some z => if z.length = es then
        match appSrc T h elem es bs xd x with
        | some (n, l) => match s with
          | .nils => if n = 0 then some (.nils, h) else if n * (bs + 1) ≤ 140737488355328 then some (.sl id 0 es n n false, h.set id (some (.row false (.lst (n * es) l)))) else none
          | .sl i off es' len cm ex => if es' = es then
              match h.get i with
              | some (some (.row sg cs)) =>
                if len + n ≤ cm then (cs.write (off + len * es) (n * es) l).map fun cs' => (.sl i off es (len + n) cm ex, h.set i (some (.row sg cs')))
                else if (len + n) * (bs + 1) ≤ 140737488355328 then
                  match cs.read off (len * es) with
                  | some old => if ex then some (.sl id 0 es (len + n) (len + n) false, h.set id (some (.row false (.lst (len * es + n * es) (old ++ l)))))
                    else some (.sl id 0 es (len + n) (len + n) false, (h.set i none).set id (some (.row sg (.lst (len * es + n * es) (old ++ l)))))
                  | none => none
                else none
              | _ => none
            else none
          | _ => none
        | none => none
      else none
    | _, _, _, _ => none
  | _ => none

def wrCopy (T : Tab) (h : Heap) (dt : TypeId) (d x : AV) : Option (AV × Heap) :=
  match T.und dt with
  | some (.slice elem) => match T.size elem with
    | some es => match srcCells h es x, d with
      | some (m, l), .sl i off es' len _ _ => if es' = es then
          match h.get i with
          | some (some (.row s cs)) => (cs.write off (min m len * es) (l.take (min m len * es))).map fun cs' => (.int .i64 (min m len : Nat), h.set i (some (.row s cs')))
          | _ => none
        else none
      | some _, .nils => some (.int .i64 0, h)
      | _, _ => none
    | none => none
  | _ => none

def wrClear (T : Tab) (h : Heap) (t : TypeId) (x : AV) : Option Heap :=
  match T.und t, x with
  | some (.slice _), .nils => some h
  | some (.slice elem), .sl i off es len _ _ => if len = 0 then some h else
    match T.size elem, (T.zero elem).bind AV.cells, h.get i with
    | some es', some z, some (some (.row s cs)) => if es' = es ∧ z.length = es then (cs.write off (len * es) (reps (len * es) z)).map fun cs' => h.set i (some (.row s cs')) else none
    | _, _, _ => none
  | _, _ => none

/-- Functions without a body. -/
def exCall (h : Heap) (id n : Nat) (as : List AV) : Option (AV × Heap) :=
  match n, as with
  | 0, [.ifc t (.mp m)] => match h.get m with
    | some (some (.map es clock)) => some (.ifc t (.mp id), h.set id (some (.map es clock)))
    | _ => none
  | 1, [.str a, .str b] => some (.int .i64 (Extern.BytealgCompare.cmp a b), h)
  | _, _ => none

/-- Operations that write (but calls of functions, and the next step of an iterator). -/
def wrOp (T : Tab) (e : List AV) (h : Heap) (id : Nat) (op : Op) : Option (AV × Heap) :=
  match op with
  | .store t x v => match opd e x, opd e v with
    | some a, some b => (wrStore T h t a b).map fun h' => (.tup [], h')
    | _, _ => none
  | .mapUpdate t m k v => match opd e m, opd e k, opd e v with
    | some a, some b, some c => (wrMapUpdate T h t a b c).map fun h' => (.tup [], h')
    | _, _, _ => none
  | .mapEntry t m k => match opd e m, opd e k with
    | some a, some b => wrMapEntry T h t a b
    | _, _ => none
  | .entryStore _ m s v => match opd e m, opd e s, opd e v with
    | some a, some b, some c => (wrEntryStore h a b c).map fun h' => (.tup [], h')
    | _, _, _ => none
  | .call { callee := .value x, args, .. } => match opd e x, opds e args.toList with
    | some (.fn (.func f) [] []), some as => match T.ext f with
      | some n => exCall h id n as
      | none => none
    | _, _ => none
  | .call { callee := .builtin .append, args, argTypes } => match opds e args.toList, argTypes.toList with
    | some [s, x], [st, xt] => wrAppend T h id st xt s x
    | _, _ => none
  | .call { callee := .builtin .copy, args, argTypes } => match opds e args.toList, argTypes.toList with
    | some [d, x], dt :: _ => wrCopy T h dt d x
    | _, _ => none
  | .call { callee := .builtin .delete, args, argTypes } => match opds e args.toList, argTypes.toList with
    | some [m, k], t :: _ => (wrDelete T h t m k).map fun h' => (.tup [], h')
    | _, _ => none
  | .call { callee := .builtin .clear, args, argTypes } => match opds e args.toList, argTypes.toList with
    | some [x], t :: _ => (wrClear T h t x).map fun h' => (.tup [], h')
    | _, _ => none
  | _ => none

/-- The next step of an iterator: all that may come. -/
def nxOp (T : Tab) (e : List AV) (h : Heap) (op : Op) : Option (List (AV × Heap)) :=
  match op with
  | .next x false => match opd e x with
    | some (.ptr r 0) => match h.get r with
      | some (some (.mit none _ _ _)) => some [(.tup [.bool false], h)]
      | some (some (.mit (some m) since seen stepped)) => match h.get m with
        | some (some (.map es clock)) =>
          if !seen.isEmpty && !es.isEmpty && es.all (fun x => decide (x.2.2 ≥ stepped)) then none else
          let left := es.filter fun x => !seen.contains x.2.2
          let old := left.filter fun x => decide (x.2.2 < since)
          let new := left.filter fun x => decide (x.2.2 ≥ since)
          some ((if old.isEmpty then [(.tup [.bool false], h)] else []) ++ (old ++ new).map fun x => (.tup [.bool true, x.1, x.2.1], h.set r (some (.mit (some m) since (seen ++ [x.2.2]) clock))))
        | _ => none
      | _ => none
    | _ => none
  | _ => none

/-- What a call enters, and with what. -/
def calleeOf (T : Tab) (e : List AV) (h : Heap) (op : Op) : Option (FuncId × List AV) :=
  match op with
  | .call { callee := .value x, args, .. } => match opd e x, opds e args.toList with
    | some (.fn (.func f) first captured), some as => if T.go f then some (f, first ++ as ++ captured) else none
    | _, _ => none
  | .call { callee := .invoke x name, args, .. } => match opd e x, opds e args.toList with
    | some (.ifc t v), some as => match T.meth t name with
      | some (f, none) => if T.go f then some (f, v :: as) else none
      | some (f, some elem) => match aLoad T h elem v with
        | some u => if T.go f then some (f, u :: as) else none
        | none => none
      | none => none
    | _, _ => none
  | _ => none

end
end Go.Ab
