/- A run of code and of functions over abstract memory tells the truth, at a program whose tables are told rightly. -/
import Derived.Test.YtejdoilocmoojaaGreatZA4
import Derived.Deep.LoopGhost
import Derived.RangeFuncLeaves
import Derived.RangeFuncRecord
set_option linter.unusedSimpArgs false
set_option linter.unusedVariables false
/-! A program's code as lists; running it on what is known. -/
namespace Go.Ab

/-- What is looked at again: where its value stands, the operation, its guard. -/
structure XLook where
  dst : Option Nat
  op : Op
  gd : Option (Nat × Bool)

/-- 'cls': 0, 1: light; 2: makes; 3: writes; 4: an iterator's step; 5: a call. -/
structure XOp where
  i : Nat
  dst : Option Nat
  op : Op
  gd : Option (Nat × Bool)
  cls : Nat
  rc : List XLook

inductive XC where
  | skip
  | region (n : Nat) (items : List XOp) (draw : Bool)
  | seq (a b : XC)
  | cond (c : Operand) (a b : XC)
  | block (id : Nat) (b : XC)
  | loop (b : XC)
  | exit (id : Nat)
  | ret
  | rf (f : Operand)
  | bad

def gdOf (ops : Array Oper) (o : Oper) : Option (Option (Nat × Bool)) :=
  match o.guard with
  | none => some none
  | some (j, want) => match (ops[j]?).bind (·.dst) with
    | some d => some (some (d, want))
    | none => none

/-- The class, for orders: 0: looks at no memory; 1: reads; 2: makes a thing; 3: all else. -/
def clsOf (T : Tab) : Op → Nat
  | .move _ | .assign _ | .pick .. | .build .. | .nilCheck _ | .unOp .. | .makeInterface .. | .makeFunc .. | .fieldAddr .. | .field .. | .indexAddr .. | .index .. | .typeAssert .. | .extract .. => 0
  | .binOp _ t _ _ _ => match T.und t with
    | some (.int _) | some .string | some .bool => 0
    | _ => 1
  | .slice t _ _ _ _ => match T.und t with
    | some (.array ..) => 1
    | _ => 0
  | .convert s d _ => match T.und s, T.und d with
    | some (.slice _), _ => 1
    | _, some (.slice _) => 2
    | _, _ => 0
  | .load .. | .lookup .. | .entry _ => 1
  | .call { callee := .builtin .len, argTypes, .. } => match argTypes[0]?.bind T.und with
    | some (.map ..) => 1
    | _ => 0
  | .call { callee := .builtin .min, .. } | .call { callee := .builtin .max, .. } => 0
  | .alloc _ | .box .. | .buildSlice .. | .makeSlice .. | .makeMap .. => 2
  | _ => 3

/-- The class, for the running. -/
def kindOf (T : Tab) : Op → Nat
  | .range .. => 6
  | .next .. => 4
  | .call { callee := .value _, .. } | .call { callee := .invoke .., .. } => 5
  | op => clsOf T op

/-- All that can come early comes early: first what reads, then what makes, then all else. -/
def canonGo (ops : Array Oper) (cl : List Nat) : Nat → List Nat → List Nat → List Nat
  | 0, _, acc => acc.reverse
  | n + 1, left, acc =>
    let rdy := left.filter fun i => match ops[i]? with
      | some o => o.after.all fun e => !Region.binds .any e || !left.contains e.on
      | none => false
    match (rdy.find? fun i => cl.getD i 3 ≤ 1).orElse (fun _ => (rdy.find? fun i => cl.getD i 3 == 2).orElse fun _ => rdy.head?) with
    | none => acc.reverse
    | some i => canonGo ops cl n (left.filter (· != i)) (i :: acc)

def canon (T : Tab) (ops : Array Oper) : List Item :=
  let cl := ops.toList.map fun o => clsOf T o.op
  let bs := befs ops
  let order := canonGo ops cl ops.size (List.range ops.size) []
  let rec go : List Nat → List Nat → List Item
    | _, [] => []
    | before, i :: l => (i, cl.getD i 3, if cl.getD i 3 == 3 then before.filter (fun r => cl.getD r 3 == 1 && !(bs.getD i []).contains r) else []) :: go (before ++ [i]) l
  go [] order

def xlook (ops : Array Oper) (r : Nat) : Option XLook := do
  let o ← ops[r]?
  let g ← gdOf ops o
  pure ⟨o.dst, o.op, g⟩

def xop (T : Tab) (ops : Array Oper) (x : Item) : Option XOp := do
  let o ← ops[x.1]?
  let g ← gdOf ops o
  let rc ← x.2.2.mapM (xlook ops)
  pure ⟨x.1, o.dst, o.op, g, if x.2.1 < 3 then x.2.1 else kindOf T o.op, rc⟩

def conv (T : Tab) : Code → XC
  | .skip => .skip
  | .region _ ops false => match ((List.range ops.size).map fun i => ((i, 3, []) : Item)).mapM (xop T ops) with
    | some l => .region ops.size l false
    | none => .bad
  | .region _ ops true => let ka := canon T ops
    if ordOk ops ka && ka.length == ops.size then match ka.mapM (xop T ops) with
      | some l => .region ops.size l true
      | none => .bad
    else .bad
  | .seq a b => .seq (conv T a) (conv T b)
  | .cond c a b => .cond c (conv T a) (conv T b)
  | .block id b => .block id (conv T b)
  | .loop b => .loop (conv T b)
  | .exit id => .exit id
  | .label _ => .skip
  | .ret => .ret
  | .rangeFunc f _ _ _ => .rf f
  | _ => .bad

end Go.Ab
/-! Code. -/
namespace Go.Ab
section
variable {P : Program} {T : Tab} {σ : Sig} {Z : Nat → Prop} {h : Heap} {w : World} {e : List AV} {a : Act} {N : Nat}

/-- The marks that ranges over functions have left. -/
def MkR (σ : Sig) : List Nat → List Deferred → Prop
  | [], d => d = []
  | i :: is, d => ∃ p d', d = { target := .collected p.1, args := #[] } :: d' ∧ σ i = some p ∧ MkR σ is d'

theorem MkR.ext {σ' : Sig} (hs : ∀ i p, σ i = some p → σ' i = some p) : ∀ {ds : List Nat} {d : List Deferred}, MkR σ ds d → MkR σ' ds d
  | [], _, h => h
  | i :: is, d, h => by
    obtain ⟨p, d', h1, h2, h3⟩ := h
    exact ⟨p, d', h1, hs _ _ h2, MkR.ext hs h3⟩

abbrev CPost := Exit → List AV → List Nat → Heap → Prop

def Fits (N : Nat) (Q : CPost) (σ : Sig) (Z : Nat → Prop) (h : Heap) (w : World) (x : Exit) (a' : Act) (w' : World) : Prop :=
  (match x with | .panic _ => False | .outgrown => False | _ => True) ∧ ∃ σ' Z' h' e' ds', Q x e' ds' h' ∧ R σ' Z' h' w' ∧ Ext N σ Z h w σ' Z' h' w' ∧ ER σ' Z' w' e' a' ∧ MkR σ' ds' a'.defers

def AC (P : Program) (N : Nat) (c : Code) (e : List AV) (ds : List Nat) (h : Heap) (Q : CPost) : Prop :=
  ∀ (σ : Sig) (Z : Nat → Prop) (w : World) (a : Act), R σ Z h w → ER σ Z w e a → MkR σ ds a.defers → c.wp P (Fits N Q σ Z h w) a w

theorem AC.mono {c : Code} {ds : List Nat} {Q Q' : CPost} (hq : ∀ x e ds h, Q x e ds h → Q' x e ds h) (hc : AC P N c e ds h Q) : AC P N c e ds h Q' := fun σ Z w a r1 r2 r3 =>
  wp_mono (hc σ Z w a r1 r2 r3) fun _ _ _ ⟨h0, σ', Z', h', e', ds', k, r⟩ => ⟨h0, σ', Z', h', e', ds', hq _ _ _ _ k, r⟩

/-- From a later state. -/
theorem Fits.trans {Q : CPost} {σ1 : Sig} {Z1 : Nat → Prop} {h1 : Heap} {w1 : World} (x1 : Ext N σ Z h w σ1 Z1 h1 w1) {x : Exit} {a' : Act} {w' : World} (f : Fits N Q σ1 Z1 h1 w1 x a' w') : Fits N Q σ Z h w x a' w' := by
  obtain ⟨h0, σ', Z', h', e', ds', k, r1, r2, r3, r4⟩ := f
  exact ⟨h0, σ', Z', h', e', ds', k, r1, x1.trans r2, r3, r4⟩

theorem AC_skip {ds : List Nat} {Q : CPost} (hN : N ≤ h.next) (hq : Q .normal e ds h) : AC P N .skip e ds h Q := fun σ Z _ _ r1 r2 r3 =>
  wp_skip ⟨trivial, σ, Z, h, e, ds, hq, r1, Ext.refl _ _ _ _ hN, r2, r3⟩
theorem AC_label {l : Nat} {ds : List Nat} {Q : CPost} (hN : N ≤ h.next) (hq : Q .normal e ds h) : AC P N (.label l) e ds h Q := fun σ Z _ _ r1 r2 r3 =>
  wp_label ⟨trivial, σ, Z, h, e, ds, hq, r1, Ext.refl _ _ _ _ hN, r2, r3⟩
theorem AC_exit {id : Nat} {ds : List Nat} {Q : CPost} (hN : N ≤ h.next) (hq : Q (.exit id) e ds h) : AC P N (.exit id) e ds h Q := fun σ Z _ _ r1 r2 r3 =>
  wp_exit ⟨trivial, σ, Z, h, e, ds, hq, r1, Ext.refl _ _ _ _ hN, r2, r3⟩
theorem AC_ret {ds : List Nat} {Q : CPost} (hN : N ≤ h.next) (hq : Q .ret e ds h) : AC P N .ret e ds h Q := fun σ Z _ _ r1 r2 r3 =>
  wp_ret ⟨trivial, σ, Z, h, e, ds, hq, r1, Ext.refl _ _ _ _ hN, r2, r3⟩

/-- What is asked behind the first of two. -/
def thenQ (next : List AV → List Nat → Heap → Prop) (Q : CPost) : CPost := fun x e ds h => match x with | .normal => next e ds h | x => Q x e ds h

theorem AC_seq {c d : Code} {ds : List Nat} {Q : CPost} (hc : AC P N c e ds h (thenQ (fun e ds h => N ≤ h.next → AC P N d e ds h Q) Q)) : AC P N (.seq c d) e ds h Q := fun σ Z w a r1 r2 r3 =>
  wp_seq (wp_mono (hc σ Z w a r1 r2 r3) fun x a' w' hx => by
    obtain ⟨h0, σ', Z', h', e', ds', k, s1, s2, s3, s4⟩ := hx
    cases x with
    | normal => exact wp_mono (k s2.next σ' Z' w' a' s1 s3 s4) fun x a2 w2 f => f.trans s2
    | exit id => exact ⟨trivial, σ', Z', h', e', ds', k, s1, s2, s3, s4⟩
    | goto l => exact ⟨trivial, σ', Z', h', e', ds', k, s1, s2, s3, s4⟩
    | ret => exact ⟨trivial, σ', Z', h', e', ds', k, s1, s2, s3, s4⟩
    | panic c => exact h0.elim
    | outgrown => exact h0.elim)

theorem AC_cond {c : Operand} {x y : Code} {ds : List Nat} {Q : CPost} {t : Bool} (hc : opd e c = some (.bool t)) (hq : AC P N (if t then x else y) e ds h Q) : AC P N (.cond c x y) e ds h Q := fun σ Z w a r1 r2 r3 =>
  wp_cond (by have := opd_VR r2 hc; simpa only [VR] using this) (hq σ Z w a r1 r2 r3)

theorem AC_block {id : Nat} {c : Code} {ds : List Nat} {Q : CPost} (hc : AC P N c e ds h fun x e ds h => match x with | .exit id' => if id' = id then Q .normal e ds h else Q (.exit id') e ds h | x => Q x e ds h) : AC P N (.block id c) e ds h Q := fun σ Z w a r1 r2 r3 =>
  wp_block (wp_mono (hc σ Z w a r1 r2 r3) fun x a' w' hx => by
    obtain ⟨h0, σ', Z', h', e', ds', k, s1, s2, s3, s4⟩ := hx
    cases x with
    | exit id' =>
      simp only [Exit.inBlock]
      by_cases hid : id' = id
      · simp only [hid, if_true] at k ⊢; exact ⟨trivial, σ', Z', h', e', ds', k, s1, s2, s3, s4⟩
      · simp only [hid, if_false] at k ⊢; exact ⟨trivial, σ', Z', h', e', ds', k, s1, s2, s3, s4⟩
    | normal => exact ⟨trivial, σ', Z', h', e', ds', k, s1, s2, s3, s4⟩
    | goto l => exact ⟨trivial, σ', Z', h', e', ds', k, s1, s2, s3, s4⟩
    | ret => exact ⟨trivial, σ', Z', h', e', ds', k, s1, s2, s3, s4⟩
    | panic c => exact h0.elim
    | outgrown => exact h0.elim)

theorem AC_loop {c : Code} {ds : List Nat} {Q : CPost} (I : Nat → List AV → List Nat → Heap → Prop) (n : Nat) (h0 : I n e ds h) (hN : N ≤ h.next)
    (round : ∀ n e ds h, I n e ds h → N ≤ h.next → AC P N c e ds h (thenQ (fun e ds h => ∃ n', n' < n ∧ I n' e ds h) Q)) : AC P N (.loop c) e ds h Q := fun σ Z w a r1 r2 r3 =>
  wp_loop_ghost (fun n a' w' => ∃ σ' Z' h' e' ds', I n e' ds' h' ∧ R σ' Z' h' w' ∧ Ext N σ Z h w σ' Z' h' w' ∧ ER σ' Z' w' e' a' ∧ MkR σ' ds' a'.defers) n ⟨σ, Z, h, e, ds, h0, r1, Ext.refl _ _ _ _ hN, r2, r3⟩ fun n a' w' hI => by
    obtain ⟨σ', Z', h', e', ds', k, s1, s2, s3, s4⟩ := hI
    refine wp_mono (round n e' ds' h' k s2.next σ' Z' w' a' s1 s3 s4) fun x a2 w2 hx => ?_
    obtain ⟨h0, σ2, Z2, h2, e2, ds2, k2, t1, t2, t3, t4⟩ := hx
    cases x with
    | normal =>
      obtain ⟨n', hn, k3⟩ := k2
      exact ⟨n', hn, σ2, Z2, h2, e2, ds2, k3, t1, s2.trans t2, t3, t4⟩
    | exit id => exact ⟨trivial, σ2, Z2, h2, e2, ds2, k2, t1, s2.trans t2, t3, t4⟩
    | goto l => exact ⟨trivial, σ2, Z2, h2, e2, ds2, k2, t1, s2.trans t2, t3, t4⟩
    | ret => exact ⟨trivial, σ2, Z2, h2, e2, ds2, k2, t1, s2.trans t2, t3, t4⟩
    | panic c => exact h0.elim
    | outgrown => exact h0.elim

theorem R.bump {n : Nat} (hR : R σ Z h w) (hn : h.next + n < 1000000000000) : R σ Z (h.bump n) w :=
  ⟨hR.nofresh, fun id hi => hR.top id (Nat.le_trans (Nat.le_add_right _ _) hi), hR.live, hR.inj, hR.own, hR.zlt, hn⟩

theorem Ext.bump {n : Nat} (hN : N ≤ h.next) : Ext N σ Z h w σ Z (h.bump n) w :=
  ⟨fun _ _ h => h, fun _ h => h, fun _ h => .inl h, fun _ h => .inr h, fun _ _ _ => rfl, Nat.le_refl _, fun _ => Nat.le_refl _, fun _ _ h => h, Nat.le_trans hN (Nat.le_add_right _ _), rfl, rfl, rfl⟩

theorem AC_region (hT : T.ok P) {id : Nat} {ops : Array Oper} {ds : List Nat} {Q : CPost} (hN : N ≤ h.next) (hn : h.next + ops.size < 1000000000000)
    (hq : aops P T ops h.next (List.range ops.size) e (h.bump ops.size) fun e h => Q .normal e ds h) : AC P N (.region id ops false) e ds h Q := fun σ Z w a r1 r2 r3 =>
  wp_region (aops_sound hT (N := N) (base := h.next) hN _ List.nodup_range (r1.bump hn) r2 (fun i hi => ⟨r1.top _ (Nat.le_add_right _ _), by
    have := List.mem_range.1 hi
    simp only [Heap.bump_next]; omega⟩) (Nat.le_trans hN (Nat.le_add_right _ _)) hq fun σ' Z' h' w' e' a' k s1 s2 s3 s4 =>
    ⟨trivial, σ', Z', h', e', ds, k, s1, (Ext.bump hN).trans s2, s3, s4 ▸ r3.ext s2.sig⟩)

theorem AC_drawn (hT : T.ok P) (hm : P.follows .mixedOrders = true) {id : Nat} {ops : Array Oper} {ka : List Item} (ord : ordOk ops ka = true) (hl : ka.length = ops.size) {ds : List Nat} {Q : CPost} (hN : N ≤ h.next) (hn : h.next + ops.size < 1000000000000)
    (hq : Run P T ops h.next ka e (h.bump ops.size) fun e h => Q .normal e ds h) : AC P N (.region id ops true) e ds h Q := fun σ Z w a r1 r2 r3 => by
  have hrc : lft (Array.replicate ops.size false) ka = ka := by
    have inb : ∀ x, x ∈ ka → x.1 < ops.size ∧ ∀ r, r ∈ x.2.2 → r < ops.size := by
      simp only [ordOk, Bool.and_eq_true] at ord
      obtain ⟨⟨⟨⟨o1, o2⟩, o3⟩, o4⟩, o5⟩ := ord
      have inb : ∀ x, x ∈ ka → x.1 < ops.size := fun x hx => by
        obtain ⟨p, s, hk⟩ := List.append_of_mem hx
        obtain ⟨o, ho, _⟩ := topo_spec o4 hk
        exact (Array.getElem?_eq_some_iff.1 ho).1
      refine fun x hx => ⟨inb x hx, fun r hr => ?_⟩
      obtain ⟨p, s, hk⟩ := List.append_of_mem hx
      obtain ⟨o, ho, _, h3⟩ := topo_spec o4 hk
      rcases h3 r hr with h4 | h4
      · cases h4
      · obtain ⟨y, hy, rfl⟩ := List.mem_map.1 h4
        exact inb y (by rw [hk]; exact List.mem_append_left _ hy)
    have gd : ∀ i, i < ops.size → (Array.replicate ops.size false).getD i true = false := fun i hi => by simp [hi]
    unfold lft
    rw [List.filter_eq_self.2 (fun x hx => by simp [gd _ (inb x hx).1])]
    refine (List.map_congr_left fun x hx => ?_).trans (List.map_id ka)
    obtain ⟨i, c, rc⟩ := x
    simp only [cutRc]
    rw [List.filter_eq_self.2 (fun r hr => by simp [gd _ ((inb _ hx).2 r hr)])]; rfl
  have r1' : R σ Z (h.bump ops.size) { w with drawn := w.drawn + 1 } := (r1.bump hn).drawn rfl
  refine wp_region_any hm (drawn_sound hT ord (N := N) (base := h.next) hN _ _ (by simp) ?_ (by rw [hrc, hl]) r1' (r2.grow (Grow.drawn rfl)) ?_ (Nat.le_trans hN (Nat.le_add_right _ _)) (by rw [hrc]; exact hq) fun σ' Z' h' w' e' a' k s1 s2 s3 s4 =>
    ⟨trivial, σ', Z', h', e', ds, k, s1, ((Ext.bump (w := w) hN).trans (Ext.drawn (w := w) (h := h.bump ops.size) (W := { w with drawn := w.drawn + 1 }) (Nat.le_trans hN (Nat.le_add_right _ _)) rfl rfl rfl rfl)).trans s2, s3, s4 ▸ r3.ext s2.sig⟩)
  · intro i x hi _
    by_cases hlt : i < ops.size
    · simp [hlt] at hi
    · simp [hlt] at hi
  · intro x hx hu
    refine ⟨r1.top _ (Nat.le_add_right _ _), ?_⟩
    have : x.1 < ops.size := by
      rcases Nat.lt_or_ge x.1 ops.size with h1 | h1
      · exact h1
      · simp [h1] at hu
    simp only [Heap.bump_next]; omega

end
end Go.Ab
/-! Ranges over functions that give nothing; a function's contract. -/
namespace Go.Ab
section
variable {P : Program} {T : Tab} {σ : Sig} {Z : Nat → Prop} {h : Heap} {w : World} {e : List AV} {a : Act} {N : Nat}

theorem upd_putObj {b : Nat} {ob o : Obj} (hb : w.heap[b]? = some ob) : Upd w (w.putObj b o) b o := by
  have hlt := (Array.getElem?_eq_some_iff.1 hb).1
  refine ⟨by simp [World.putObj], fun k hk => ?_, ?_, rfl, rfl, rfl⟩
  · simp only [World.putObj]; rw [Array.getElem?_setIfInBounds_ne (fun e0 => hk e0.symm)]
  · simp [World.putObj, hlt]

/-- A range over a function that calls its 'yield' never. -/
theorem AC_range (hT : T.ok P) {f : Operand} {ps : Array Tmp} {asg body : Code} {ds : List Nat} {Q : CPost} {g : FuncId} {first cap : List AV} (hN : N ≤ h.next) (hn : h.next + 2 < 1000000000000)
    (hf : opd e f = some (.fn (.func g) first cap)) (hg : T.go g = true)
    (hq : CT P g (first ++ [.any] ++ cap) (((h.bump 2).set h.next (some (.dfr true))).set (h.next + 1) (some (.lp true))) fun _ h3 => h3.get (h.next + 1) = some (some (.lp true)) ∧ Q .normal e (h.next :: ds) (h3.set (h.next + 1) (some (.lp false)))) :
    AC P N (.rangeFunc f ps asg body) e ds h Q := by
  intro σ Z w a r1 r2 r3
  rw [← wpIn_wide (n := 0)]
  refine wpIn_rangeFunc fun fn _ => ?_
  have hv := opd_VR r2 hf
  simp only [VR] at hv
  obtain ⟨xs, ys, hx, hxs, hys⟩ := hv
  -- the block and the record
  have rb := r1.bump (n := 2) hn
  have t0 : (h.bump 2).get h.next = none := r1.top _ (Nat.le_refl _)
  have t1 : (h.bump 2).get (h.next + 1) = none := r1.top _ (Nat.le_add_right _ _)
  have nx : (h.bump 2).next = h.next + 2 := rfl
  let W1 : World := w.alloc (.deferred (some []))
  have p1 : Pushed w W1 (.deferred (some [])) := pushed_alloc w _
  have hfr0 := r1.nofresh _ (r1.top h.next (Nat.le_refl _))
  obtain ⟨s1, x1⟩ := alloc_state (N := N) rb p1 t0 hN (by omega) (by omega) (ao := .dfr true) ⟨rfl, by simpa using p1.new⟩
  let rec_ : Loop := { state := .ready, pending := none, fn := fn, tmps := a.tmps, params := ps, assign := asg, body := body, defers := w.heap.size }
  let W2 : World := W1.alloc (.loop rec_)
  have p2 : Pushed W1 W2 (.loop rec_) := pushed_alloc W1 _
  have t2 : ((h.bump 2).set h.next (some (.dfr true))).get (h.next + 1) = none := by
    rw [Heap.get_set_ne _ _ (by omega)]; exact t1
  obtain ⟨s2, x2⟩ := alloc_state (N := N) s1 p2 t2 (by omega) (show h.next + 1 < h.next + 2 by omega) (show h.next + 2 < 1000000000000 by omega) (ao := .lp true) ⟨rfl, rec_, by simpa using p2.new, rfl, fun _ => rfl⟩
  have x12 := ((Ext.bump (w := w) (σ := σ) (Z := Z) (n := 2) hN).trans x1).trans x2
  have hxs' := hxs.grow (x12.grow r1)
  have hys' := hys.grow (x12.grow r1)
  have hW1 : W1.heap.size = w.heap.size + 1 := by rw [p1.heap]; simp
  refine ⟨w.heap.size + 1, [{ target := .collected w.heap.size, args := #[] }], W2, { target := .fn (.func g) ys, args := xs ++ #[.func (.yield (w.heap.size + 1)) #[] #[]] }, W2, g, xs ++ #[.func (.yield (w.heap.size + 1)) #[] #[]] ++ ys, W2, ?_, ?_, fun _ _ => trivial, ?_, by simp [Fence.wide], ?_⟩
  · show (Instr.enterLoop fn a.tmps ps asg body none).run P w = _
    rw [run_enterLoop_outer]
  · have hyv : ∀ l, a.eval (.const (.func (.yield l) #[] #[])) = .func (.yield l) #[] #[] := fun _ => rfl
    simp only [resolve, hx, Deferred.ofValue, Sem.run_pure, List.map_toArray, List.map_cons, List.map_nil, hyv]
  · simp only [invoke]
    exact run_callFunc hT hg _ _
  · rw [callsIn_wide]
    refine Calls.mono (hq _ Z W2 _ s2 ?_) ?_
    · simp only [Array.toList_append, List.append_assoc]
      refine VRs.append hxs' (VRs.append (by simp only [VRs]; exact ⟨_, _, rfl, by simp only [VR], rfl⟩) hys')
    · intro x w' hp
      cases x with
      | returned v =>
        obtain ⟨σ', Z', av, h3, ⟨k1, k2⟩, r1', x3, _⟩ := hp
        have x3' : Ext N _ _ _ _ _ _ _ _ := x3.mono (show N ≤ h.next + 2 by omega)
        have hl := x3.sig (h.next + 1) _ Sig.put_eq
        have hd := x3.sig h.next (w.heap.size, 0) (by rw [Sig.put_ne (by omega)]; exact Sig.put_eq)
        obtain ⟨p, hp1, h0, r, hr, hpend, hst⟩ := r1'.live _ _ k1
        rw [hl] at hp1; injection hp1 with hp1; subst hp1
        have hW : W1.heap.size = w.heap.size + 1 := hW1
        simp only [hW] at hr hl
        have hend := run_endLoop (P := P) hr (by rw [hst rfl]; decide)
        refine ⟨r.pending, _, hend, ?_⟩
        have u := upd_putObj (o := .loop { r with state := .exhausted }) hr
        obtain ⟨r2', x4⟩ := update_state (N := N) r1' k1 hl r1'.lim (Nat.le_trans (show N ≤ h.next + 2 by omega) x3.next) hr u (fun _ _ _ e0 => by cases e0) (ao' := .lp false) (fun _ => ⟨rfl, _, u.at_, hpend, fun e0 => by cases e0⟩)
        split
        rotate_left
        · rename_i e0; rw [hpend] at e0; cases e0
        exact ⟨trivial, σ', Z', _, e, h.next :: ds, k2, r2', (x12.trans x3').trans x4, r2.grow (((x12.trans x3').trans x4).grow r1), (w.heap.size, 0), _, rfl, hd, r3.ext ((x12.trans x3').sig)⟩
      | panicked c => exact hp.elim
      | outgrown => exact hp.elim

/-- The marks are there, each once. -/
def dsOk : List Nat → Heap → Prop
  | [], _ => True
  | i :: is, h => h.get i = some (some (.dfr true)) ∧ dsOk is (h.set i (some (.dfr false)))
noncomputable def dsCut : List Nat → Heap → Heap
  | [], h => h
  | i :: is, h => dsCut is (h.set i (some (.dfr false)))

noncomputable def aResult (T : Tab) (e : List AV) (h : Heap) : ResultVar → Option AV
  | .tmp t => e[t]?
  | .cell x t => (e[x]?).bind (aLoad T h t)
noncomputable def aResults (T : Tab) (e : List AV) (h : Heap) : List ResultVar → Option (List AV)
  | [] => some []
  | x :: xs => match aResult T e h x, aResults T e h xs with
    | some a, some as => some (a :: as)
    | _, _ => none
def packR : List AV → AV
  | [v] => v
  | vs => .tup vs

/-- What a result is, of the slots. -/
def resF (tmps : Array Value) : ResultVar → Sem Value
  | .tmp t => pure (tmps.getD t undef)
  | .cell y t => do loadVar t (← asAddr (tmps.getD y undef))

theorem aResult_sound (hT : T.ok P) (hR : R σ Z h w) {tmps : Array Value} (he : VRs σ Z w e tmps.toList) {x : ResultVar} {v : AV} (hq : aResult T e h x = some v) :
    ∃ u, (resF tmps x).run P w = .ok u w ∧ VR σ Z w v u := by
  cases x with
  | tmp t =>
    obtain ⟨u, hu, hr⟩ := VRs.get he hq
    have : tmps[t]? = some u := by simpa using hu
    exact ⟨u, by simp [resF, this], hr⟩
  | cell y t =>
    simp only [aResult, Option.bind_eq_some_iff] at hq
    obtain ⟨av, h1, h2⟩ := hq
    obtain ⟨u, hu, hr⟩ := VRs.get he h1
    have hu' : tmps[y]? = some u := by simpa using hu
    obtain ⟨b, o, r, rfl, hr', hv⟩ := loadVar_sound hT hR hr h2
    exact ⟨r, by simp [resF, hu', asAddr, hr'], hv⟩

theorem aResults_sound (hT : T.ok P) (hR : R σ Z h w) {tmps : Array Value} (he : VRs σ Z w e tmps.toList) : ∀ {xs : List ResultVar} {vs : List AV}, aResults T e h xs = some vs →
    ∃ us, (xs.mapM (resF tmps)).run P w = .ok us w ∧ VRs σ Z w vs us
  | [], vs, hq => by
    simp only [aResults] at hq; injection hq with hq; subst hq
    exact ⟨[], by simp, rfl⟩
  | x :: xs, vs, hq => by
    simp only [aResults] at hq
    split at hq
    · rename_i v as h1 h2
      injection hq with hq; subst hq
      obtain ⟨u, hu, hv⟩ := aResult_sound hT hR he h1
      obtain ⟨us, hus, hvs⟩ := aResults_sound hT hR he h2
      refine ⟨u :: us, ?_, by simp only [VRs]; exact ⟨_, _, rfl, hv, hvs⟩⟩
      rw [List.mapM_cons]
      simp only [Sem.run_bind, hu, Result.andThen_ok, hus, Sem.run_pure]
    · cases hq

end
end Go.Ab
/-! A function's contract from its body. -/
namespace Go.Ab
section
variable {P : Program} {T : Tab} {σ : Sig} {Z : Nat → Prop} {h : Heap} {w : World} {e : List AV} {a : Act} {N : Nat}

theorem results_eq (fn : Func) (tmps : Array Value) : results fn tmps = (do let vs ← fn.results.mapM (resF tmps); pure (if h : vs.size = 1 then vs[0] else .tuple vs)) := by
  unfold results
  have : ∀ f : ResultVar → Sem Value, (∀ x, f x = resF tmps x) → (do let vs ← fn.results.mapM f; pure (if h : vs.size = 1 then vs[0] else .tuple vs) : Sem Value) = (do let vs ← fn.results.mapM (resF tmps); pure (if h : vs.size = 1 then vs[0] else .tuple vs)) := fun f hf => by
    rw [funext hf]
  refine this _ fun x => ?_
  cases x <;> rfl

theorem results_sound (hT : T.ok P) (hR : R σ Z h w) {tmps : Array Value} (he : VRs σ Z w e tmps.toList) {fn : Func} {vs : List AV} (hq : aResults T e h fn.results.toList = some vs) :
    ∃ v, (results fn tmps).run P w = .ok v w ∧ VR σ Z w (packR vs) v := by
  obtain ⟨us, hu, hv⟩ := aResults_sound hT hR he hq
  have h1 : (fn.results.mapM (resF tmps)).run P w = .ok us.toArray w := by
    rw [Array.mapM_eq_mapM_toList]
    have : ∀ (m : Sem (List Value)), m.run P w = .ok us w → (List.toArray <$> m).run P w = .ok us.toArray w := fun m hm => by
      show (m >>= fun x => pure x.toArray).run P w = _
      rw [Sem.run_bind, hm]; rfl
    exact this _ hu
  refine ⟨if h : us.toArray.size = 1 then us.toArray[0] else .tuple us.toArray, ?_, ?_⟩
  · rw [results_eq, Sem.run_bind, h1]
    rfl
  · match vs, us, hv with
    | [], us, hv => simp only [VRs] at hv; subst hv; simp only [packR, VR]; exact ⟨#[], rfl, by simp [VRs]⟩
    | [v], us, hv =>
      simp only [VRs] at hv
      obtain ⟨u, us', rfl, h2, rfl⟩ := hv
      simpa [packR] using h2
    | v1 :: v2 :: vs, us, hv =>
      have hl := hv.length
      simp only [List.length_cons] at hl
      have : ¬ us.toArray.size = 1 := by simp; omega
      rw [dif_neg this]
      simp only [packR, VR]
      exact ⟨_, rfl, hv⟩

theorem replicate_VRs (n : Nat) : VRs σ Z w (List.replicate n (.tup [])) (List.replicate n undef) := by
  induction n with
  | zero => rfl
  | succ n ih => simp only [List.replicate_succ, VRs]; exact ⟨_, _, rfl, undef_VR _ _ _, ih⟩

theorem leaves_sound (hT : T.ok P) {fn : Func} {tmps : Array Value} {vs : List AV} {Rp : Ending → World → Prop} : ∀ (ds : List Nat) {d : List Deferred} {h : Heap} {w : World},
    R σ Z h w → N ≤ h.next → MkR σ ds d → dsOk ds h → VRs σ Z w e tmps.toList → aResults T e (dsCut ds h) fn.results.toList = some vs →
    (∀ w' v, R σ Z (dsCut ds h) w' → Ext N σ Z h w σ Z (dsCut ds h) w' → VR σ Z w' (packR vs) v → Rp (.returned v) w') →
    LeavesInM Fence.wide 0 P fn tmps Rp d .returning w
  | [], d, h, w, hR, hN, hm, _, he, hq, hk => by
    simp only [MkR] at hm; subst hm
    obtain ⟨v, hr, hv⟩ := results_sound hT hR he hq
    exact ⟨v, hr, hk _ _ hR (Ext.refl _ _ _ _ hN) hv⟩
  | i :: is, d, h, w, hR, hN, hm, hd, he, hq, hk => by
    obtain ⟨p, d', rfl, hp, hm'⟩ := hm
    obtain ⟨hd1, hd2⟩ := hd
    obtain ⟨q, hq', h0, hb⟩ := hR.live _ _ hd1
    rw [hp] at hq'; injection hq' with hq'; subst hq'
    have hb' : w.heap[p.1]? = some (.deferred (some [])) := hb
    have ht := run_takeDeferred (P := P) hb'
    have u := upd_putObj (o := .deferred none) hb'
    obtain ⟨r1, x1⟩ := update_state (N := N) hR hd1 hp hR.lim hN hb' u (fun _ _ _ e0 => by cases e0) (ao' := .dfr false) (fun _ => ⟨h0, u.at_⟩)
    refine ⟨(fun e0 => by cases e0), .inl ⟨p.1, _, rfl, ht, ?_⟩⟩
    exact leaves_sound hT is r1 (by exact hN) hm' hd2 (he.grow (x1.grow hR)) hq fun w' v k1 k2 k3 => hk w' v k1 (x1.trans k2) k3

theorem CT_of_body (hT : T.ok P) {f : FuncId} {fn : Func} {c : Code} (hf : P.funcs[f]? = some fn) (hb : fn.body = some c) {args : List AV} {K : AV → Heap → Prop}
    (hc : AC P h.next c (args ++ List.replicate (fn.ntmps - args.length) (.tup [])) [] h fun x e ds h' => (x = .normal ∨ x = .ret) ∧ dsOk ds h' ∧ ∃ vs, aResults T e (dsCut ds h') fn.results.toList = some vs ∧ K (packR vs) (dsCut ds h')) :
    CT P f args h K := by
  intro σ Z w vs hR hv
  rw [← callsIn_wide (n := 0)]
  refine callsIn_of_wp_marks hf hb trivial ?_
  rw [wpIn_wide]
  have hl : vs.size = args.length := by have := hv.length; simpa using this
  have he : ER σ Z w (args ++ List.replicate (fn.ntmps - args.length) (.tup [])) { tmps := vs ++ Array.replicate (fn.ntmps - vs.size) undef, defers := [] } := by
    simp only [ER, Array.toList_append, Array.toList_replicate, hl]
    exact hv.append (replicate_VRs _)
  refine wp_mono (hc σ Z w _ hR he rfl) fun x a' w' hx => ?_
  obtain ⟨h0, σ', Z', h', e', ds', ⟨hx, hd, rs, hrs, k⟩, s1, s2, s3, s4⟩ := hx
  have key : LeavesInM Fence.wide 0 P fn a'.tmps (Post σ Z h w K) a'.defers .returning w' :=
    leaves_sound (N := h.next) hT ds' s1 s2.next s4 hd s3 hrs fun w2 v k1 k2 k3 => ⟨σ', Z', _, _, k, k1, s2.trans k2, k3⟩
  rcases hx with rfl | rfl
  · exact key
  · exact key

end
end Go.Ab
/-! The tables of a program. -/
namespace Go.Ab

def oneAll : List Value → Bool
  | [] => true
  | v :: vs => v.oneCell' && oneAll vs

theorem oneAll_ones : ∀ {vs : List Value}, oneAll vs = true → ones vs
  | [], _ => ones_nil
  | v :: vs, h => by
    simp only [oneAll, Bool.and_eq_true] at h
    intro u hu
    rcases List.mem_cons.1 hu with rfl | hu
    · exact h.1
    · exact oneAll_ones h.2 u hu

/-- A plain value, every part of which is told by itself. -/
def zeroAV (v : Value) : Option AV :=
  match v with
  | .agg ⟨cs⟩ => if oneAll cs then (flat cs).map (.agg cs.length) else none
  | v => one v
 where
  one : Value → Option AV
    | .bool b => some (.bool b)
    | .int k n => some (.int k n)
    | .string s => some (.str s)
    | .pointer none => some .nilp
    | .slice none 0 0 => some .nils
    | .map none => some .nilm
    | .nilFunc => some .nilf
    | .nilIface => some .nili
    | _ => none
  flat : List Value → Option (List AV)
    | [] => some []
    | v :: vs => match one v, flat vs with
      | some a, some as => some (a :: as)
      | _, _ => none

theorem one_VR {v : Value} {a : AV} (h : zeroAV.one v = some a) (σ : Sig) (Z : Nat → Prop) (w : World) : VR σ Z w a v := by
  unfold zeroAV.one at h
  split at h <;> first
    | (injection h with h; subst h; simp only [VR]; done)
    | (cases h; done)

theorem flat_VR : ∀ {vs : List Value} {as : List AV}, zeroAV.flat vs = some as → ∀ (σ : Sig) (Z : Nat → Prop) (w : World), VRs σ Z w as vs
  | [], as, h => by
    simp only [zeroAV.flat] at h; injection h with h; subst h
    intro _ _ _; rfl
  | v :: vs, as, h => by
    simp only [zeroAV.flat] at h
    split at h
    · rename_i a as' h1 h2
      injection h with h; subst h
      intro σ Z w
      simp only [VRs]
      exact ⟨_, _, rfl, one_VR h1 _ _ _, flat_VR h2 _ _ _⟩
    · cases h

theorem zeroAV_VR {v : Value} {a : AV} (h : zeroAV v = some a) (σ : Sig) (Z : Nat → Prop) (w : World) : VR σ Z w a v := by
  unfold zeroAV at h
  split at h
  · rename_i cs
    split at h
    · rename_i ho
      simp only [Option.map_eq_some_iff] at h
      obtain ⟨as, h1, rfl⟩ := h
      simp only [VR]
      exact ⟨_, rfl, rfl, flat_VR h1 _ _ _, oneAll_ones ho⟩
    · cases h
  · exact one_VR h _ _ _

def methOf (P : Program) (t : TypeId) (name : String) : Option (FuncId × Option TypeId) :=
  match P.info? t with
  | some i => match i.methods.find? (fun x => x.name == name) with
    | some m => if m.path = #[] then match m.func with
      | some (f, pr) => match P.underlying t with
        | some (.pointer el) => if pr then some (f, none) else some (f, some el)
        | some _ => if pr then none else some (f, none)
        | none => none
      | none => none
      else none
    | none => none
  | none => none

def tabOf (P : Program) (ext : FuncId → Option Nat) : Tab where
  und := P.underlying
  size t := (P.info? t).map (·.size)
  bytes t := (P.info? t).map (·.bytes)
  zero t := (P.info? t).bind fun i => i.zero.bind zeroAV
  eqok t := !(P.eqGuardType P.depth t) && !(P.stoodInHeld t)
  bigs := true
  go f := match P.funcs[f]? with
    | some fn => !(fn.name == "runtime.NumGoroutine") && !fn.body.isNone
    | none => false
  ext := ext
  meth := methOf P

theorem tabOf_ok {P : Program} {ext : FuncId → Option Nat} (he : ∀ f n, ext f = some n → ∃ fn, P.funcs[f]? = some fn ∧ (fn.name == "runtime.NumGoroutine") = false ∧ fn.body.isNone = true ∧ Extern.findNext fn = none ∧
    ((n = 0 ∧ Extern.find fn = some Extern.MapsClone.clone) ∨ (n = 1 ∧ Extern.find fn = some Extern.BytealgCompare.compare))) : (tabOf P ext).ok P where
  und t d h := h
  size t n h := by
    simp only [tabOf, Option.map_eq_some_iff] at h
    exact h
  bytes t n h := by
    simp only [tabOf, Option.map_eq_some_iff] at h
    exact h
  zero t z h := by
    simp only [tabOf, Option.bind_eq_some_iff] at h
    obtain ⟨i, h1, v, h2, h3⟩ := h
    exact ⟨i, v, h1, h2, zeroAV_VR h3⟩
  eqok t h := by
    simp only [tabOf, Bool.and_eq_true, Bool.not_eq_true'] at h
    exact h
  go f h := by
    simp only [tabOf] at h
    split at h
    · rename_i fn hf
      simp only [Bool.and_eq_true, Bool.not_eq_true'] at h
      exact ⟨fn, hf, h.1, h.2⟩
    · cases h
  ext := he
  meth t name f q h := by
    simp only [tabOf, methOf] at h
    split at h
    · rename_i i hi
      split at h
      · rename_i m hm
        split at h
        · rename_i hp
          split at h
          · rename_i f' pr hf
            split at h
            · rename_i el hu
              split at h
              · rename_i hpr
                injection h with h; injection h with e1 e2; subst e1; subst e2
                exact ⟨i, m, pr, hi, hm, hp, hf, .inl ⟨hpr, el, hu⟩⟩
              · rename_i hpr
                injection h with h; injection h with e1 e2; subst e1; subst e2
                exact ⟨i, m, pr, hi, hm, hp, hf, by simpa using hpr, hu⟩
            · rename_i d hnp hu
              split at h
              · cases h
              · rename_i hpr
                injection h with h; injection h with e1 e2; subst e1; subst e2
                exact ⟨i, m, pr, hi, hm, hp, hf, .inr ⟨by simpa using hpr, d, hu, hnp⟩⟩
            · cases h
          · cases h
        · cases h
      · cases h
    · cases h

end Go.Ab
/-! Running code on what is known. -/
namespace Go.Ab

mutual
def AV.same : AV → AV → Bool
  | .bool a, .bool b => a == b
  | .int k a, .int k' b => a == b && decide (k = k')
  | .str a, .str b => a.data.toList == b.data.toList
  | .nilp, .nilp => true
  | .nils, .nils => true
  | .nilm, .nilm => true
  | .nilf, .nilf => true
  | .nili, .nili => true
  | .ptr a b, .ptr c d => a == c && b == d
  | .sl a b c d e f, .sl a' b' c' d' e' f' => a == a' && b == b' && c == c' && d == d' && e == e' && f == f'
  | .mp a, .mp b => a == b
  | .rp a, .rp b => AV.sames a b
  | .rs n a, .rs m b => n == m && AV.sames a b
  | .fn (.func f) a b, .fn (.func g) c d => f == g && AV.sames a c && AV.sames b d
  | .ifc t a, .ifc u b => t == u && AV.same a b
  | .agg n a, .agg m b => n == m && AV.sames a b
  | .tup a, .tup b => AV.sames a b
  | _, _ => false
def AV.sames : List AV → List AV → Bool
  | [], [] => true
  | a :: as, b :: bs => AV.same a b && AV.sames as bs
  | _, _ => false
end

mutual
theorem AV.same_eq : ∀ {a b : AV}, AV.same a b = true → a = b
  | .bool a, b, h => by cases b <;> simp_all [AV.same]
  | .int k a, b, h => by cases b <;> simp_all [AV.same]
  | .str a, b, h => by
    cases b <;> simp [AV.same] at h
    obtain ⟨⟨a⟩⟩ := a
    rename_i b
    obtain ⟨⟨b⟩⟩ := b
    simp at h; subst h; rfl
  | .nilp, b, h => by cases b <;> simp_all [AV.same]
  | .nils, b, h => by cases b <;> simp_all [AV.same]
  | .nilm, b, h => by cases b <;> simp_all [AV.same]
  | .nilf, b, h => by cases b <;> simp_all [AV.same]
  | .nili, b, h => by cases b <;> simp_all [AV.same]
  | .ptr a c, b, h => by cases b <;> simp_all [AV.same]
  | .sl _ _ _ _ _ _, b, h => by cases b <;> simp_all [AV.same]
  | .mp a, b, h => by cases b <;> simp_all [AV.same]
  | .rp a, b, h => by
    cases b <;> simp [AV.same] at h
    rw [AV.sames_eq h]
  | .rs n a, b, h => by
    cases b <;> simp [AV.same] at h
    rw [AV.sames_eq h.2, h.1]
  | .fn f x y, b, h => by
    cases b with
    | fn g u v =>
      cases f <;> cases g <;> simp [AV.same] at h
      rw [AV.sames_eq h.1.2, AV.sames_eq h.2, h.1.1]
    | _ => cases f <;> simp [AV.same] at h
  | .ifc t a, b, h => by
    cases b <;> simp [AV.same] at h
    rw [AV.same_eq h.2, h.1]
  | .agg n a, b, h => by
    cases b <;> simp [AV.same] at h
    rw [AV.sames_eq h.2, h.1]
  | .tup a, b, h => by
    cases b <;> simp [AV.same] at h
    rw [AV.sames_eq h]
  | .any, b, h => by cases b <;> simp [AV.same] at h
theorem AV.sames_eq : ∀ {a b : List AV}, AV.sames a b = true → a = b
  | [], b, h => by cases b <;> simp_all [AV.sames]
  | x :: xs, b, h => by
    cases b with
    | nil => simp [AV.sames] at h
    | cons y ys =>
      simp only [AV.sames, Bool.and_eq_true] at h
      rw [AV.same_eq h.1, AV.sames_eq h.2]
end

/-- Is it wanted? -/
def xw (e : List AV) (gd : Option (Nat × Bool)) : Option Bool :=
  match gd with
  | none => some true
  | some (d, want) => match e[d]? with
    | some (.bool b) => some (b == want)
    | some (.tup []) => some false
    | _ => none

noncomputable def xlk (T : Tab) (e : List AV) (h : Heap) (l : XLook) : Bool :=
  match xw e l.gd with
  | some false => true
  | some true => match light T e h l.op with
    | some v => match l.dst with
      | some d => match e[d]? with
        | some u => u.same v
        | none => false
      | none => true
    | none => false
  | none => false

/-- What a call of a function known by its number does. -/
abbrev XCall := FuncId → List AV → Heap → (AV → Heap → Bool) → Bool

noncomputable def xop1 (T : Tab) (call : XCall) (base : Nat) (x : XOp) (e : List AV) (h : Heap) (K : List AV → Heap → Bool) : Bool :=
  match xw e x.gd with
  | some false => K (ePut e x.dst (.tup [])) h
  | some true => match x.cls with
    | 0 => match light T e Heap.empty x.op with
      | some v => K (ePut e x.dst v) h
      | none => false
    | 1 => match light T e h x.op with
      | some v => K (ePut e x.dst v) h
      | none => false
    | 2 => match mkOp T e Heap.empty x.op with
      | some (ao, f) => K (ePut e x.dst (f (base + x.i))) (h.set (base + x.i) (some ao))
      | none => false
    | 3 => match wrOp T e h (base + x.i) x.op with
      | some (v, h') => K (ePut e x.dst v) h'
      | none => false
    | 4 => match nxOp T e h x.op with
      | some outs => outs.all fun out => K (ePut e x.dst out.1) out.2
      | none => false
    | 5 => match calleeOf T e h x.op with
      | some (f, args) => call f args h fun v h' => K (ePut e x.dst v) h'
      | none => match wrOp T e h (base + x.i) x.op with
        | some (v, h') => K (ePut e x.dst v) h'
        | none => false
    | _ => match mkOp T e h x.op with
      | some (ao, f) => K (ePut e x.dst (f (base + x.i))) (h.set (base + x.i) (some ao))
      | none => false
  | none => false

noncomputable def xitems (T : Tab) (call : XCall) (base : Nat) : List XOp → List AV → Heap → (List AV → Heap → Bool) → Bool
  | [], e, h, K => K e h
  | x :: xs, e, h, K => xop1 T call base x e h fun e' h' => x.rc.all (xlk T e' h') && xitems T call base xs e' h' K

structure XFn where
  code : XC
  ntmps : Nat
  results : List ResultVar

noncomputable def dsOkB : List Nat → Heap → Bool
  | [], _ => true
  | i :: is, h => (match h.get i with | some (some (.dfr true)) => true | _ => false) && dsOkB is (h.set i (some (.dfr false)))

noncomputable def lpB (h : Heap) (i : Nat) : Bool := match h.get i with | some (some (.lp true)) => true | _ => false

abbrev XPost := Exit → List AV → List Nat → Heap → Bool

/-- What is asked where a function's code ends. -/
noncomputable def endK (T : Tab) (rs : List ResultVar) (K : AV → Heap → Bool) : XPost := fun x e ds h =>
  (match x with | .normal => true | .ret => true | _ => false) && (dsOkB ds h && match aResults T e (dsCut ds h) rs with
    | some vs => K (packR vs) (dsCut ds h)
    | none => false)

noncomputable def xcode (T : Tab) (F : FuncId → Option XFn) : Nat → XC → List AV → List Nat → Heap → XPost → Bool
  | 0, _, _, _, _, _ => false
  | n + 1, c, e, ds, h, K =>
    let call : XCall := fun f args h K => match F f with
      | none => false
      | some fn => xcode T F n fn.code (args ++ List.replicate (fn.ntmps - args.length) (.tup [])) [] h (endK T fn.results K)
    match c with
    | .skip => K .normal e ds h
    | .region m items _ => if h.next + m < 1000000000000 then xitems T call h.next items e (h.bump m) fun e h => K .normal e ds h else false
    | .seq a b => xcode T F n a e ds h fun x e ds h => match x with
      | .normal => xcode T F n b e ds h K
      | x => K x e ds h
    | .cond c a b => match opd e c with
      | some (.bool true) => xcode T F n a e ds h K
      | some (.bool false) => xcode T F n b e ds h K
      | _ => false
    | .block id b => xcode T F n b e ds h fun x e ds h => match x with
      | .exit id' => if id' = id then K .normal e ds h else K (.exit id') e ds h
      | x => K x e ds h
    | .loop b => xcode T F n b e ds h fun x e ds h => match x with
      | .normal => xcode T F n (.loop b) e ds h K
      | x => K x e ds h
    | .exit id => K (.exit id) e ds h
    | .ret => K .ret e ds h
    | .rf f => match opd e f with
      | some (.fn (.func g) first cap) => if h.next + 2 < 1000000000000 then
          call g (first ++ [.any] ++ cap) (((h.bump 2).set h.next (some (.dfr true))).set (h.next + 1) (some (.lp true))) fun _ h3 =>
            lpB h3 (h.next + 1) && K .normal e (h.next :: ds) (h3.set (h.next + 1) (some (.lp false)))
        else false
      | _ => false
    | .bad => false

def fnOf (T : Tab) (P : Program) (f : FuncId) : Option XFn :=
  match P.funcs[f]? with
  | some fn => match fn.body with
    | some c => if T.go f then some ⟨conv T c, fn.ntmps, fn.results.toList⟩ else none
    | none => none
  | none => none

end Go.Ab
/-! The run tells the truth. -/
namespace Go.Ab
section
variable {P : Program} {T : Tab} {h : Heap} {e : List AV} {N : Nat} {ops : Array Oper}

theorem mk_only {op : Op} {r : AO × (Nat → AV)} (hq : mkOp T e h op = some r) : light T e h op = none := by
  unfold mkOp at hq
  split at hq <;> first
    | rfl
    | (cases hq; done)
    | skip
  rename_i src dst x
  split at hq
  · rename_i h1 h2 h3
    simp only [light, h3, Option.bind_some, aConvert, h1, h2]
  · cases hq

theorem wr_only {id : Nat} {op : Op} {r : AV × Heap} (hq : wrOp T e h id op = some r) : light T e h op = none ∧ mkOp T e h op = none := by
  unfold wrOp at hq
  split at hq <;> first
    | exact ⟨rfl, rfl⟩
    | cases hq

theorem nx_only {id : Nat} {op : Op} {r : List (AV × Heap)} (hq : nxOp T e h op = some r) : light T e h op = none ∧ mkOp T e h op = none ∧ wrOp T e h id op = none := by
  unfold nxOp at hq
  split at hq <;> first
    | exact ⟨rfl, rfl, rfl⟩
    | cases hq

theorem callee_only (hT : T.ok P) {id : Nat} {op : Op} {r : FuncId × List AV} (hq : calleeOf T e h op = some r) : light T e h op = none ∧ mkOp T e h op = none ∧ wrOp T e h id op = none ∧ nxOp T e h op = none := by
  unfold calleeOf at hq
  split at hq
  · rename_i x args ats
    refine ⟨rfl, rfl, ?_, rfl⟩
    split at hq
    · rename_i f first cap as h1 h2
      split at hq
      · rename_i hg
        have hx : T.ext f = none := by
          cases hx : T.ext f with
          | none => rfl
          | some n =>
            obtain ⟨fn, g1, _, g3⟩ := hT.go _ hg
            obtain ⟨fn', k1, _, k3, _⟩ := hT.ext _ _ hx
            rw [g1] at k1; injection k1 with k1; subst k1
            rw [g3] at k3; cases k3
        simp only [wrOp, h1, h2]
        split
        · rename_i e1 e2
          injection e1 with e1; injection e1 with e1; injection e1 with e1; subst e1
          rw [hx]
        · rfl
      · cases hq
    · cases hq
  · exact ⟨rfl, rfl, rfl, rfl⟩
  · cases hq

/-- A call is told rightly. -/
def CallOk (P : Program) (call : XCall) : Prop := ∀ f args h K, call f args h K = true → CT P f args h fun v h' => K v h' = true

theorem gd_wanted {o : Oper} {g : Option (Nat × Bool)} (hg : gdOf ops o = some g) (e : List AV) : aWanted ops e o = xw e g := by
  unfold gdOf at hg
  unfold aWanted
  split at hg
  · rename_i h1; injection hg with hg; subst hg; simp only [h1, xw]
  · rename_i j want h1
    split at hg
    · rename_i d h2
      injection hg with hg; subst hg
      simp only [h1, h2, xw]
      cases e[d]? with
      | none => rfl
      | some v => cases v <;> first | rfl | (rename_i l; cases l <;> rfl)
    · cases hg

/-- What is kept of an operation. -/
theorem xop_spec {it : Item} {x : XOp} (hx : xop T ops it = some x) : x.i = it.1 ∧ ∃ o, ops[it.1]? = some o ∧ x.dst = o.dst ∧ x.op = o.op ∧ gdOf ops o = some x.gd ∧ x.cls = (if it.2.1 < 3 then it.2.1 else kindOf T o.op) ∧ it.2.2.mapM (xlook ops) = some x.rc := by
  unfold xop at hx
  simp only [Option.bind_eq_bind, Option.bind_eq_some_iff, Option.pure_def, Option.some.injEq] at hx
  obtain ⟨o, h1, g, h2, rc, h3, h4⟩ := hx
  subst h4
  exact ⟨rfl, o, h1, rfl, rfl, h2, rfl, h3⟩

theorem xop1_aop (hT : T.ok P) {call : XCall} (hc : CallOk P call) {base : Nat} {x : XOp} {K : List AV → Heap → Bool} (hw : xw e x.gd = some true) (hq : xop1 T call base x e h K = true) :
    aop P T e h (base + x.i) x.op fun v h' => K (ePut e x.dst v) h' = true := by
  unfold xop1 at hq
  simp only [hw] at hq
  have W : ∀ {v : AV} {h' : Heap}, wrOp T e h (base + x.i) x.op = some (v, h') → K (ePut e x.dst v) h' = true → aop P T e h (base + x.i) x.op fun v h' => K (ePut e x.dst v) h' = true := by
    intro v h' hl hk
    obtain ⟨l1, l2⟩ := wr_only hl
    unfold aop; rw [l1, l2, hl]; exact hk
  split at hq
  · split at hq
    · rename_i v hl; unfold aop; rw [light_le (HLe.empty h) hl]; exact hq
    · cases hq
  · split at hq
    · rename_i v hl; unfold aop; rw [hl]; exact hq
    · cases hq
  · split at hq
    · rename_i ao f hl
      have hl' := mkOp_le (HLe.empty h) hl
      unfold aop; rw [mk_only hl', hl']; exact hq
    · cases hq
  · split at hq
    · rename_i v h' hl; exact W hl hq
    · cases hq
  · split at hq
    · rename_i outs hl
      obtain ⟨l1, l2, l3⟩ := nx_only (id := base + x.i) hl
      unfold aop; rw [l1, l2, l3, hl]
      exact fun out ho => List.all_eq_true.1 hq out ho
    · cases hq
  · split at hq
    · rename_i f args hl
      obtain ⟨l1, l2, l3, l4⟩ := callee_only hT (id := base + x.i) hl
      unfold aop; rw [l1, l2, l3, l4, hl]
      exact hc _ _ _ _ hq
    · split at hq
      · rename_i v h' hl; exact W hl hq
      · cases hq
  · split at hq
    · rename_i ao f hl
      unfold aop; rw [mk_only hl, hl]; exact hq
    · cases hq

theorem xop1_skip {call : XCall} {base : Nat} {x : XOp} {K : List AV → Heap → Bool} (hw : xw e x.gd = some false) (hq : xop1 T call base x e h K = true) : K (ePut e x.dst (.tup [])) h = true := by
  unfold xop1 at hq
  simpa only [hw] using hq

theorem xop1_some {call : XCall} {base : Nat} {x : XOp} {K : List AV → Heap → Bool} (hq : xop1 T call base x e h K = true) : xw e x.gd = some true ∨ xw e x.gd = some false := by
  unfold xop1 at hq
  split at hq
  · exact .inr (by assumption)
  · exact .inl (by assumption)
  · cases hq

theorem xitems_aops (hT : T.ok P) {call : XCall} (hc : CallOk P call) {base : Nat} {K : List AV → Heap → Bool} : ∀ {l : List Nat} {items : List XOp} {e : List AV} {h : Heap}, (l.map fun i => ((i, 3, []) : Item)).mapM (xop T ops) = some items → xitems T call base items e h K = true →
    aops P T ops base l e h fun e h => K e h = true
  | [], items, e, h, hm, hq => by
    simp only [List.map_nil, List.mapM_nil, Option.pure_def] at hm; injection hm with hm; subst hm
    exact hq
  | i :: l, items, e, h, hm, hq => by
    simp only [List.map_cons, List.mapM_cons, Option.bind_eq_bind, Option.bind_eq_some_iff, Option.pure_def] at hm
    obtain ⟨x, hx, xs, hxs, hm⟩ := hm
    injection hm with hm; subst hm
    obtain ⟨e1, o, e2, e3, e4, e5, e6, e7⟩ := xop_spec hx
    simp only [List.mapM_nil, Option.pure_def] at e7
    injection e7 with e7
    simp only at e1 e2
    simp only [xitems] at hq
    unfold aops
    simp only [e2]
    rw [gd_wanted e5]
    rcases xop1_some hq with hw | hw
    · simp only [hw]
      have := xop1_aop hT hc hw hq
      rw [e1, e4, e3] at this
      refine aop_mono (fun v h' hv => ?_) this
      simp only [Bool.and_eq_true] at hv
      exact xitems_aops hT hc hxs hv.2
    · simp only [hw]
      have := xop1_skip hw hq
      simp only [Bool.and_eq_true] at this
      rw [e3] at this
      exact xitems_aops hT hc hxs this.2

theorem xlk_rchk {r : Nat} {l : XLook} (hl : xlook ops r = some l) (hq : xlk T e h l = true) : rchk T ops e h r := by
  unfold xlook at hl
  simp only [Option.bind_eq_bind, Option.bind_eq_some_iff, Option.pure_def, Option.some.injEq] at hl
  obtain ⟨o, h1, g, h2, h3⟩ := hl
  subst h3
  unfold rchk
  simp only [h1]
  rw [gd_wanted h2]
  unfold xlk at hq
  simp only at hq
  split at hq
  · rename_i hw; simp only [hw]
  · rename_i hw
    simp only [hw]
    split at hq
    · rename_i v hv
      cases hd : o.dst with
      | none => exact ⟨v, hv⟩
      | some d =>
        simp only [hd] at hq
        split at hq
        · rename_i u hu
          exact ⟨v, by rw [hu, AV.same_eq hq], hv⟩
        · cases hq
    · cases hq
  · cases hq

theorem looks_all : ∀ {rs : List Nat} {ls : List XLook}, rs.mapM (xlook ops) = some ls → ls.all (xlk T e h) = true → ∀ r, r ∈ rs → rchk T ops e h r
  | [], _, _, _, _, hr => by cases hr
  | r :: rs, ls, hm, ha, r', hr => by
    simp only [List.mapM_cons, Option.bind_eq_bind, Option.bind_eq_some_iff, Option.pure_def] at hm
    obtain ⟨x, hx, xs, hxs, hm⟩ := hm
    injection hm with hm; subst hm
    simp only [List.all_cons, Bool.and_eq_true] at ha
    rcases List.mem_cons.1 hr with rfl | hr
    · exact xlk_rchk hx ha.1
    · exact looks_all hxs ha.2 r' hr

theorem xitems_run (hT : T.ok P) {call : XCall} (hc : CallOk P call) {base : Nat} {K : List AV → Heap → Bool} : ∀ {l : List Item} {items : List XOp} {e : List AV} {h : Heap}, l.mapM (xop T ops) = some items → xitems T call base items e h K = true →
    Run P T ops base l e h fun e h => K e h = true
  | [], items, e, h, hm, hq => by
    simp only [List.mapM_nil, Option.pure_def] at hm; injection hm with hm; subst hm
    exact hq
  | (i, c, rc) :: l, items, e, h, hm, hq => by
    simp only [List.mapM_cons, Option.bind_eq_bind, Option.bind_eq_some_iff, Option.pure_def] at hm
    obtain ⟨x, hx, xs, hxs, hm⟩ := hm
    injection hm with hm; subst hm
    obtain ⟨e1, o, e2, e3, e4, e5, e6, e7⟩ := xop_spec hx
    simp only at e1 e2 e6 e7
    simp only [xitems] at hq
    simp only [Run]
    have fin : ∀ e' h', (x.rc.all (xlk T e' h') && xitems T call base xs e' h' K) = true → (∀ r, r ∈ rc → rchk T ops e' h' r) ∧ Run P T ops base l e' h' fun e h => K e h = true := fun e' h' hk => by
      simp only [Bool.and_eq_true] at hk
      exact ⟨looks_all e7 hk.1, xitems_run hT hc hxs hk.2⟩
    unfold dstep
    simp only [e2]
    rw [gd_wanted e5]
    rcases xop1_some hq with hw | hw
    · simp only [hw]
      by_cases h3 : c < 3
      · rw [if_pos h3] at e6
        unfold xop1 at hq
        simp only [hw, e6] at hq
        rcases c with _ | _ | _ | c
        · simp only at hq ⊢
          rw [e4, e3] at hq
          split at hq
          · rename_i hl; rw [hl]; exact fin _ _ hq
          · cases hq
        · simp only [Nat.zero_add] at hq ⊢
          rw [e4, e3] at hq
          split at hq
          · rename_i hl; rw [hl]; exact fin _ _ hq
          · cases hq
        · simp only [Nat.zero_add, Nat.reduceAdd] at hq ⊢
          rw [e4, e3, e1] at hq
          split at hq
          · rename_i hl; rw [hl]; exact fin _ _ hq
          · cases hq
        · omega
      · have := xop1_aop hT hc hw hq
        rw [e1, e4, e3] at this
        rcases c with _ | _ | _ | c
        · omega
        · omega
        · omega
        · exact aop_mono (fun v h' hv => fin _ _ hv) this
    · simp only [hw]
      have := xop1_skip hw hq
      rw [e3] at this
      exact fin _ _ this

end
end Go.Ab
/-! The run of code, and of a function. -/
namespace Go.Ab
section
variable {P : Program} {T : Tab} {h : Heap} {e : List AV} {N : Nat}

theorem dsOkB_ok : ∀ {ds : List Nat} {h : Heap}, dsOkB ds h = true → dsOk ds h
  | [], _, _ => trivial
  | i :: is, h, hq => by
    simp only [dsOkB, Bool.and_eq_true] at hq
    refine ⟨?_, dsOkB_ok hq.2⟩
    have := hq.1
    split at this
    · assumption
    · cases this

theorem lpB_ok {h : Heap} {i : Nat} (hq : lpB h i = true) : h.get i = some (some (.lp true)) := by
  unfold lpB at hq
  split at hq
  · assumption
  · cases hq

/-- What the code of a number is. -/
def FOk (P : Program) (T : Tab) (F : FuncId → Option XFn) : Prop :=
  ∀ f x, F f = some x → ∃ fn c, P.funcs[f]? = some fn ∧ fn.body = some c ∧ T.go f = true ∧ x.code = conv T c ∧ x.ntmps = fn.ntmps ∧ x.results = fn.results.toList

theorem fnOf_ok : FOk P T (fnOf T P) := by
  intro f x hx
  unfold fnOf at hx
  split at hx
  · rename_i fn hf
    split at hx
    · rename_i c hb
      split at hx
      · rename_i hg
        injection hx with hx; subst hx
        exact ⟨fn, c, hf, hb, hg, rfl, rfl, rfl⟩
      · cases hx
    · cases hx
  · cases hx

/-- The call at less fuel. -/
noncomputable def xcall (T : Tab) (F : FuncId → Option XFn) (n : Nat) : XCall := fun f args h K => match F f with
  | none => false
  | some fn => xcode T F n fn.code (args ++ List.replicate (fn.ntmps - args.length) (.tup [])) [] h (endK T fn.results K)

theorem xcall_sound (hT : T.ok P) {F : FuncId → Option XFn} (hF : FOk P T F) {n : Nat} (ih : ∀ (N : Nat) (c : Code) (e : List AV) (ds : List Nat) (h : Heap) (K : XPost), N ≤ h.next → xcode T F n (conv T c) e ds h K = true → AC P N c e ds h fun x e ds h => K x e ds h = true) :
    CallOk P (xcall T F n) := by
  intro f args h K hq
  unfold xcall at hq
  split at hq
  · cases hq
  · rename_i fn hf
    obtain ⟨fn', c, h1, h2, h3, h4, h5, h6⟩ := hF _ _ hf
    refine CT_of_body hT h1 h2 ?_
    rw [h4, h5, h6] at hq
    refine (ih h.next c _ [] h _ (Nat.le_refl _) hq).mono fun x e ds h' hk => ?_
    simp only [endK, Bool.and_eq_true] at hk
    obtain ⟨k1, k2, k3⟩ := hk
    refine ⟨?_, dsOkB_ok k2, ?_⟩
    · cases x <;> simp at k1 ⊢
    · split at k3
      · rename_i vs hvs; exact ⟨vs, hvs, k3⟩
      · cases k3

theorem xcode_sound (hT : T.ok P) (hm : P.follows .mixedOrders = true) {F : FuncId → Option XFn} (hF : FOk P T F) : ∀ (n N : Nat) (c : Code) (e : List AV) (ds : List Nat) (h : Heap) (K : XPost), N ≤ h.next → xcode T F n (conv T c) e ds h K = true → AC P N c e ds h fun x e ds h => K x e ds h = true := by
  intro n
  induction n using Nat.strongRecOn with
  | _ n IH =>
  intro N c e ds h K hN hq
  cases n with
  | zero => simp [xcode] at hq
  | succ n =>
    have ih := IH n (Nat.lt_succ_self n)
    have hcall : CallOk P (xcall T F n) := xcall_sound hT hF fun N c e ds h K => ih N c e ds h K
    cases c with
    | skip => exact AC_skip hN hq
    | label l => exact AC_label hN hq
    | exit id => exact AC_exit hN hq
    | ret => exact AC_ret hN hq
    | scope b => simp [conv, xcode] at hq
    | goto l => simp [conv, xcode] at hq
    | refuse s => simp [conv, xcode] at hq
    | seq a b =>
      simp only [conv, xcode] at hq
      refine AC_seq ((ih N a e ds h _ hN hq).mono fun x e ds h hk => ?_)
      cases x with
      | normal => exact fun hN' => ih N b e ds h K hN' hk
      | _ => exact hk
    | cond c a b =>
      simp only [conv, xcode] at hq
      split at hq
      · rename_i hc; exact AC_cond hc (by simpa using ih N a e ds h K hN hq)
      · rename_i hc; exact AC_cond hc (by simpa using ih N b e ds h K hN hq)
      · cases hq
    | block id b =>
      simp only [conv, xcode] at hq
      refine AC_block ((ih N b e ds h _ hN hq).mono fun x e ds h hk => ?_)
      cases x with
      | exit id' =>
        simp only at hk ⊢
        by_cases hid : id' = id
        · simp only [hid, if_true] at hk ⊢; exact hk
        · simp only [hid, if_false] at hk ⊢; exact hk
      | _ => exact hk
    | loop b =>
      simp only [conv] at hq
      refine AC_loop (fun j e ds h => j ≤ n + 1 ∧ xcode T F j (.loop (conv T b)) e ds h K = true) (n + 1) ⟨Nat.le_refl _, hq⟩ hN ?_
      rintro j e ds h ⟨hj, hq⟩ hN'
      cases j with
      | zero => simp [xcode] at hq
      | succ j =>
        simp only [xcode] at hq
        refine (IH j (by omega) N b e ds h _ hN' hq).mono fun x e ds h hk => ?_
        cases x with
        | normal => exact ⟨j, Nat.lt_succ_self j, by omega, hk⟩
        | _ => exact hk
    | region id ops draw =>
      cases draw with
      | false =>
        simp only [conv] at hq
        split at hq
        · rename_i items hm'
          simp only [xcode] at hq
          split at hq
          · rename_i hlt
            exact AC_region hT hN hlt (xitems_aops hT hcall hm' hq)
          · cases hq
        · simp [xcode] at hq
      | true =>
        simp only [conv] at hq
        split at hq
        · rename_i ord
          split at hq
          · rename_i items hm'
            simp only [xcode] at hq
            split at hq
            · rename_i hlt
              simp only [Bool.and_eq_true, beq_iff_eq] at ord
              exact AC_drawn hT hm ord.1 ord.2 hN hlt (xitems_run hT hcall hm' hq)
            · cases hq
          · simp [xcode] at hq
        · simp [xcode] at hq
    | rangeFunc f ps asg body =>
      simp only [conv, xcode] at hq
      split at hq
      · rename_i g first cap hf
        split at hq
        · rename_i hlt
          have hct := hcall g (first ++ [AV.any] ++ cap) (((h.bump 2).set h.next (some (.dfr true))).set (h.next + 1) (some (.lp true))) (fun _ h3 => lpB h3 (h.next + 1) && K .normal e (h.next :: ds) (h3.set (h.next + 1) (some (.lp false)))) hq
          have hg : T.go g = true := by
            cases hFg : F g with
            | none => simp only [hFg] at hq; cases hq
            | some x => obtain ⟨_, _, _, _, h3, _⟩ := hF _ _ hFg; exact h3
          refine AC_range hT hN hlt hf hg (hct.mono fun v h' hk => ?_)
          simp only [Bool.and_eq_true] at hk
          exact ⟨lpB_ok hk.1, hk.2⟩
        · cases hq
      · cases hq

/-- A function, run. -/
theorem CT_of_run (hT : T.ok P) (hm : P.follows .mixedOrders = true) {F : FuncId → Option XFn} (hF : FOk P T F) {n : Nat} {f : FuncId} {args : List AV} {h : Heap} {K : AV → Heap → Bool} (hq : xcall T F n f args h K = true) : CT P f args h fun v h' => K v h' = true :=
  xcall_sound hT hF (fun N c e ds h K => xcode_sound hT hm hF n N c e ds h K) _ _ _ _ hq

end
end Go.Ab
