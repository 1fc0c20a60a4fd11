/- Calls, and operations in any order that a region may draw, do what the abstract run in one order tells, at a program whose tables are told rightly. -/
import Derived.Test.YtejdoilocmoojaaGreatZA3
import Derived.Orders
set_option linter.unusedSimpArgs false
set_option linter.unusedVariables false
/-! What a call enters; contracts of calls. -/
namespace Go.Ab
section
variable {P : Program} {T : Tab} {σ : Sig} {Z : Nat → Prop} {h : Heap} {w : World} {e : List AV} {a : Act}

theorem run_callFunc (hT : T.ok P) {f : FuncId} (hf : T.go f = true) (args : Array Value) (w : World) : (callFunc f args).run P w = .ok (.enter f args) w := by
  obtain ⟨fn, h1, h2, h3⟩ := hT.go _ hf
  cases hb : fn.body with
  | none => simp [hb] at h3
  | some c =>
    have hn : ¬ fn.name = "runtime.NumGoroutine" := by
      intro e0; rw [e0] at h2; simp at h2
    simp [callFunc, h1, hb, hn]

theorem run_method (hT : T.ok P) (hR : R σ Z h w) {t : TypeId} {name : String} {f : FuncId} {q : Option TypeId} (hm : T.meth t name = some (f, q)) {x u : AV} {v : Value} (hv : VR σ Z w x v)
    (hu : (q = none ∧ u = x) ∨ ∃ el, q = some el ∧ aLoad T h el x = some u) (n : Nat) : ∃ r, (method (n + 1) t v name).run P w = .ok (f, r) w ∧ VR σ Z w u r := by
  obtain ⟨i, m, pr, hi, hfind, hpath, hfn, hq⟩ := hT.meth _ _ _ _ hm
  rcases hu with ⟨rfl, rfl⟩ | ⟨el, rfl, hu⟩
  · simp only at hq
    refine ⟨v, ?_, hv⟩
    rcases hq with ⟨rfl, el, hu⟩ | ⟨rfl, d, hu, hd⟩
    · simp [method, typeInfo, hi, hfind, hpath, follow, hfn, receiverAt, underlying, hu, Place.get]
    · have hnp : ∀ el, d ≠ .pointer el := hd
      simp only [method, Sem.run_bind, typeInfo, run_program, Result.andThen_ok, hi, Sem.run_pure, hfind, hpath, follow, hfn, receiverAt, underlying, hu]
      cases d <;> first | exact absurd rfl (hnp _) | simp [Place.get]
  · simp only at hq
    obtain ⟨rfl, hu'⟩ := hq
    obtain ⟨b, o, r, rfl, hr, hvr⟩ := loadVar_sound hT hR hv hu
    refine ⟨r, ?_, hvr⟩
    have hk : ∀ (xt : TypeId) (a0 : Addr) (s1 s2 : String), Builtin.ssaWrapNilChk_ #[xt] xt #[.pointer (some a0), strVal s1, strVal s2] = pure (.pointer (some a0)) := fun _ _ _ _ => rfl
    simp [method, typeInfo, hi, hfind, hpath, follow, hfn, receiverAt, underlying, hu', Place.get, hk, asAddr, hr]

theorem callee_sound (hT : T.ok P) (hR : R σ Z h w) (he : ER σ Z w e a) {o : Oper} {f : FuncId} {args : List AV} (hq : calleeOf T e h o.op = some (f, args)) :
    ∃ vs : Array Value, (execOp a.eval o).run P w = .ok (.enter f vs) w ∧ VRs σ Z w args vs.toList := by
  unfold calleeOf at hq
  split at hq
  · rename_i x cargs ats ho
    split at hq
    · rename_i f' first captured as h1 h2
      split at hq
      · rename_i hg
        injection hq with hq; injection hq with q1 q2; subst q1; subst q2
        have hv := opd_VR he h1
        simp only [VR] at hv
        obtain ⟨xs, ys, hx, hxs, hys⟩ := hv
        have has := opds_VR he h2
        refine ⟨xs ++ cargs.map a.eval ++ ys, ?_, by simpa using VRs.append (VRs.append hxs has) hys⟩
        simp [execOp, ho, resolve, hx, Deferred.ofValue, invoke, run_callFunc hT hg]
      · cases hq
    · cases hq
  · rename_i x name cargs ats ho
    split at hq
    · rename_i t v as h1 h2
      have hv := opd_VR he h1
      simp only [VR] at hv
      obtain ⟨y, hx, hy⟩ := hv
      have has := opds_VR he h2
      have go : ∀ (f' : FuncId) (q : Option TypeId) (u : AV), T.meth t name = some (f', q) → T.go f' = true → ((q = none ∧ u = v) ∨ ∃ el, q = some el ∧ aLoad T h el v = some u) →
          ∃ vs : Array Value, (execOp a.eval o).run P w = .ok (.enter f' vs) w ∧ VRs σ Z w (u :: as) vs.toList := by
        intro f' q u hm hg hu
        obtain ⟨n, hn⟩ : ∃ n, P.types.size + Made.depth = n + 1 := ⟨P.types.size + 99, by simp [Made.depth]⟩
        obtain ⟨r, hr, hvr⟩ := run_method (P := P) hT hR hm hy hu n
        refine ⟨#[r] ++ cargs.map a.eval, ?_, by simp only [Array.toList_append, List.cons_append, List.nil_append, Array.toList_map, VRs]; exact ⟨_, _, rfl, hvr, has⟩⟩
        have harr : (#[a.eval x] ++ cargs.map a.eval)[0]? = some (a.eval x) := by
          rw [← Array.getElem?_toList]; simp only [Array.toList_append, List.cons_append, List.nil_append, List.getElem?_cons_zero]
        have hext : (#[a.eval x] ++ cargs.map a.eval).extract 1 (#[a.eval x] ++ cargs.map a.eval).size = cargs.map a.eval := by
          apply Array.ext'
          simp only [Array.toList_extract, Array.size_append, Array.size_map]
          simp [List.extract]
          exact List.take_of_length_le (by simp)
        simp only [execOp, ho, resolve, Sem.run_bind, Sem.run_pure, Result.andThen_ok, invoke, harr, hext]
        rw [hx]
        simp only [callMethod, Sem.run_bind, run_program, Result.andThen_ok, hn, hr, run_callFunc hT hg]
      split at hq
      · rename_i f' hm
        split at hq
        · rename_i hg
          injection hq with hq; injection hq with q1 q2; subst q1; subst q2
          exact go _ none _ hm hg (Or.inl ⟨rfl, rfl⟩)
        · cases hq
      · rename_i f' el hm
        split at hq
        · rename_i u hu
          split at hq
          · rename_i hg
            injection hq with hq; injection hq with q1 q2; subst q1; subst q2
            exact go _ (some el) _ hm hg (Or.inr ⟨el, rfl, hu⟩)
          · cases hq
        · cases hq
      · cases hq
    · cases hq
  · cases hq

/-- What holds behind a call. -/
def Post (σ : Sig) (Z : Nat → Prop) (h : Heap) (w : World) (K : AV → Heap → Prop) : Ending → World → Prop
  | .returned v, w' => ∃ σ' Z' av h', K av h' ∧ R σ' Z' h' w' ∧ Ext h.next σ Z h w σ' Z' h' w' ∧ VR σ' Z' w' av v
  | _, _ => False

/-- The contract of a call. -/
def CT (P : Program) (f : FuncId) (args : List AV) (h : Heap) (K : AV → Heap → Prop) : Prop :=
  ∀ (σ : Sig) (Z : Nat → Prop) (w : World) (vs : Array Value), R σ Z h w → VRs σ Z w args vs.toList → Calls P f vs w (Post σ Z h w K)

theorem CT.mono {f : FuncId} {args : List AV} {K K' : AV → Heap → Prop} (hc : CT P f args h K) (hk : ∀ v h', K v h' → K' v h') : CT P f args h K' := fun σ Z w vs hR hv =>
  (hc σ Z w vs hR hv).mono fun e w' hp => by
    cases e with
    | returned v =>
      obtain ⟨σ', Z', av, h', k, r⟩ := hp
      exact ⟨σ', Z', av, h', hk _ _ k, r⟩
    | _ => exact hp

/-- One operation. 'id': the number kept for what it makes. -/
def aop (P : Program) (T : Tab) (e : List AV) (h : Heap) (id : Nat) (op : Op) (K : AV → Heap → Prop) : Prop :=
  match light T e h op with
  | some v => K v h
  | none => match mkOp T e h op with
    | some (ao, f) => K (f id) (h.set id (some ao))
    | none => match wrOp T e h id op with
      | some (v, h') => K v h'
      | none => match nxOp T e h op with
        | some outs => ∀ out, out ∈ outs → K out.1 out.2
        | none => match calleeOf T e h op with
          | some (f, args) => CT P f args h K
          | none => False

def ePut (e : List AV) (dst : Option Tmp) (v : AV) : List AV :=
  match dst with
  | some d => e.set d v
  | none => e

theorem ER.put {v : Value} {av : AV} (he : ER σ Z w e a) (hv : VR σ Z w av v) (dst : Option Tmp) : ER σ Z w (ePut e dst av) (a.put dst v) := by
  cases dst with
  | none => exact he
  | some d =>
    simp only [ER, ePut, Act.put, Array.toList_setIfInBounds]
    exact VRs.set d he hv

/-- Is the operation wanted, as far as is known? -/
def aWanted (ops : Array Oper) (e : List AV) (o : Oper) : Option Bool :=
  match o.guard with
  | none => some true
  | some (j, want) => match (ops[j]?).bind (·.dst) with
    | some d => match e[d]? with
      | some (.bool b) => some (b == want)
      | some (.tup []) => some false
      | _ => none
    | none => none

theorem wanted_sound {ops : Array Oper} {o : Oper} {b : Bool} (he : ER σ Z w e a) (hq : aWanted ops e o = some b) : Region.wanted o (yielded ops a.tmps) = b := by
  unfold aWanted at hq
  unfold Region.wanted
  split at hq
  · injection hq with hq; subst hq; simp [*]
  · rename_i j want hg
    split at hq
    · rename_i d hd
      split at hq
      · rename_i b' hb
        injection hq with hq; subst hq
        obtain ⟨v, hv, hr⟩ := VRs.get he hb
        simp only [VR] at hr; subst hr
        have hv' : a.tmps[d]? = some (.bool b') := by simpa using hv
        simp only [hg, yielded, hd, Option.bind_some, hv']
        cases b' <;> cases want <;> rfl
      · rename_i hb
        injection hq with hq; subst hq
        obtain ⟨v, hv, hr⟩ := VRs.get he hb
        simp only [VR] at hr
        obtain ⟨xs, rfl, _⟩ := hr
        have hv' : a.tmps[d]? = some (.tuple xs) := by simpa using hv
        simp only [hg, yielded, hd, Option.bind_some, hv']
        cases want <;> rfl
      · cases hq
    · cases hq

/-- Operations in an order. -/
def aops (P : Program) (T : Tab) (ops : Array Oper) (base : Nat) : List Nat → List AV → Heap → (List AV → Heap → Prop) → Prop
  | [], e, h, K => K e h
  | i :: rest, e, h, K => match ops[i]? with
    | none => aops P T ops base rest e h K
    | some o => match aWanted ops e o with
      | some true => aop P T e h (base + i) o.op fun v h' => aops P T ops base rest (ePut e o.dst v) h' K
      | some false => aops P T ops base rest (ePut e o.dst (.tup [])) h K
      | none => False

/-- Numbers that are kept stay fresh. -/
theorem wr_fresh {id : Nat} {op : Op} {av : AV} {h' : Heap} (hq : wrOp T e h id op = some (av, h')) {j : Nat} (hj : j ≠ id) (hf : h.get j = none) : h'.get j = none ∧ h'.next = h.next := by
  have S : ∀ {i : Nat} {o : AO} {o' : Option AO}, h.get i = some (some o) → (h.set i o').get j = none ∧ (h.set i o').next = h.next := fun {i o o'} hi => by
    refine ⟨?_, rfl⟩
    rw [Heap.get_set_ne]
    · exact hf
    · intro e0; subst e0; rw [hi] at hf; cases hf
  have SI : ∀ {g : Heap} {o' : Option AO}, g.get j = none ∧ g.next = h.next → (g.set id o').get j = none ∧ (g.set id o').next = h.next := fun {g o'} hg => by
    refine ⟨?_, hg.2⟩
    rw [Heap.get_set_ne _ _ (fun e0 => hj e0.symm)]
    exact hg.1
  unfold wrOp at hq
  split at hq
  · split at hq
    · simp only [Option.map_eq_some_iff] at hq
      obtain ⟨h2, hs, hq⟩ := hq
      injection hq with _ q2; subst q2
      unfold wrStore at hs
      (repeat' split at hs) <;> first
        | (cases hs; done)
        | (simp only [Option.map_eq_some_iff] at hs; obtain ⟨_, _, rfl⟩ := hs; exact S (by assumption))
    · cases hq
  · split at hq
    · simp only [Option.map_eq_some_iff] at hq
      obtain ⟨h2, hs, hq⟩ := hq
      injection hq with _ q2; subst q2
      unfold wrMapUpdate at hs
      (repeat' split at hs) <;> first
        | (cases hs; done)
        | (injection hs with hs; subst hs; exact S (by assumption))
    · cases hq
  · split at hq
    · unfold wrMapEntry at hq
      (repeat' split at hq) <;> first
        | (cases hq; done)
        | (simp only [Option.map_eq_some_iff] at hq; obtain ⟨_, _, hq⟩ := hq; injection hq with _ q2; subst q2; exact S (by assumption))
    · cases hq
  · split at hq
    · simp only [Option.map_eq_some_iff] at hq
      obtain ⟨h2, hs, hq⟩ := hq
      injection hq with _ q2; subst q2
      unfold wrEntryStore at hs
      (repeat' split at hs) <;> first
        | (cases hs; done)
        | (simp only [Option.map_eq_some_iff] at hs; obtain ⟨_, _, rfl⟩ := hs; exact S (by assumption))
    · cases hq
  · split at hq
    · split at hq
      · unfold exCall at hq
        (repeat' split at hq) <;> first
          | (cases hq; done)
          | (injection hq with hq; injection hq with _ q2; subst q2; first | exact ⟨hf, rfl⟩ | exact SI ⟨hf, rfl⟩)
      · cases hq
    · cases hq
  · split at hq
    · unfold wrAppend at hq
      (repeat' split at hq) <;> first
        | (cases hq; done)
        | (injection hq with hq; injection hq with _ q2; subst q2; first | exact ⟨hf, rfl⟩ | exact SI ⟨hf, rfl⟩ | exact SI (S (by assumption)))
        | (simp only [Option.map_eq_some_iff] at hq; obtain ⟨_, _, hq⟩ := hq; injection hq with _ q2; subst q2; exact S (by assumption))
    · cases hq
  · split at hq
    · unfold wrCopy at hq
      (repeat' split at hq) <;> first
        | (cases hq; done)
        | (injection hq with hq; injection hq with _ q2; subst q2; exact ⟨hf, rfl⟩)
        | (simp only [Option.map_eq_some_iff] at hq; obtain ⟨_, _, hq⟩ := hq; injection hq with _ q2; subst q2; exact S (by assumption))
    · cases hq
  · split at hq
    · simp only [Option.map_eq_some_iff] at hq
      obtain ⟨h2, hs, hq⟩ := hq
      injection hq with _ q2; subst q2
      unfold wrDelete at hs
      (repeat' split at hs) <;> first
        | (cases hs; done)
        | (injection hs with hs; subst hs; first | exact ⟨hf, rfl⟩ | exact S (by assumption))
    · cases hq
  · split at hq
    · simp only [Option.map_eq_some_iff] at hq
      obtain ⟨h2, hs, hq⟩ := hq
      injection hq with _ q2; subst q2
      unfold wrClear at hs
      (repeat' split at hs) <;> first
        | (cases hs; done)
        | (injection hs with hs; subst hs; exact ⟨hf, rfl⟩)
        | (simp only [Option.map_eq_some_iff] at hs; obtain ⟨_, _, rfl⟩ := hs; exact S (by assumption))
    · cases hq
  · cases hq

theorem nx_fresh {op : Op} {outs : List (AV × Heap)} (hq : nxOp T e h op = some outs) {out : AV × Heap} (ho : out ∈ outs) {j : Nat} (hf : h.get j = none) : out.2.get j = none ∧ out.2.next = h.next := by
  unfold nxOp at hq
  split at hq
  · split at hq
    · split at hq
      · injection hq with hq; subst hq; rw [List.mem_singleton] at ho; subst ho; exact ⟨hf, rfl⟩
      · rename_i r _ m since seen stepped hg
        split at hq
        · split at hq
          · cases hq
          · injection hq with hq; subst hq
            rcases List.mem_append.1 ho with ho | ho
            · split at ho
              · rw [List.mem_singleton] at ho; subst ho; exact ⟨hf, rfl⟩
              · cases ho
            · obtain ⟨x, _, rfl⟩ := List.mem_map.1 ho
              refine ⟨?_, rfl⟩
              rw [Heap.get_set_ne]
              · exact hf
              · intro e0; subst e0; rw [hg] at hf; cases hf
        · cases hq
      · cases hq
    · cases hq
  · cases hq

end
end Go.Ab
/-! One operation; operations in an order. -/
namespace Go.Ab
section
variable {P : Program} {T : Tab} {σ : Sig} {Z : Nat → Prop} {h : Heap} {w : World} {e : List AV} {a : Act}

/-- What holds behind an operation that had the number 'id'. -/
structure Keeps (id : Nat) (h h' : Heap) : Prop where
  fresh : ∀ j, j ≠ id → j < h.next → h.get j = none → h'.get j = none
  next : h.next ≤ h'.next

theorem Keeps.refl (id : Nat) (h : Heap) : Keeps id h h := ⟨fun _ _ _ hf => hf, Nat.le_refl _⟩

theorem aop_sound (hT : T.ok P) {N : Nat} (hR : R σ Z h w) (he : ER σ Z w e a) {id : Nat} (hid : h.get id = none) (hN : N ≤ id) (hlt : id < h.next) {o : Oper} {K : AV → Heap → Prop}
    (hq : aop P T e h id o.op K) {Q : Exit → Act → World → Prop} {K' : Act → World → Prop}
    (hk : ∀ σ' Z' w' av v h', K av h' → R σ' Z' h' w' → Ext N σ Z h w σ' Z' h' w' → VR σ' Z' w' av v → Keeps id h h' → K' (a.put o.dst v) w') : o.wp P a w K' Q := by
  have hn := hR.lim
  have hNn : N ≤ h.next := by omega
  unfold aop at hq
  unfold Oper.wp
  split at hq
  · rename_i av hl
    obtain ⟨v, hr, hv⟩ := light_sound hT hR he hl
    rw [hr, Oper.upon_value]
    exact hk _ _ _ _ _ _ hq hR (Ext.refl _ _ _ _ hNn) hv (Keeps.refl _ _)
  · split at hq
    · rename_i ao f hm
      obtain ⟨v, w', ob, hr, hp, hb⟩ := mk_sound hT hR he hm
      rw [hr, Oper.upon_value]
      obtain ⟨b1, b2⟩ := hb id (hR.nofresh _ hid)
      obtain ⟨r1, r2⟩ := alloc_state hR hp hid hN hlt hn b1
      exact hk _ _ _ _ _ _ hq r1 r2 b2 ⟨fun j hj _ hf => by rw [Heap.get_set_ne _ _ (fun e0 => hj e0.symm)]; exact hf, Nat.le_refl _⟩
    · split at hq
      · rename_i av h' hw
        obtain ⟨r, v, w', σ', hr, hrv, r1, r2, r3⟩ := wr_sound hT hR he hid hN hlt hn hw
        have kp : Keeps id h h' := ⟨fun j hj _ hf => (wr_fresh hw hj hf).1, Nat.le_of_eq (by
          by_cases hx : id + 1 = id
          · omega
          · exact (wr_fresh hw (j := h.next) (by omega) (hR.top _ (Nat.le_refl _))).2.symm)⟩
        rw [hr]
        rcases hrv with rfl | ⟨rfl, rfl⟩
        · rw [Oper.upon_value]; exact hk _ _ _ _ _ _ hq r1 r2 r3 kp
        · rw [Oper.upon_skip]; exact hk _ _ _ _ _ _ hq r1 r2 r3 kp
      · split at hq
        · rename_i outs hx
          obtain ⟨out, hm, r, v, w', σ', hr, hrv, r1, r2, r3⟩ := nx_sound (P := P) hR he hNn hx
          have kp : Keeps id h out.2 := ⟨fun j hj _ hf => (nx_fresh hx hm hf).1, Nat.le_of_eq (nx_fresh hx hm (j := h.next) (hR.top _ (Nat.le_refl _))).2.symm⟩
          rw [hr]
          rcases hrv with rfl | ⟨rfl, rfl⟩
          · rw [Oper.upon_value]; exact hk _ _ _ _ _ _ (hq _ hm) r1 r2 r3 kp
          · rw [Oper.upon_skip]; exact hk _ _ _ _ _ _ (hq _ hm) r1 r2 r3 kp
        · split at hq
          · rename_i f args hc
            obtain ⟨vs, hr, hvs⟩ := callee_sound hT hR he hc
            rw [hr, Oper.upon_enter]
            refine (hq σ Z w vs hR hvs).mono fun x w' hp => ?_
            cases x with
            | returned v =>
              obtain ⟨σ', Z', av, h', k, r1, r2, r3⟩ := hp
              exact hk _ _ _ _ _ _ k r1 (r2.mono hNn) r3 ⟨fun j _ hj hf => r2.frs j hj hf, r2.next⟩
            | panicked c => exact hp.elim
            | outgrown => exact hp.elim
          · exact hq.elim

theorem put_defers' (a : Act) (d : Option Tmp) (v : Value) : (a.put d v).defers = a.defers := by cases d <;> rfl

theorem undef_VR (σ : Sig) (Z : Nat → Prop) (w : World) : VR σ Z w (.tup []) undef := by simp only [VR]; exact ⟨#[], rfl, by simp [VRs]⟩

theorem aops_sound (hT : T.ok P) {ops : Array Oper} {N base : Nat} (hNb : N ≤ base) {K : List AV → Heap → Prop} {Q : Exit → Act → World → Prop} : ∀ (l : List Nat), l.Nodup → ∀ {σ : Sig} {Z : Nat → Prop} {h : Heap} {w : World} {e : List AV} {a : Act},
    R σ Z h w → ER σ Z w e a → (∀ i, i ∈ l → h.get (base + i) = none ∧ base + i < h.next) → N ≤ h.next → aops P T ops base l e h K →
    (∀ σ' Z' h' w' e' a', K e' h' → R σ' Z' h' w' → Ext N σ Z h w σ' Z' h' w' → ER σ' Z' w' e' a' → a'.defers = a.defers → Q .normal a' w') →
    wpOps P ops Q l a w
  | [], _, σ, Z, h, w, e, a, hR, he, hf, hNn, hq, hk => hk _ _ _ _ _ _ hq hR (Ext.refl _ _ _ _ hNn) he rfl
  | i :: rest, hd, σ, Z, h, w, e, a, hR, he, hf, hNn, hq, hk => by
    have hd' := List.nodup_cons.1 hd
    unfold aops at hq
    unfold wpOps
    split
    · rename_i ho
      simp only [ho] at hq
      exact aops_sound hT hNb rest hd'.2 hR he (fun j hj => hf j (List.mem_cons_of_mem _ hj)) hNn hq hk
    · rename_i o ho
      simp only [ho] at hq
      split at hq
      · rename_i hw
        rw [if_pos (wanted_sound he hw)]
        obtain ⟨f1, f2⟩ := hf i List.mem_cons_self
        refine .inl (aop_sound hT hR he f1 (N := N) (by omega) f2 hq ?_)
        intro σ' Z' w' av v h' k r1 r2 r3 kp
        refine aops_sound hT hNb rest hd'.2 r1 ((he.grow (r2.grow hR)).put r3 _) (fun j hj => ?_) r2.next k ?_
        · obtain ⟨g1, g2⟩ := hf j (List.mem_cons_of_mem _ hj)
          exact ⟨kp.fresh _ (fun e0 => hd'.1 (by have : j = i := by omega
                                                 exact this ▸ hj)) g2 g1, Nat.lt_of_lt_of_le g2 kp.next⟩
        · intro σ2 Z2 h2 w2 e2 a2 k2 s1 s2 s3 s4
          exact hk _ _ _ _ _ _ k2 s1 (r2.trans s2) s3 (s4.trans (put_defers' _ _ _))
      · rename_i hw
        rw [if_neg (by rw [wanted_sound he hw]; simp)]
        refine aops_sound hT hNb rest hd'.2 hR (he.put (undef_VR _ _ _) _) (fun j hj => hf j (List.mem_cons_of_mem _ hj)) hNn hq ?_
        intro σ2 Z2 h2 w2 e2 a2 k2 s1 s2 s3 s4
        exact hk _ _ _ _ _ _ k2 s1 s2 s3 (s4.trans (put_defers' _ _ _))
      · exact hq.elim

end
end Go.Ab
/-! What operations look at; operations in larger heaps. -/
namespace Go.Ab
section
variable {T : Tab} {h g : Heap} {e e' : List AV}

/-- The operands are alike. -/
def Alike (e e' : List AV) (xs : List Operand) : Prop := ∀ x, x ∈ xs → opd e x = opd e' x

theorem opds_alike : ∀ {xs : List Operand}, Alike e e' xs → opds e xs = opds e' xs
  | [], _ => rfl
  | x :: xs, hx => by simp only [opds, hx x List.mem_cons_self, opds_alike (xs := xs) fun y hy => hx y (List.mem_cons_of_mem _ hy)]

theorem aParts_alike : ∀ {ps : List (Nat × Operand)}, Alike e e' (ps.map (·.2)) → aParts e ps = aParts e' ps
  | [], _ => rfl
  | (i, x) :: r, hx => by
    simp only [aParts, hx x (by simp), aParts_alike (ps := r) fun y hy => hx y (by simp only [List.map_cons, List.mem_cons]; exact .inr hy)]

theorem optd_alike : ∀ {x : Option Operand}, Alike e e' x.toArray.toList → optd e x = optd e' x
  | none, _ => rfl
  | some x, hx => by simp only [optd, hx x (by simp)]

theorem call_alike {c : Call} (ha : Alike e e' (Op.call c).operands.toList) : Alike e e' c.args.toList := fun x hx => ha x (by simp only [Op.operands, Call.operands, Array.toList_append]; exact List.mem_append_right _ hx)

theorem callv_alike {x : Operand} {args : Array Operand} {ts : Array TypeId} (ha : Alike e e' (Op.call ⟨.value x, args, ts⟩).operands.toList) : opd e x = opd e' x := ha x (by simp [Op.operands, Call.operands])
theorem calli_alike {x : Operand} {n : String} {args : Array Operand} {ts : Array TypeId} (ha : Alike e e' (Op.call ⟨.invoke x n, args, ts⟩).operands.toList) : opd e x = opd e' x := ha x (by simp [Op.operands, Call.operands])

theorem light_alike {op : Op} (ha : Alike e e' op.operands.toList) : light T e h op = light T e' h op := by
  cases op with
  | build t ps =>
    simp only [light]
    rw [aParts_alike (e := e) (e' := e')]
    intro x hx; exact ha x (by simpa [Op.operands] using hx)
  | makeFunc f first captured =>
    simp only [light]
    rw [opds_alike (e := e) (e' := e') (xs := first.toList), opds_alike (e := e) (e' := e') (xs := captured.toList)]
    · intro x hx; exact ha x (by simp only [Op.operands, Array.toList_append]; exact List.mem_append_right _ hx)
    · intro x hx; exact ha x (by simp only [Op.operands, Array.toList_append]; exact List.mem_append_left _ hx)
  | slice t x lo hi mx =>
    simp only [light]
    rw [ha x (by simp [Op.operands]), optd_alike (e := e) (e' := e') (x := lo), optd_alike (e := e) (e' := e') (x := hi), optd_alike (e := e) (e' := e') (x := mx)]
    all_goals (intro y hy; exact ha y (by simp only [Op.operands, Array.toList_append, List.mem_append]; first | exact .inr hy | exact .inl (.inr hy) | exact .inl (.inl (.inr hy))))
  | call c =>
    have hc := opds_alike (call_alike ha)
    obtain ⟨cl, args, ts⟩ := c
    cases cl with
    | value f => rfl
    | invoke r m => rfl
    | builtin b => cases b <;> first | rfl | (simp only [light]; rw [hc])
  | _ => first
    | rfl
    | (simp only [Alike, Op.operands, List.mem_cons, List.not_mem_nil, or_false, forall_eq_or_imp, forall_eq] at ha; simp only [light, ha])

theorem mkOp_alike {op : Op} (ha : Alike e e' op.operands.toList) : mkOp T e h op = mkOp T e' h op := by
  cases op with
  | buildSlice t n ps =>
    simp only [mkOp]
    rw [aParts_alike (e := e) (e' := e')]
    intro x hx; exact ha x (by simpa [Op.operands] using hx)
  | makeMap t r =>
    cases r with
    | none => rfl
    | some x =>
      simp only [mkOp]
      rw [ha x (by simp [Op.operands])]
  | _ => first
    | rfl
    | (simp only [Alike, Op.operands, List.mem_cons, List.not_mem_nil, or_false, forall_eq_or_imp, forall_eq] at ha; simp only [mkOp, ha])

theorem wrOp_alike {id : Nat} {op : Op} (ha : Alike e e' op.operands.toList) : wrOp T e h id op = wrOp T e' h id op := by
  cases op with
  | call c =>
    have hc := opds_alike (call_alike ha)
    obtain ⟨cl, args, ts⟩ := c
    cases cl with
    | value f => have hx := callv_alike ha; simp only [wrOp]; rw [hc, hx]
    | invoke r m => rfl
    | builtin b => cases b <;> first | rfl | (simp only [wrOp]; rw [hc])
  | _ => first
    | rfl
    | (simp only [Alike, Op.operands, List.mem_cons, List.not_mem_nil, or_false, forall_eq_or_imp, forall_eq] at ha; simp only [wrOp, ha])

theorem nxOp_alike {op : Op} (ha : Alike e e' op.operands.toList) : nxOp T e h op = nxOp T e' h op := by
  cases op with
  | next x s =>
    have hx := ha x (by simp [Op.operands])
    cases s
    · simp only [nxOp]; rw [hx]
    · rfl
  | _ => rfl

theorem calleeOf_alike {op : Op} (ha : Alike e e' op.operands.toList) : calleeOf T e h op = calleeOf T e' h op := by
  cases op with
  | call c =>
    have hc := opds_alike (call_alike ha)
    obtain ⟨cl, args, ts⟩ := c
    cases cl with
    | value f => have hx := callv_alike ha; simp only [calleeOf]; rw [hc, hx]
    | invoke r m => have hx := calli_alike ha; simp only [calleeOf]; rw [hc, hx]
    | builtin b => rfl
  | _ => rfl

theorem aop_alike {P : Program} {id : Nat} {op : Op} {K : AV → Heap → Prop} (ha : Alike e e' op.operands.toList) : aop P T e h id op K = aop P T e' h id op K := by
  unfold aop
  rw [light_alike ha, mkOp_alike ha, wrOp_alike ha, nxOp_alike ha, calleeOf_alike ha]

/-- All that is in the one heap is in the other. -/
def HLe (g h : Heap) : Prop := ∀ id o, g.get id = some (some o) → h.get id = some (some o)

theorem HLe.refl (h : Heap) : HLe h h := fun _ _ x => x
theorem HLe.empty (h : Heap) : HLe Heap.empty h := fun id o hx => by cases hx
theorem HLe.set {id : Nat} (hf : h.get id = none) (o : Option AO) : HLe h (h.set id o) := fun j p hj => by
  rw [Heap.get_set_ne]
  · exact hj
  · intro e0; subst e0; rw [hf] at hj; cases hj

theorem rowOf_le (l : HLe g h) {id : Nat} {cs : Cs} (hx : rowOf g id = some cs) : rowOf h id = some cs := by
  unfold rowOf at hx
  split at hx
  · rename_i hg; unfold rowOf; rw [l _ _ hg]; exact hx
  · cases hx

theorem cellsOf_le (l : HLe g h) {x : AV} {n : Nat} {cs : List AV} (hx : cellsOf g x n = some cs) : cellsOf h x n = some cs := by
  unfold cellsOf at hx ⊢
  split at hx
  · simp only [Option.bind_eq_some_iff] at hx ⊢
    obtain ⟨c, h1, h2⟩ := hx
    exact ⟨c, rowOf_le l h1, h2⟩
  · exact hx
  · cases hx

theorem cellOf_le (l : HLe g h) {x v : AV} (hx : cellOf g x = some v) : cellOf h x = some v := by
  unfold cellOf at hx ⊢
  split at hx
  · simp only [Option.bind_eq_some_iff] at hx ⊢
    obtain ⟨c, h1, h2⟩ := hx
    exact ⟨c, rowOf_le l h1, h2⟩
  · exact hx
  · cases hx

theorem aLoad_le (l : HLe g h) {t : TypeId} {x v : AV} (hx : aLoad T g t x = some v) : aLoad T h t x = some v := by
  unfold aLoad at hx ⊢
  split at hx
  · split at hx
    · rename_i ha; rw [if_pos ha]
      simp only [Option.map_eq_some_iff] at hx ⊢
      obtain ⟨c, h1, h2⟩ := hx
      exact ⟨c, cellsOf_le l h1, h2⟩
    · rename_i ha; rw [if_neg ha]; exact cellOf_le l hx
  · cases hx

theorem aSlice_le (l : HLe g h) {t : TypeId} {x : AV} {lo hi mx : Option AV} {v : AV} (hx : aSlice T g t x lo hi mx = some v) : aSlice T h t x lo hi mx = some v := by
  unfold aSlice at hx ⊢
  split at hx <;> first
    | exact hx
    | skip
  split at hx
  · rename_i h1 h2 h3 h4
    simp only [h1, h2, h3, rowOf_le l h4] at hx ⊢; exact hx
  · cases hx

theorem notStrg_le (l : HLe g h) {id : Nat} (hx : notStrg g id = true) : notStrg h id = true := by
  unfold notStrg at hx
  split at hx
  · rename_i hg; unfold notStrg; rw [l _ _ hg]
  · cases hx

theorem aEqFs_le {eq eq' : TypeId → AV → AV → Option Bool} (he : ∀ t x y b, eq t x y = some b → eq' t x y = some b) : ∀ {mx my : Nat} {fs : List Field} {xs ys : List AV} {b : Bool}, aEq.aEqFs T eq mx my fs xs ys = some b → aEq.aEqFs T eq' mx my fs xs ys = some b
  | _, _, [], _, _, _, hx => hx
  | mx, my, f :: fs, xs, ys, b, hx => by
    unfold aEq.aEqFs at hx ⊢
    split at hx
    · rename_i hn; rw [if_pos hn]
      split at hx
      · split at hx
        · rename_i hb; rw [he _ _ _ _ hb]; exact aEqFs_le he hx
        · rename_i hb; rw [he _ _ _ _ hb]; exact hx
        · cases hx
      · cases hx
    · rename_i hn; rw [if_neg hn]; exact aEqFs_le he hx

theorem aEq_le (l : HLe g h) : ∀ {n : Nat} {t : TypeId} {x y : AV} {b : Bool}, aEq T g n t x y = some b → aEq T h n t x y = some b
  | 0, _, _, _, _, hx => by simp [aEq] at hx
  | n + 1, t, x, y, b, hx => by
    unfold aEq at hx ⊢
    split at hx <;> first
      | exact hx
      | skip
    · split at hx
      · split at hx
        · rename_i hij; rw [if_pos hij]; exact hx
        · rename_i hij; rw [if_neg hij]
          split at hx
          · rename_i hs
            simp only [Bool.and_eq_true] at hs
            rw [if_pos (by simp only [Bool.and_eq_true]; exact ⟨notStrg_le l hs.1, notStrg_le l hs.2⟩)]; exact hx
          · cases hx
      · cases hx
    · split at hx
      · rename_i hk; rw [if_pos hk]
        exact aEqFs_le (fun t x y b hb => aEq_le l hb) hx
      · cases hx

theorem aBin_le (l : HLe g h) {op : BinOp} {t : TypeId} {c : Bool} {x y v : AV} (hx : aBin T g op t c x y = some v) : aBin T h op t c x y = some v := by
  unfold aBin at hx ⊢
  split at hx <;> first
    | exact hx
    | skip
  split at hx
  · simp only [Option.map_eq_some_iff] at hx ⊢
    obtain ⟨b, h1, h2⟩ := hx
    exact ⟨b, aEq_le l h1, h2⟩
  · simp only [Option.map_eq_some_iff] at hx ⊢
    obtain ⟨b, h1, h2⟩ := hx
    exact ⟨b, aEq_le l h1, h2⟩
  · cases hx

theorem srcCells_le (l : HLe g h) {es : Nat} {x : AV} {r : Nat × List AV} (hx : srcCells g es x = some r) : srcCells h es x = some r := by
  unfold srcCells at hx ⊢
  split at hx <;> first
    | exact hx
    | skip
  split at hx
  · rename_i h1; rw [if_pos h1]
    split at hx
    · rename_i h2; rw [if_pos h2]; exact hx
    · rename_i h2; rw [if_neg h2]
      simp only [Option.bind_eq_some_iff] at hx ⊢
      obtain ⟨c, h3, h4⟩ := hx
      exact ⟨c, rowOf_le l h3, h4⟩
  · cases hx

theorem aConvert_le (l : HLe g h) {s d : TypeId} {x v : AV} (hx : aConvert T g s d x = some v) : aConvert T h s d x = some v := by
  unfold aConvert at hx ⊢
  split at hx <;> first
    | exact hx
    | skip
  unfold aConvBytes at hx ⊢
  split at hx <;> first
    | exact hx
    | skip
  split at hx
  · cases hx
  · split at hx
    · rename_i h1; rw [srcCells_le l h1]; exact hx
    · cases hx

theorem mapOf_le (l : HLe g h) {x : AV} {es : List (AV × AV × Nat)} (hx : mapOf g x = some es) : mapOf h x = some es := by
  unfold mapOf at hx ⊢
  split at hx
  · exact hx
  · split at hx
    · rename_i hg; rw [l _ _ hg]; exact hx
    · cases hx
  · cases hx

theorem aLookup_le (l : HLe g h) {t : TypeId} {x k : AV} {ok : Bool} {v : AV} (hx : aLookup T g t x k ok = some v) : aLookup T h t x k ok = some v := by
  unfold aLookup at hx ⊢
  split at hx
  · split at hx
    · rename_i h1 h2; simp only [h1, mapOf_le l h2]; exact hx
    · cases hx
  · cases hx

theorem aLen_le (l : HLe g h) {t : TypeId} {x v : AV} (hx : aLen T g t x = some v) : aLen T h t x = some v := by
  unfold aLen at hx ⊢
  split at hx <;> first
    | exact hx
    | skip
  simp only [Option.map_eq_some_iff] at hx ⊢
  obtain ⟨c, h3, h4⟩ := hx
  exact ⟨c, mapOf_le l h3, h4⟩

theorem aEntry_le (l : HLe g h) {x v : AV} (hx : aEntry g x = some v) : aEntry h x = some v := by
  unfold aEntry at hx ⊢
  split at hx
  · split at hx
    · rename_i h1; simp only [l _ _ h1]
      split at hx
      · rename_i h2; simp only [l _ _ h2]; exact hx
      · cases hx
    · cases hx
  · cases hx

theorem light_le (l : HLe g h) {op : Op} {v : AV} (hx : light T e g op = some v) : light T e h op = some v := by
  unfold light at hx ⊢
  split at hx <;> first
    | exact hx
    | skip
  · simp only [Option.bind_eq_some_iff] at hx ⊢
    obtain ⟨c, h1, h2⟩ := hx
    exact ⟨c, h1, aLoad_le l h2⟩
  · split at hx
    · exact aBin_le l hx
    · cases hx
  · simp only [Option.bind_eq_some_iff] at hx ⊢
    obtain ⟨c, h1, h2⟩ := hx
    exact ⟨c, h1, aConvert_le l h2⟩
  · split at hx
    · exact aSlice_le l hx
    · cases hx
  · split at hx
    · exact aLookup_le l hx
    · cases hx
  · simp only [Option.bind_eq_some_iff] at hx ⊢
    obtain ⟨c, h1, h2⟩ := hx
    exact ⟨c, h1, aEntry_le l h2⟩
  · split at hx
    · exact aLen_le l hx
    · cases hx

theorem mkOp_le (l : HLe g h) {op : Op} {r : AO × (Nat → AV)} (hx : mkOp T e g op = some r) : mkOp T e h op = some r := by
  unfold mkOp at hx ⊢
  split at hx <;> first
    | exact hx
    | skip
  split at hx
  · exact hx
  · split at hx
    · rename_i h1; rw [l _ _ h1]; exact hx
    · cases hx
  · cases hx

end
end Go.Ab
/-! Regions that draw their order: one order serves all. -/
namespace Go.Ab
section
variable {P : Program} {T : Tab} {σ : Sig} {Z : Nat → Prop} {h : Heap} {w : World} {e : List AV} {a : Act} {ops : Array Oper} {base : Nat}

/-- An operation's number; its class (0: looks at no memory; 1: reads; 2: makes a thing; 3: all else); the readers that are looked at again behind it. -/
abbrev Item := Nat × Nat × List Nat

def dstep (P : Program) (T : Tab) (ops : Array Oper) (base i c : Nat) (e : List AV) (h : Heap) (K : List AV → Heap → Prop) : Prop :=
  match ops[i]? with
  | none => False
  | some o => match aWanted ops e o with
    | some false => K (ePut e o.dst (.tup [])) h
    | some true => match c with
      | 0 => match light T e Heap.empty o.op with
        | some v => K (ePut e o.dst v) h
        | none => False
      | 1 => match light T e h o.op with
        | some v => K (ePut e o.dst v) h
        | none => False
      | 2 => match mkOp T e Heap.empty o.op with
        | some (ao, f) => K (ePut e o.dst (f (base + i))) (h.set (base + i) (some ao))
        | none => False
      | _ => aop P T e h (base + i) o.op fun v h' => K (ePut e o.dst v) h'
    | none => False

def rchk (T : Tab) (ops : Array Oper) (e : List AV) (h : Heap) (r : Nat) : Prop :=
  match ops[r]? with
  | none => False
  | some o => match aWanted ops e o with
    | some false => True
    | some true => match o.dst with
      | some d => ∃ v, e[d]? = some v ∧ light T e h o.op = some v
      | none => ∃ v, light T e h o.op = some v
    | none => False

def Run (P : Program) (T : Tab) (ops : Array Oper) (base : Nat) : List Item → List AV → Heap → (List AV → Heap → Prop) → Prop
  | [], e, h, K => K e h
  | (i, c, rc) :: rest, e, h, K => dstep P T ops base i c e h fun e' h' => (∀ r, r ∈ rc → rchk T ops e' h' r) ∧ Run P T ops base rest e' h' K

theorem aop_mono {id : Nat} {op : Op} {K K' : AV → Heap → Prop} (hk : ∀ v h', K v h' → K' v h') (hq : aop P T e h id op K) : aop P T e h id op K' := by
  unfold aop at hq ⊢
  split at hq
  · exact hk _ _ hq
  · split at hq
    · exact hk _ _ hq
    · split at hq
      · exact hk _ _ hq
      · split at hq
        · exact fun out ho => hk _ _ (hq out ho)
        · split at hq
          · exact CT.mono hq hk
          · exact hq

/-- What an operation of the classes 0 to 2 leaves of memory. -/
structure Small (k : Nat) (h h' : Heap) : Prop where
  le : HLe h h'
  fresh : ∀ j, j ≠ k → h.get j = none → h'.get j = none

theorem dstep_mono {i c : Nat} {K K' : List AV → Heap → Prop} (hf : h.get (base + i) = none) (hk : ∀ o v h', ops[i]? = some o → (c < 3 → Small (base + i) h h') → K (ePut e o.dst v) h' → K' (ePut e o.dst v) h') (hq : dstep P T ops base i c e h K) :
    dstep P T ops base i c e h K' := by
  have S : Small (base + i) h h := ⟨HLe.refl h, fun _ _ hj => hj⟩
  unfold dstep at hq ⊢
  cases ho : ops[i]? with
  | none => simp [ho] at hq
  | some o =>
    simp only [ho] at hq ⊢
    cases hw : aWanted ops e o with
    | none => simp [hw] at hq
    | some b =>
      cases b with
      | false => simp only [hw] at hq ⊢; exact hk o _ _ ho (fun _ => S) hq
      | true =>
        simp only [hw] at hq ⊢
        rcases c with _ | _ | _ | c
        · simp only at hq ⊢
          split at hq
          · exact hk o _ _ ho (fun _ => S) hq
          · exact hq
        · simp only [Nat.zero_add] at hq ⊢
          split at hq
          · exact hk o _ _ ho (fun _ => S) hq
          · exact hq
        · simp only [Nat.zero_add, Nat.reduceAdd] at hq ⊢
          split at hq
          · exact hk o _ _ ho (fun _ => ⟨HLe.set hf _, fun j hj hg => by rw [Heap.get_set_ne _ _ (fun e0 => hj e0.symm)]; exact hg⟩) hq
          · exact hq
        · exact aop_mono (fun v h' hv => hk o _ _ ho (fun hc => by omega) hv) hq

theorem opd_put {dst : Option Tmp} {v : AV} {x : Operand} (hx : ∀ d, dst = some d → x ≠ .tmp d) : opd (ePut e dst v) x = opd e x := by
  cases dst with
  | none => rfl
  | some d =>
    cases x with
    | tmp t =>
      have hne : d ≠ t := fun e0 => hx d rfl (e0 ▸ rfl)
      simp [opd, ePut, List.getElem?_set_ne hne]
    | _ => rfl

theorem alike_put {o : Oper} {dst : Option Tmp} {v : AV} (hx : ∀ d, dst = some d → d ∉ o.looksAt ops) : Alike (ePut e dst v) e o.op.operands.toList := fun x hm =>
  opd_put fun d hd hxd => hx d hd (by
    subst hxd
    exact List.mem_append_left _ (List.mem_filterMap.2 ⟨.tmp d, hm, rfl⟩))

theorem aWanted_put {o : Oper} {dst : Option Tmp} {v : AV} (hx : ∀ d, dst = some d → d ∉ o.looksAt ops) : aWanted ops (ePut e dst v) o = aWanted ops e o := by
  cases dst with
  | none => rfl
  | some d =>
    unfold aWanted
    cases hg : o.guard with
    | none => rfl
    | some gw =>
      obtain ⟨j, want⟩ := gw
      cases hj : (ops[j]?).bind (·.dst) with
      | none => simp [hj]
      | some t =>
        have hne : d ≠ t := fun e0 => hx d rfl (by subst e0; simp [Oper.looksAt, hg, hj])
        simp [hj, ePut, List.getElem?_set_ne hne]

theorem ePut_comm {d1 d2 : Option Tmp} (u v : AV) (hx : ∀ d, d1 = some d → d2 ≠ some d) : ePut (ePut e d1 u) d2 v = ePut (ePut e d2 v) d1 u := by
  cases d1 with
  | none => rfl
  | some d =>
    cases d2 with
    | none => rfl
    | some d' =>
      have hne : d ≠ d' := fun e0 => hx d rfl (e0 ▸ rfl)
      simp only [ePut]; rw [List.set_comm _ _ hne]

/-- A value put ahead of an operation that is apart. -/
theorem dstep_put {j d : Nat} {oj : Oper} (hj : ops[j]? = some oj) {dst : Option Tmp} {v : AV} (h1 : ∀ t, dst = some t → t ∉ oj.looksAt ops) (h2 : ∀ t, dst = some t → oj.dst ≠ some t) {K : List AV → Heap → Prop}
    (hq : dstep P T ops base j d (ePut e dst v) h K) : dstep P T ops base j d e h fun e' h' => K (ePut e' dst v) h' := by
  have A : Alike (ePut e dst v) e oj.op.operands.toList := alike_put h1
  unfold dstep at hq ⊢
  simp only [hj] at hq ⊢
  rw [aWanted_put h1] at hq
  rw [light_alike A, mkOp_alike A] at hq
  cases hw : aWanted ops e oj with
  | none => simp [hw] at hq
  | some b =>
    cases b with
    | false =>
      simp only [hw] at hq ⊢
      rw [ePut_comm _ _ h2] at hq; exact hq
    | true =>
      simp only [hw] at hq ⊢
      rcases d with _ | _ | _ | d
      · simp only at hq ⊢
        split at hq
        · rw [ePut_comm _ _ h2] at hq; exact hq
        · exact hq
      · simp only [Nat.zero_add] at hq ⊢
        rw [light_alike A] at hq
        split at hq
        · rw [ePut_comm _ _ h2] at hq; exact hq
        · exact hq
      · simp only [Nat.zero_add, Nat.reduceAdd] at hq ⊢
        split at hq
        · rw [ePut_comm _ _ h2] at hq; exact hq
        · exact hq
      · simp only at hq ⊢
        rw [aop_alike A] at hq
        refine aop_mono (fun u h' hu => ?_) hq
        rw [ePut_comm _ _ h2] at hu; exact hu

theorem dstep_heap {j d k : Nat} (hd : d = 0 ∨ d = 2) (hk : k ≠ base + j) {o : Option AO} {K : List AV → Heap → Prop} (hq : dstep P T ops base j d e (h.set k o) K) :
    dstep P T ops base j d e h fun e' h' => K e' (h'.set k o) := by
  unfold dstep at hq ⊢
  split
  · rename_i hj; simp [hj] at hq
  · rename_i oj hj
    simp only [hj] at hq
    split
    · rename_i hw; simp only [hw] at hq; exact hq
    · rename_i hw; simp only [hw] at hq
      rcases hd with rfl | rfl
      · exact hq
      · simp only at hq ⊢
        split at hq
        · rw [Heap.set_comm _ _ _ hk] at hq; exact hq
        · exact hq
    · rename_i hw; simp [hw] at hq

theorem rchk_put {r : Nat} {o : Oper} (hr : ops[r]? = some o) {dst : Option Tmp} {v : AV} (h1 : ∀ t, dst = some t → t ∉ o.looksAt ops) (h2 : ∀ t, dst = some t → o.dst ≠ some t) (hq : rchk T ops (ePut e dst v) h r) : rchk T ops e h r := by
  have A : Alike (ePut e dst v) e o.op.operands.toList := alike_put h1
  unfold rchk at hq ⊢
  simp only [hr] at hq ⊢
  rw [aWanted_put h1, light_alike A] at hq
  cases hw : aWanted ops e o with
  | none => simp [hw] at hq
  | some b =>
    cases b with
    | false => trivial
    | true =>
      simp only [hw] at hq ⊢
      cases hd : o.dst with
      | none => simpa [hd] using hq
      | some d =>
        simp only [hd] at hq ⊢
        obtain ⟨u, hu, hl⟩ := hq
        refine ⟨u, ?_, hl⟩
        cases dst with
        | none => exact hu
        | some t =>
          have hne : t ≠ d := fun e0 => h2 t rfl (by rw [hd, e0])
          simpa [ePut, List.getElem?_set_ne hne] using hu

/-- Is it free of the other's place and its own? -/
def apartR (ops : Array Oper) (x r : Nat) : Bool :=
  match ops[x]?, ops[r]? with
  | some ox, some o => (match ox.dst with
    | some d => !(o.looksAt ops).contains d && o.dst != some d
    | none => true)
  | _, _ => false

theorem apartR_spec {x r : Nat} {ox o : Oper} (hx : ops[x]? = some ox) (hr : ops[r]? = some o) (ha : apartR ops x r = true) : (∀ t, ox.dst = some t → t ∉ o.looksAt ops) ∧ (∀ t, ox.dst = some t → o.dst ≠ some t) := by
  unfold apartR at ha
  simp only [hx, hr] at ha
  refine ⟨fun t ht => ?_, fun t ht => ?_⟩ <;> simp [ht] at ha
  · exact ha.1
  · exact ha.2

/-- May the operation 'y', that stands behind 'x', come ahead of it? -/
def compat (ops : Array Oper) (x y : Item) : Bool :=
  x.1 != y.1 && x.2.2.isEmpty && apartR ops x.1 y.1 && apartR ops y.1 x.1 &&
  (match x.2.1, y.2.1 with
   | 0, _ => true
   | 1, 0 | 1, 1 | 1, 2 => true
   | 1, _ => y.2.2.contains x.1 && (match ops[x.1]? with
     | some ox => (match ox.dst with
       | some d => !(ox.looksAt ops).contains d
       | none => true)
     | none => false)
   | 2, 0 | 2, 2 => y.2.2.isEmpty
   | _, _ => false)

theorem swap {i c : Nat} {j d : Nat} {rd : List Nat} (hc : compat ops (i, c, []) (j, d, rd) = true) (hr : ∀ r, r ∈ rd → r ≠ i → apartR ops i r = true) {M : List AV → Heap → Prop} (hfj : h.get (base + j) = none)
    (hq : dstep P T ops base i c e h fun e1 h1 => dstep P T ops base j d e1 h1 fun e2 h2 => (∀ r, r ∈ rd → rchk T ops e2 h2 r) ∧ M e2 h2) :
    dstep P T ops base j d e h fun e1 h1 => (∀ r, r ∈ rd.filter (fun r => r != i) → rchk T ops e1 h1 r) ∧ dstep P T ops base i c e1 h1 M := by
  simp only [compat, Bool.and_eq_true, bne_iff_ne] at hc
  obtain ⟨⟨⟨⟨hij, _⟩, c1⟩, c2⟩, c3⟩ := hc
  rw [dstep] at hq
  cases hoi : ops[i]? with
  | none => simp [hoi] at hq
  | some oi =>
    simp only [hoi] at hq
    cases hoj : ops[j]? with
    | none => simp [apartR, hoi, hoj] at c1
    | some oj =>
      obtain ⟨p1, p2⟩ := apartR_spec hoi hoj c1
      obtain ⟨p3, p4⟩ := apartR_spec hoj hoi c2
      have RF : ∀ (e1 : List AV) (h1 : Heap) (v : AV), (∀ r, r ∈ rd → rchk T ops (ePut e1 oi.dst v) h1 r) → ∀ r, r ∈ rd.filter (fun r => r != i) → rchk T ops e1 h1 r := by
        intro e1 h1 v H r hm
        simp only [List.mem_filter, bne_iff_ne] at hm
        have ha := hr r hm.1 hm.2
        cases hor : ops[r]? with
        | none => simp [apartR, hoi, hor] at ha
        | some o =>
          obtain ⟨q1, q2⟩ := apartR_spec hoi hor ha
          exact rchk_put hor q1 q2 (H r hm.1)
      cases hw : aWanted ops e oi with
      | none => simp [hw] at hq
      | some b =>
        have W : ∀ v, aWanted ops (ePut e oj.dst v) oi = aWanted ops e oi := fun v => aWanted_put p3
        have A : ∀ v, Alike (ePut e oj.dst v) e oi.op.operands.toList := fun v => alike_put p3
        cases b with
        | false =>
          simp only [hw] at hq
          refine dstep_mono hfj ?_ (dstep_put hoj p1 p2 hq)
          intro o v h' ho _ hK
          rw [hoj] at ho; injection ho with ho; subst ho
          refine ⟨RF _ _ _ hK.1, ?_⟩
          rw [dstep]; simp only [hoi, W, hw]; exact hK.2
        | true =>
          simp only [hw] at hq
          rcases c with _ | _ | _ | c
          · simp only at hq
            split at hq
            · rename_i u hl
              refine dstep_mono hfj ?_ (dstep_put hoj p1 p2 hq)
              intro o v h' ho _ hK
              rw [hoj] at ho; injection ho with ho; subst ho
              refine ⟨RF _ _ _ hK.1, ?_⟩
              rw [dstep]; simp only [hoi, W, hw, light_alike (A _), hl]; exact hK.2
            · exact hq.elim
          · simp only [Nat.zero_add] at hq
            split at hq
            · rename_i u hl
              refine dstep_mono hfj ?_ (dstep_put hoj p1 p2 hq)
              intro o v h' ho hs hK
              rw [hoj] at ho; injection ho with ho; subst ho
              refine ⟨RF _ _ _ hK.1, ?_⟩
              by_cases hd : d < 3
              · rw [dstep]; simp only [hoi, W, hw, light_alike (A _), light_le (hs hd).le hl]; exact hK.2
              · have c3' : rd.contains i = true ∧ (match oi.dst with | some d => !(oi.looksAt ops).contains d | none => true) = true := by
                  rcases d with _ | _ | _ | d
                  · omega
                  · omega
                  · omega
                  · simpa [hoi] using c3
                have hm : i ∈ rd := by simpa using c3'.1
                have hself : ∀ t, oi.dst = some t → t ∉ oi.looksAt ops := fun t ht => by
                  have := c3'.2
                  simp only [ht] at this
                  simpa using this
                have hck := hK.1 i hm
                unfold rchk at hck
                simp only [hoi] at hck
                rw [aWanted_put hself, W, hw] at hck
                simp only at hck
                have A2 : Alike (ePut (ePut e oj.dst v) oi.dst u) (ePut e oj.dst v) oi.op.operands.toList := alike_put hself
                rw [dstep]; simp only [hoi, W, hw]
                rw [light_alike A2] at hck
                cases hdst : oi.dst with
                | none =>
                  simp only [hdst] at hck
                  obtain ⟨u', hu'⟩ := hck
                  rw [hu']
                  simpa [hdst, ePut] using hK.2
                | some t =>
                  simp only [hdst] at hck
                  obtain ⟨u', h1, h2⟩ := hck
                  have : u' = u := by
                    generalize ePut e oj.dst v = l at h1
                    simp only [ePut] at h1
                    rw [List.getElem?_set] at h1
                    simp only [if_true] at h1
                    by_cases hlt : t < l.length
                    · simp [hlt] at h1; exact h1.symm
                    · simp [hlt] at h1
                  subst this
                  rw [h2]
                  simpa [hdst] using hK.2
            · exact hq.elim
          · simp only [Nat.zero_add, Nat.reduceAdd] at hq
            split at hq
            · rename_i ao f hl
              have hd : d = 0 ∨ d = 2 := by
                rcases d with _ | _ | _ | d
                · exact .inl rfl
                · simp at c3
                · exact .inr rfl
                · simp at c3
              refine dstep_mono hfj ?_ (dstep_heap hd (fun e0 => hij (by omega)) (dstep_put hoj p1 p2 hq))
              intro o v h' ho hs hK
              rw [hoj] at ho; injection ho with ho; subst ho
              have hrd : rd = [] := by
                rcases hd with rfl | rfl <;> simpa using c3
              refine ⟨fun r hm => by simp [hrd] at hm, ?_⟩
              · rw [dstep]; simp only [hoi, W, hw, mkOp_alike (A _), hl]; exact hK.2
            · exact hq.elim
          · rcases d with _ | _ | _ | d <;> simp at c3

end
end Go.Ab
/-! One order serves all: the whole region. -/
namespace Go.Ab
section
variable {P : Program} {T : Tab} {σ : Sig} {Z : Nat → Prop} {h : Heap} {w : World} {e : List AV} {a : Act} {ops : Array Oper} {base : Nat}

def Item.drop (x : Item) (rs : List Nat) : Item := (x.1, x.2.1, x.2.2.filter fun r => !rs.contains r)

theorem dstep_mono0 {i c : Nat} {K K' : List AV → Heap → Prop} (hk : ∀ e h, K e h → K' e h) (hq : dstep P T ops base i c e h K) : dstep P T ops base i c e h K' := by
  unfold dstep at hq ⊢
  cases ho : ops[i]? with
  | none => simp [ho] at hq
  | some o =>
    simp only [ho] at hq ⊢
    cases hw : aWanted ops e o with
    | none => simp [hw] at hq
    | some b =>
      cases b with
      | false => simp only [hw] at hq ⊢; exact hk _ _ hq
      | true =>
        simp only [hw] at hq ⊢
        rcases c with _ | _ | _ | c
        · simp only at hq ⊢
          split at hq
          · exact hk _ _ hq
          · exact hq
        · simp only [Nat.zero_add] at hq ⊢
          split at hq
          · exact hk _ _ hq
          · exact hq
        · simp only [Nat.zero_add, Nat.reduceAdd] at hq ⊢
          split at hq
          · exact hk _ _ hq
          · exact hq
        · exact aop_mono (fun v h' hv => hk _ _ hv) hq

/-- Fewer looks. -/
theorem Run_less {rs : List Nat} {K : List AV → Heap → Prop} : ∀ {L : List Item} {e : List AV} {h : Heap}, Run P T ops base L e h K → Run P T ops base (L.map (·.drop rs)) e h K
  | [], _, _, hq => hq
  | (i, c, rc) :: rest, e, h, hq => by
    simp only [List.map_cons, Item.drop, Run] at hq ⊢
    exact dstep_mono0 (fun e h hk => ⟨fun r hr => hk.1 r (List.mem_filter.1 hr).1, Run_less hk.2⟩) hq

/-- 'y' comes ahead of those in 'pre'. -/
theorem Run_front {j d : Nat} {post : List Item} {M : List AV → Heap → Prop} : ∀ (pre : List Item) {e : List AV} {h : Heap} (rd : List Nat),
    (∀ x, x ∈ pre → compat ops x (j, d, rd) = true) → (pre.map (·.1)).Nodup → (∀ p1 x p2, pre = p1 ++ x :: p2 → ∀ r, r ∈ rd → r ≠ x.1 → r ∉ p2.map (·.1) → apartR ops x.1 r = true) →
    (∀ x, x ∈ pre → h.get (base + x.1) = none) → h.get (base + j) = none →
    Run P T ops base (pre ++ (j, d, rd) :: post) e h M → Run P T ops base ((j, d, rd.filter fun r => !(pre.map (·.1)).contains r) :: pre ++ post) e h M
  | [], e, h, rd, _, _, _, _, _, hq => by
    have : rd.filter (fun r => !(([] : List Item).map (·.1)).contains r) = rd := by simp
    rw [this]; exact hq
  | (i, c, rc) :: pre, e, h, rd, hc, hn, hp, hf, hfj, hq => by
    have hci := hc (i, c, rc) List.mem_cons_self
    have hrc : rc = [] := by
      simp only [compat, Bool.and_eq_true] at hci
      simpa using hci.1.1.1.2
    subst hrc
    have hij : i ≠ j := by
      simp only [compat, Bool.and_eq_true] at hci
      simpa using hci.1.1.1.1
    have hc3 : c < 3 := by
      rcases c with _ | _ | _ | c
      · omega
      · omega
      · omega
      · simp [compat] at hci
    simp only [List.map_cons, List.nodup_cons] at hn
    simp only [List.cons_append, Run] at hq ⊢
    have hq1 : dstep P T ops base i c e h fun e1 h1 => dstep P T ops base j d e1 h1 fun e2 h2 =>
        (∀ r, r ∈ rd.filter (fun r => !(pre.map (·.1)).contains r) → rchk T ops e2 h2 r) ∧ Run P T ops base (pre ++ post) e2 h2 M := by
      refine dstep_mono (hf _ List.mem_cons_self) ?_ hq
      intro o v h' ho hs hK
      have hs' := hs hc3
      have := Run_front pre rd (fun x hx => hc x (List.mem_cons_of_mem _ hx)) hn.2
        (fun p1 x p2 hx r hr hne hni => hp ((i, c, []) :: p1) x p2 (by rw [hx]; rfl) r hr hne hni)
        (fun x hx => hs'.fresh _ (fun e0 => hn.1 (by have : x.1 = i := by omega
                                                     exact this ▸ List.mem_map_of_mem hx)) (hf x (List.mem_cons_of_mem _ hx)))
        (hs'.fresh _ (fun e0 => hij (by omega)) hfj) hK.2
      simpa [Run] using this
    have hcj : compat ops (i, c, []) (j, d, rd.filter (fun r => !(pre.map (·.1)).contains r)) = true := by
      have hi : i ∉ pre.map (·.1) := hn.1
      rcases c with _ | _ | _ | c
      · simpa [compat] using hci
      · rcases d with _ | _ | _ | d
        · simpa [compat] using hci
        · simpa [compat] using hci
        · simpa [compat] using hci
        · simp only [compat, Bool.and_eq_true] at hci ⊢
          refine ⟨hci.1, ?_, hci.2.2⟩
          have h1 : i ∈ rd := by simpa using hci.2.1
          simp only [List.contains_eq_mem, List.mem_filter, Bool.not_eq_true', decide_eq_true_eq, decide_eq_false_iff_not]
          exact ⟨h1, hi⟩
      · rcases d with _ | _ | _ | d
        · simp only [compat, Bool.and_eq_true] at hci ⊢
          refine ⟨hci.1, ?_⟩
          have h1 : rd = [] := by simpa using hci.2
          simp [h1]
        · simp [compat] at hci
        · simp only [compat, Bool.and_eq_true] at hci ⊢
          refine ⟨hci.1, ?_⟩
          have h1 : rd = [] := by simpa using hci.2
          simp [h1]
        · simp [compat] at hci
      · omega
    have := swap hcj (fun r hr hne => hp [] (i, c, []) pre rfl r (List.mem_filter.1 hr).1 hne (by simpa using (List.mem_filter.1 hr).2)) hfj hq1
    refine dstep_mono hfj ?_ this
    intro o v h' ho hs hK
    refine ⟨fun r hr => hK.1 r ?_, ?_⟩
    · simp only [List.map_cons, List.mem_filter, List.contains_cons, Bool.not_eq_true', Bool.or_eq_false_iff] at hr
      simp only [List.mem_filter, bne_iff_ne, ne_eq, Bool.not_eq_true']
      exact ⟨⟨hr.1, hr.2.2⟩, by simpa using hr.2.1⟩
    · exact dstep_mono0 (fun e h hk => ⟨fun r hr => by simp at hr, hk⟩) hK.2

/-- What stands ahead of an operation, by the edges that bind. -/
def befs (ops : Array Oper) : List (List Nat) :=
  ops.toList.foldl (fun acc o => acc ++ [o.after.toList.foldl (fun l x => if Region.binds .any x then x.on :: (acc.getD x.on [] ++ l) else l) []]) []

/-- All that is told to stand ahead of what is listed is listed. -/
def Closed (bs : List (List Nat)) (listed : Array Bool) : Prop := ∀ i x, listed.getD i false = true → x ∈ bs.getD i [] → listed.getD x false = true

/-- Each of 'bs' follows from the edges. -/
def befOk (ops : Array Oper) (bs : List (List Nat)) : Bool :=
  (List.range bs.length).all fun i => (bs.getD i []).all fun x => match ops[i]? with
    | some o => o.after.any fun y => Region.binds .any y && (y.on == x || (bs.getD y.on []).contains x)
    | none => false

theorem ready_befs {bs : List (List Nat)} (hb : befOk ops bs = true) {listed : Array Bool} (hc : Closed bs listed) {i : Nat} (hr : i ∈ Region.ready .any ops listed) {x : Nat} (hx : x ∈ bs.getD i []) : listed.getD x false = true := by
  obtain ⟨_, o, ho, ha⟩ := mem_ready.1 hr
  have hi : i < bs.length := by
    rcases Nat.lt_or_ge i bs.length with h' | h'
    · exact h'
    · simp [h'] at hx
  simp only [befOk, List.all_eq_true, List.mem_range] at hb
  have h1 := hb i hi x hx
  simp only [ho] at h1
  obtain ⟨y, hy, hyb⟩ := Array.any_eq_true'.1 h1
  simp only [Bool.and_eq_true, Bool.or_eq_true, beq_iff_eq] at hyb
  have h2 := ha y hy hyb.1
  rcases hyb.2 with e0 | e0
  · exact e0 ▸ h2
  · exact hc _ _ h2 (by simpa using e0)

theorem Closed.put {bs : List (List Nat)} (hb : befOk ops bs = true) {listed : Array Bool} (hc : Closed bs listed) {i : Nat} (hr : i ∈ Region.ready .any ops listed) : Closed bs (listed.setIfInBounds i true) := by
  intro j x hj hx
  refine getD_set_true ?_
  by_cases hij : i = j
  · subst hij; exact ready_befs hb hc hr hx
  · rw [getD_set_ne false hij] at hj
    exact hc j x hj hx

/-- The order's law. -/
def pairOk (ops : Array Oper) (bs : List (List Nat)) (x y : Item) : Bool := x.1 != y.1 && ((bs.getD y.1 []).contains x.1 || compat ops x y)
def tripleOk (ops : Array Oper) (bs : List (List Nat)) (r x y : Item) : Bool := (bs.getD y.1 []).contains x.1 || !y.2.2.contains r.1 || apartR ops x.1 r.1
def chk2 (f : Item → Item → Bool) : List Item → Bool
  | [] => true
  | x :: l => l.all (f x) && chk2 f l
def chk3 (f : Item → Item → Item → Bool) : List Item → Bool
  | [] => true
  | x :: l => chk2 (f x) l && chk3 f l
/-- Each stands behind what it needs. -/
def topo (ops : Array Oper) : List Nat → List Item → Bool
  | _, [] => true
  | seen, y :: l => (match ops[y.1]? with
    | some o => o.after.all fun x => !Region.binds .any x || seen.contains x.on
    | none => false) && y.2.2.all seen.contains && topo ops (y.1 :: seen) l

def ordOk (ops : Array Oper) (ka : List Item) : Bool :=
  let bs := befs ops
  befOk ops bs && chk2 (pairOk ops bs) ka && chk3 (tripleOk ops bs) ka && topo ops [] ka && (List.range ops.size).all (ka.map (·.1)).contains

theorem chk2_spec {f : Item → Item → Bool} : ∀ {l : List Item}, chk2 f l = true → ∀ {x y : Item}, List.Sublist [x, y] l → f x y = true
  | [], _, _, _, hs => by cases hs
  | z :: l, hc, x, y, hs => by
    simp only [chk2, Bool.and_eq_true, List.all_eq_true] at hc
    cases hs with
    | cons _ h1 => exact chk2_spec hc.2 h1
    | cons_cons _ h1 => exact hc.1 y (by simpa using h1)

theorem chk3_spec {f : Item → Item → Item → Bool} : ∀ {l : List Item}, chk3 f l = true → ∀ {r x y : Item}, List.Sublist [r, x, y] l → f r x y = true
  | [], _, _, _, _, hs => by cases hs
  | z :: l, hc, r, x, y, hs => by
    simp only [chk3, Bool.and_eq_true] at hc
    cases hs with
    | cons _ h1 => exact chk3_spec hc.2 h1
    | cons_cons _ h1 => exact chk2_spec hc.1 h1

end
end Go.Ab
/-! One order serves all: the theorem. -/
namespace Go.Ab
section
variable {P : Program} {T : Tab} {σ : Sig} {Z : Nat → Prop} {h : Heap} {w : World} {e : List AV} {a : Act} {ops : Array Oper} {base : Nat}

theorem dstep_sound (hT : T.ok P) {N : Nat} (hR : R σ Z h w) (he : ER σ Z w e a) {i c : Nat} (hid : h.get (base + i) = none) (hN : N ≤ base + i) (hlt : base + i < h.next) {K : List AV → Heap → Prop}
    (hq : dstep P T ops base i c e h K) {Q : Exit → Act → World → Prop} {K' : Act → World → Prop}
    (hk : ∀ σ' Z' w' e' a' h', K e' h' → R σ' Z' h' w' → Ext N σ Z h w σ' Z' h' w' → ER σ' Z' w' e' a' → Keeps (base + i) h h' → a'.defers = a.defers → K' a' w') : wpOp P ops Q i K' a w := by
  have hn := hR.lim
  have hNn : N ≤ h.next := by omega
  unfold dstep at hq
  unfold wpOp
  cases ho : ops[i]? with
  | none => simp [ho] at hq
  | some o =>
    simp only [ho] at hq ⊢
    cases hw : aWanted ops e o with
    | none => simp [hw] at hq
    | some b =>
      have hwt := wanted_sound he hw
      cases b with
      | false =>
        simp only [hw] at hq
        simp only [hwt, Bool.false_eq_true, if_false]
        exact hk _ _ _ _ _ _ hq hR (Ext.refl _ _ _ _ hNn) (he.put (undef_VR _ _ _) _) (Keeps.refl _ _) (put_defers' _ _ _)
      | true =>
        simp only [hw] at hq
        simp only [hwt, if_true]
        refine .inl ?_
        have L : ∀ av, light T e h o.op = some av → K (ePut e o.dst av) h → o.wp P a w K' Q := fun av hl hK => by
          obtain ⟨v, hr, hv⟩ := light_sound hT hR he hl
          unfold Oper.wp
          rw [hr, Oper.upon_value]
          exact hk _ _ _ _ _ _ hK hR (Ext.refl _ _ _ _ hNn) (he.put hv _) (Keeps.refl _ _) (put_defers' _ _ _)
        rcases c with _ | _ | _ | c
        · simp only at hq
          split at hq
          · rename_i av hl; exact L _ (light_le (HLe.empty h) hl) hq
          · exact hq.elim
        · simp only [Nat.zero_add] at hq
          split at hq
          · rename_i av hl; exact L _ hl hq
          · exact hq.elim
        · simp only [Nat.zero_add, Nat.reduceAdd] at hq
          split at hq
          · rename_i ao f hm
            obtain ⟨v, w', ob, hr, hp, hb⟩ := mk_sound hT hR he (mkOp_le (HLe.empty h) hm)
            unfold Oper.wp
            rw [hr, Oper.upon_value]
            obtain ⟨b1, b2⟩ := hb (base + i) (hR.nofresh _ hid)
            obtain ⟨r1, r2⟩ := alloc_state hR hp hid hN hlt hn b1
            exact hk _ _ _ _ _ _ hq r1 r2 ((he.grow (r2.grow hR)).put b2 _) ⟨fun j hj _ hf => by rw [Heap.get_set_ne _ _ (fun e0 => hj e0.symm)]; exact hf, Nat.le_refl _⟩ (put_defers' _ _ _)
          · exact hq.elim
        · exact aop_sound hT hR he hid hN hlt hq fun σ' Z' w' av v h' k r1 r2 r3 kp => hk _ _ _ _ _ _ k r1 r2 ((he.grow (r2.grow hR)).put r3 _) kp (put_defers' _ _ _)

/-- What is left of an order. -/
def cutRc (listed : Array Bool) (x : Item) : Item := (x.1, x.2.1, x.2.2.filter fun r => !listed.getD r true)
def lft (listed : Array Bool) (ka : List Item) : List Item := (ka.filter fun x => !listed.getD x.1 true).map (cutRc listed)

theorem getD_set_eq (listed : Array Bool) (j k : Nat) : (listed.setIfInBounds j true).getD k true = (listed.getD k true || k == j) := by
  by_cases h1 : j = k
  · subst h1
    rcases Nat.lt_or_ge j listed.size with h2 | h2
    · simp [h2]
    · simp [h2]
  · rw [getD_set_ne true h1]
    have : (k == j) = false := by simpa using fun e0 => h1 e0.symm
    simp [this]

theorem lft_set (listed : Array Bool) (j : Nat) (ka : List Item) : lft (listed.setIfInBounds j true) ka = ((lft listed ka).filter fun x => x.1 != j).map (·.drop [j]) := by
  unfold lft
  rw [List.filter_map, List.map_map, List.filter_filter]
  have h1 : (fun x : Item => !(listed.setIfInBounds j true).getD x.1 true) = fun x : Item => ((fun x : Item => x.1 != j) ∘ cutRc listed) x && !listed.getD x.1 true := by
    funext x
    simp only [getD_set_eq, Function.comp_apply, cutRc, Bool.not_or, bne, Bool.and_comm]
  have h2 : cutRc (listed.setIfInBounds j true) = (fun x : Item => x.drop [j]) ∘ cutRc listed := by
    funext x
    simp only [cutRc, Function.comp_apply, Item.drop, List.filter_filter]
    congr 2
    refine congrArg (fun f => List.filter f x.2.2) ?_
    funext r
    simp only [getD_set_eq, Bool.not_or, List.contains_cons, List.contains_nil, Bool.or_false, Bool.and_comm]
  rw [h1, h2]

theorem lft_append (listed : Array Bool) (p s : List Item) : lft listed (p ++ s) = lft listed p ++ lft listed s := by
  simp only [lft, List.filter_append, List.map_append]

theorem lft_cons (listed : Array Bool) (y : Item) (s : List Item) (hy : listed.getD y.1 true = false) : lft listed (y :: s) = cutRc listed y :: lft listed s := by
  simp only [lft, List.filter_cons, hy, Bool.not_false, if_true, List.map_cons]

theorem topo_spec {p : List Item} {y : Item} {s : List Item} : ∀ {seen : List Nat} {ka : List Item}, topo ops seen ka = true → ka = p ++ y :: s →
    ∃ o, ops[y.1]? = some o ∧ (∀ x ∈ o.after, Region.binds .any x = true → x.on ∈ seen ∨ x.on ∈ p.map (·.1)) ∧ ∀ r, r ∈ y.2.2 → r ∈ seen ∨ r ∈ p.map (·.1) := by
  induction p with
  | nil =>
    intro seen ka ht hk
    subst hk
    simp only [List.nil_append, topo, Bool.and_eq_true] at ht
    cases ho : ops[y.1]? with
    | none => simp [ho] at ht
    | some o =>
      simp only [ho] at ht
      refine ⟨o, rfl, fun x hx hb => .inl ?_, fun r hr => .inl ?_⟩
      · have := Array.all_eq_true_iff_forall_mem.1 ht.1.1 x hx
        simpa [hb] using this
      · have := List.all_eq_true.1 ht.1.2 r hr
        simpa using this
  | cons z p ih =>
    intro seen ka ht hk
    subst hk
    simp only [List.cons_append, topo, Bool.and_eq_true] at ht
    obtain ⟨o, h1, h2, h3⟩ := ih ht.2 rfl
    refine ⟨o, h1, fun x hx hb => ?_, fun r hr => ?_⟩
    · rcases h2 x hx hb with h4 | h4
      · rcases List.mem_cons.1 h4 with h5 | h5
        · exact .inr (by rw [h5]; simp)
        · exact .inl h5
      · exact .inr (by simp only [List.map_cons, List.mem_cons]; exact .inr h4)
    · rcases h3 r hr with h4 | h4
      · rcases List.mem_cons.1 h4 with h5 | h5
        · exact .inr (by rw [h5]; simp)
        · exact .inl h5
      · exact .inr (by simp only [List.map_cons, List.mem_cons]; exact .inr h4)

theorem pairs_nodup {bs : List (List Nat)} : ∀ {ka : List Item}, chk2 (pairOk ops bs) ka = true → (ka.map (·.1)).Nodup
  | [], _ => List.nodup_nil
  | x :: l, hc => by
    simp only [chk2, Bool.and_eq_true, List.all_eq_true] at hc
    simp only [List.map_cons, List.nodup_cons]
    refine ⟨fun hm => ?_, pairs_nodup hc.2⟩
    obtain ⟨y, hy, e0⟩ := List.mem_map.1 hm
    have := hc.1 y hy
    simp [pairOk, e0] at this

theorem compat_cut {listed : Array Bool} {x y : Item} (hx : listed.getD x.1 true = false) (hc : compat ops x y = true) : compat ops (cutRc listed x) (cutRc listed y) = true := by
  obtain ⟨i, c, rc⟩ := x
  obtain ⟨j, d, rd⟩ := y
  simp only at hx
  simp only [compat, Bool.and_eq_true, cutRc] at hc ⊢
  obtain ⟨⟨⟨⟨h1, h2⟩, h3⟩, h4⟩, h5⟩ := hc
  have h2' : rc = [] := by simpa using h2
  refine ⟨⟨⟨⟨h1, by simp [h2']⟩, h3⟩, h4⟩, ?_⟩
  rcases c with _ | _ | _ | c
  · rfl
  · rcases d with _ | _ | _ | d
    · rfl
    · rfl
    · rfl
    · simp only [Bool.and_eq_true] at h5 ⊢
      refine ⟨?_, h5.2⟩
      have h6 : i ∈ rd := by simpa using h5.1
      simp only [List.contains_eq_mem, List.mem_filter, decide_eq_true_eq]
      exact ⟨h6, by rw [hx]; rfl⟩
  · rcases d with _ | _ | _ | d
    · have : rd = [] := by simpa using h5
      simp [this]
    · simp at h5
    · have : rd = [] := by simpa using h5
      simp [this]
    · simp at h5
  · rcases d with _ | _ | _ | d <;> simp at h5

theorem mem_lft {listed : Array Bool} {ka : List Item} {x : Item} : x ∈ lft listed ka ↔ ∃ x0, x0 ∈ ka ∧ listed.getD x0.1 true = false ∧ x = cutRc listed x0 := by
  simp only [lft, List.mem_map, List.mem_filter, Bool.not_eq_true']
  constructor
  · rintro ⟨x0, ⟨h1, h2⟩, h3⟩; exact ⟨x0, h1, h2, h3.symm⟩
  · rintro ⟨x0, h1, h2, h3⟩; exact ⟨x0, ⟨h1, h2⟩, h3.symm⟩

theorem drawn_sound (hT : T.ok P) {ka : List Item} (ord : ordOk ops ka = true) {N : Nat} (hNb : N ≤ base) {K : List AV → Heap → Prop} {Q : Exit → Act → World → Prop} : ∀ (fuel : Nat) (listed : Array Bool) {σ : Sig} {Z : Nat → Prop} {h : Heap} {w : World} {e : List AV} {a : Act},
    listed.size = ops.size → Closed (befs ops) listed → (lft listed ka).length = fuel → R σ Z h w → ER σ Z w e a → (∀ x, x ∈ ka → listed.getD x.1 true = false → h.get (base + x.1) = none ∧ base + x.1 < h.next) → N ≤ h.next →
    Run P T ops base (lft listed ka) e h K →
    (∀ σ' Z' h' w' e' a', K e' h' → R σ' Z' h' w' → Ext N σ Z h w σ' Z' h' w' → ER σ' Z' w' e' a' → a'.defers = a.defers → Q .normal a' w') →
    wpAny P .any ops Q fuel listed a w := by
  have ord' := ord
  simp only [ordOk, Bool.and_eq_true] at ord'
  obtain ⟨⟨⟨⟨o1, o2⟩, o3⟩, o4⟩, o5⟩ := ord'
  have cover : ∀ i, i < ops.size → ∃ x, x ∈ ka ∧ x.1 = i := fun i hi => by
    have := List.all_eq_true.1 o5 i (List.mem_range.2 hi)
    simpa using this
  have nd := pairs_nodup o2
  have inb : ∀ x, x ∈ ka → x.1 < ops.size := fun x hx => by
    obtain ⟨p, s, hk⟩ := List.append_of_mem hx
    obtain ⟨o, ho, _⟩ := topo_spec o4 hk
    exact (Array.getElem?_eq_some_iff.1 ho).1
  intro fuel
  induction fuel with
  | zero =>
    intro listed σ Z h w e a hsz hcl hlen hR he hf hNn hq hk
    have hl : lft listed ka = [] := List.length_eq_zero_iff.1 hlen
    rw [hl] at hq
    refine ⟨?_, hk _ _ _ _ _ _ hq hR (Ext.refl _ _ _ _ hNn) he rfl⟩
    rw [List.eq_nil_iff_forall_not_mem]
    intro i hi
    obtain ⟨hu, o, ho, _⟩ := mem_ready.1 hi
    obtain ⟨x, hx, rfl⟩ := cover i (Array.getElem?_eq_some_iff.1 ho).1
    have : cutRc listed x ∈ lft listed ka := mem_lft.2 ⟨x, hx, hu, rfl⟩
    rw [hl] at this; cases this
  | succ fuel ih =>
    intro listed σ Z h w e a hsz hcl hlen hR he hf hNn hq hk
    refine ⟨fun hnil => ?_, fun i hi => ?_⟩
    · exfalso
      -- the first one left is ready
      have : ∃ y0 p s, ka = p ++ y0 :: s ∧ listed.getD y0.1 true = false ∧ ∀ x, x ∈ p → listed.getD x.1 true = true := by
        have h1 : ka.filter (fun x => !listed.getD x.1 true) ≠ [] := by
          intro h0; rw [lft, h0] at hlen; simp at hlen
        obtain ⟨y0, l, h2⟩ := List.exists_cons_of_ne_nil h1
        obtain ⟨p, s, h3, h4, h5, _⟩ := List.filter_eq_cons_iff.1 h2
        exact ⟨y0, p, s, h3, by simpa using h5, fun x hx => by simpa using h4 x hx⟩
      obtain ⟨y0, p, s, h1, h2, h3⟩ := this
      obtain ⟨o, ho, h4, _⟩ := topo_spec o4 h1
      have : y0.1 ∈ Region.ready .any ops listed := mem_ready.2 ⟨h2, o, ho, fun x hx hb => by
        rcases h4 x hx hb with h5 | h5
        · cases h5
        · obtain ⟨z, hz, e0⟩ := List.mem_map.1 h5
          have h6 := h3 z hz
          have h7 := inb z (by rw [h1]; exact List.mem_append_left _ hz)
          rw [← e0]
          rw [← hsz] at h7
          simpa [h7] using h6⟩
      rw [hnil] at this; cases this
    · obtain ⟨hu, o, ho, _⟩ := mem_ready.1 hi
      obtain ⟨y0, hy0, rfl⟩ := cover i (Array.getElem?_eq_some_iff.1 ho).1
      obtain ⟨p, s, hka⟩ := List.append_of_mem hy0
      obtain ⟨_, _, _, hrc⟩ := topo_spec o4 hka
      have hl : lft listed ka = lft listed p ++ cutRc listed y0 :: lft listed s := by rw [hka, lft_append, lft_cons _ _ _ hu]
      have hsub : ∀ l, List.Sublist l p → List.Sublist (l ++ [y0]) ka := fun l hl => by
        rw [hka]
        exact hl.append (List.singleton_sublist.2 List.mem_cons_self)
      have hnb : ∀ x0, x0 ∈ p → listed.getD x0.1 true = false → ((befs ops).getD y0.1 []).contains x0.1 = false := fun x0 hx0 hux => by
        cases hb : ((befs ops).getD y0.1 []).contains x0.1 with
        | false => rfl
        | true =>
          have h1 := ready_befs o1 hcl hi (x := x0.1) (by simpa using hb)
          have h7 := inb x0 (by rw [hka]; exact List.mem_append_left _ hx0)
          rw [← hsz] at h7
          simp [h7] at h1 hux
          rw [h1] at hux; cases hux
      have hndp : ((lft listed p).map (·.1)).Nodup := by
        have : (lft listed p).map (·.1) = (p.filter fun x => !listed.getD x.1 true).map (·.1) := by
          simp only [lft, List.map_map]; rfl
        rw [this]
        have h1 : List.Sublist ((p.filter fun x => !listed.getD x.1 true).map (·.1)) (ka.map (·.1)) := by
          rw [hka, List.map_append]
          exact (List.Sublist.map _ List.filter_sublist).trans (List.sublist_append_left _ _)
        exact h1.nodup nd
      have hfr := Run_front (P := P) (T := T) (ops := ops) (base := base) (j := y0.1) (d := y0.2.1) (post := lft listed s) (M := K) (lft listed p) (e := e) (h := h) (cutRc listed y0).2.2
        (fun x hx => by
          obtain ⟨x0, h1, h2, rfl⟩ := mem_lft.1 hx
          have h3 := chk2_spec o2 (hsub [x0] (List.singleton_sublist.2 h1))
          simp only [pairOk, Bool.and_eq_true, Bool.or_eq_true, hnb x0 h1 h2, Bool.false_eq_true, false_or] at h3
          exact compat_cut h2 h3.2)
        hndp
        (fun p1 x p2 hp r hr hne hni => by
          simp only [cutRc, List.mem_filter, Bool.not_eq_true'] at hr
          rcases hrc r hr.1 with h1 | h1
          · cases h1
          · obtain ⟨r0, h2, rfl⟩ := List.mem_map.1 h1
            have h3 : cutRc listed r0 ∈ lft listed p := mem_lft.2 ⟨r0, h2, hr.2, rfl⟩
            rw [hp] at h3
            have h4 : cutRc listed r0 ∈ p1 := by
              rcases List.mem_append.1 h3 with h5 | h5
              · exact h5
              · rcases List.mem_cons.1 h5 with h6 | h6
                · exact absurd (by rw [← h6]; rfl) hne
                · exact absurd (List.mem_map.2 ⟨_, h6, rfl⟩) hni
            have h5 : List.Sublist [cutRc listed r0, x] (lft listed p) := by
              rw [hp]
              exact (List.singleton_sublist.2 h4).append (List.singleton_sublist.2 List.mem_cons_self)
            obtain ⟨l, h6, h7⟩ := List.sublist_map_iff.1 h5
            rcases l with _ | ⟨r1, _ | ⟨x1, _ | ⟨z1, l⟩⟩⟩
            · simp at h7
            · simp at h7
            · simp only [List.map_cons, List.map_nil, List.cons.injEq, and_true] at h7
              have h8 := h6.trans List.filter_sublist
              have h9 := chk3_spec o3 (hsub _ h8)
              have hx1 : x1 ∈ p := h8.subset (by simp)
              have hux1 : listed.getD x1.1 true = false := by
                have := h6.subset (a := x1) (by simp)
                simpa using (List.mem_filter.1 this).2
              have e1 : r1.1 = r0.1 := by have := congrArg (·.1) h7.1; exact this.symm
              have e2 : x.1 = x1.1 := by rw [h7.2]; rfl
              simp only [tripleOk, hnb x1 hx1 hux1, Bool.false_or, Bool.or_eq_true, e1] at h9
              rw [e2]
              rcases h9 with h9 | h9
              · have : y0.2.2.contains r0.1 = true := by simpa using hr.1
                rw [this] at h9; cases h9
              · exact h9
            · simp at h7)
        (fun x hx => by
          obtain ⟨x0, h1, h2, rfl⟩ := mem_lft.1 hx
          exact (hf x0 (by rw [hka]; exact List.mem_append_left _ h1) h2).1)
        (hf y0 hy0 hu).1
        (by rw [hl] at hq; exact hq)
      simp only [List.cons_append, Run] at hfr
      have hl' : lft (listed.setIfInBounds y0.1 true) ka = (lft listed p ++ lft listed s).map (·.drop [y0.1]) := by
        rw [lft_set, hl]
        congr 1
        have hd : ∀ q : List Item, (∀ x, x ∈ q → x ∈ p ∨ x ∈ s) → (lft listed q).filter (fun x => x.1 != y0.1) = lft listed q := fun q hq => by
          rw [List.filter_eq_self]
          intro x hx
          obtain ⟨x0, h1, h2, rfl⟩ := mem_lft.1 hx
          rw [hka] at nd
          simp only [List.map_append, List.map_cons, List.nodup_append, List.nodup_cons] at nd
          obtain ⟨_, ⟨n2, _⟩, n3⟩ := nd
          have : x0.1 ≠ y0.1 := by
            rcases hq x0 h1 with h4 | h4
            · exact fun e0 => n3 x0.1 (List.mem_map_of_mem h4) y0.1 List.mem_cons_self e0
            · exact fun e0 => n2 (e0 ▸ List.mem_map_of_mem h4)
          simpa [cutRc] using this
        rw [List.filter_append, List.filter_cons, hd p (fun x hx => .inl hx), hd s (fun x hx => .inr hx)]
        simp [cutRc]
      have hfr' : dstep P T ops base y0.1 y0.2.1 e h fun e' h' => Run P T ops base (lft (listed.setIfInBounds y0.1 true) ka) e' h' K :=
        dstep_mono0 (fun e' h' hh => by rw [hl']; exact Run_less hh.2) hfr
      obtain ⟨f1, f2⟩ := hf y0 hy0 hu
      refine dstep_sound hT hR he f1 (N := N) (by omega) f2 hfr' ?_
      intro σ' Z' w' e' a' h' k r1 r2 r3 kp hd
      refine ih (listed.setIfInBounds y0.1 true) (by simpa using hsz) (hcl.put o1 hi) ?_ r1 r3 ?_ r2.next k ?_
      · rw [hl', List.length_map]
        rw [hl] at hlen
        simp only [List.length_append, List.length_cons] at hlen ⊢
        omega
      · intro x hx hux
        rw [getD_set_eq, Bool.or_eq_false_iff] at hux
        obtain ⟨g1, g2⟩ := hf x hx hux.1
        have hne : x.1 ≠ y0.1 := by simpa using hux.2
        exact ⟨kp.fresh _ (by omega) g2 g1, Nat.lt_of_lt_of_le g2 kp.next⟩
      · intro σ2 Z2 h2 w2 e2 a2 k2 s1 s2 s3 s4
        exact hk _ _ _ _ _ _ k2 s1 (r2.trans s2) s3 (s4.trans hd)

end
end Go.Ab
