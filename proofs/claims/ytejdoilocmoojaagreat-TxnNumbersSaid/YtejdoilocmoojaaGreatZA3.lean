/- The operations that make things, write, or step an iterator do what the abstract ones tell, at a program whose tables are told rightly. -/
import Derived.Test.YtejdoilocmoojaaGreatZA2
import Derived.Laws.MakeOwn
set_option linter.unusedSimpArgs false
set_option linter.unusedVariables false
/-! Operations that make one thing. -/
namespace Go.Ab
section
variable {P : Program} {T : Tab} {σ : Sig} {Z : Nat → Prop} {h : Heap} {w : World} {e : List AV} {a : Act}

/-- 'w'' is 'w' with one block more. -/
structure Pushed (w w' : World) (o : Obj) : Prop where
  heap : w'.heap = w.heap.push o
  os : w'.os = w.os
  tape : w'.tape = w.tape
  output : w'.output = w.output

theorem Pushed.old {w w' : World} {o : Obj} (p : Pushed w w' o) {b : Nat} (hb : b < w.heap.size) : w'.heap[b]? = w.heap[b]? := by
  rw [p.heap, Array.getElem?_push_lt hb, Array.getElem?_eq_getElem hb]

theorem Pushed.new {w w' : World} {o : Obj} (p : Pushed w w' o) : w'.heap[w.heap.size]? = some o := by
  rw [p.heap, Array.getElem?_push_size]

theorem Pushed.csz {w w' : World} {o : Obj} (p : Pushed w w' o) (b : Nat) : csize w b ≤ csize w' b := by
  unfold csize
  by_cases hb : b < w.heap.size
  · rw [p.old hb]; exact Nat.le_refl _
  · rw [Array.getElem?_eq_none (by omega)]; exact Nat.zero_le _

def Sig.put (σ : Sig) (id : Nat) (p : Nat × Nat) : Sig := fun i => if i = id then some p else σ i

theorem Sig.put_ne {σ : Sig} {id i : Nat} {p : Nat × Nat} (h : i ≠ id) : σ.put id p i = σ i := by simp [Sig.put, h]
theorem Sig.put_eq {σ : Sig} {id : Nat} {p : Nat × Nat} : σ.put id p id = some p := by simp [Sig.put]

theorem Pushed.grow {w w' : World} {o : Obj} (p : Pushed w w' o) (hz : ∀ b, Z b → b < w.heap.size) {σ' : Sig} (hs : ∀ i q, σ i = some q → σ' i = some q) : Grow σ Z w σ' Z w' :=
  ⟨hs, fun _ h => h, fun b hb => p.old (hz b hb), p.csz⟩

theorem put_ext {id : Nat} {p : Nat × Nat} (hf : σ id = none) : ∀ i q, σ i = some q → σ.put id p i = some q := by
  intro i q hi
  rw [Sig.put_ne]
  · exact hi
  · intro e; subst e; rw [hf] at hi; cases hi

/-- A new thing under a number that was fresh. -/
theorem alloc_state {N : Nat} (hR : R σ Z h w) {w' : World} {o : Obj} (p : Pushed w w' o) {id : Nat} (hid : h.get id = none) (hN : N ≤ id) (hlt : id < h.next) (hn : h.next < 1000000000000) {ao : AO}
    (hb : BR (σ.put id (w.heap.size, 0)) Z w' ao (w.heap.size, 0)) :
    R (σ.put id (w.heap.size, 0)) Z (h.set id (some ao)) w' ∧ Ext N σ Z h w (σ.put id (w.heap.size, 0)) Z (h.set id (some ao)) w' := by
  have hf := hR.nofresh id hid
  have hx := put_ext (p := (w.heap.size, 0)) hf
  have hg := p.grow hR.zlt hx
  have G : ∀ i, i ≠ id → (h.set id (some ao)).get i = h.get i := fun i hi => Heap.get_set_ne _ _ (fun e => hi e.symm)
  have GE : (h.set id (some ao)).get id = some (some ao) := Heap.get_set_eq _ _ (by omega)
  have L : ∀ i oi q, h.get i = some (some oi) → σ i = some q → q.1 < w.heap.size := fun i oi q h1 h2 => by
    obtain ⟨q', hq', hbr⟩ := hR.live _ _ h1
    rw [h2] at hq'; injection hq' with hq'; subst hq'
    exact hbr.lt
  refine ⟨⟨fun i hi => ?_, fun i hi => ?_, fun i oi hi => ?_, fun i j oi oj q r hi hj hq hr hqr => ?_, fun i oi q hi hq => ?_, fun b hb => ?_, hn⟩, ⟨hx, fun _ h => h, fun _ h => .inl h, fun b hb => ?_, fun b hb _ => p.old hb, ?_, p.csz, fun i hi hfr => ?_, ?_, p.os, p.tape, p.output⟩⟩
  · by_cases e : i = id
    · subst e; rw [GE] at hi; cases hi
    · rw [G i e] at hi; rw [Sig.put_ne e]; exact hR.nofresh i hi
  · have hi' : h.next ≤ i := hi
    rw [G i (by omega)]; exact hR.top i hi'
  · by_cases e : i = id
    · subst e; rw [GE] at hi; injection hi with hi; injection hi with hi; subst hi
      exact ⟨_, Sig.put_eq, hb⟩
    · rw [G i e] at hi
      obtain ⟨q, hq, hbr⟩ := hR.live i oi hi
      exact ⟨q, by rw [Sig.put_ne e]; exact hq, hbr.grow hg (p.old hbr.lt)⟩
  · by_cases e : i = id
    · by_cases e2 : j = id
      · rw [e, e2]
      · subst e
        rw [Sig.put_eq] at hq; injection hq with hq; subst hq
        rw [G j e2] at hj; rw [Sig.put_ne e2] at hr
        have := L _ _ _ hj hr
        simp at hqr; omega
    · by_cases e2 : j = id
      · subst e2
        rw [Sig.put_eq] at hr; injection hr with hr; subst hr
        rw [G i e] at hi; rw [Sig.put_ne e] at hq
        have := L _ _ _ hi hq
        simp at hqr; omega
      · rw [G i e] at hi; rw [G j e2] at hj; rw [Sig.put_ne e] at hq; rw [Sig.put_ne e2] at hr
        exact hR.inj _ _ _ _ _ _ hi hj hq hr hqr
  · by_cases e : i = id
    · subst e
      rw [Sig.put_eq] at hq; injection hq with hq; subst hq
      intro hz; have := hR.zlt _ hz; simp at this
    · rw [G i e] at hi; rw [Sig.put_ne e] at hq
      exact hR.own _ _ _ hi hq
  · have := hR.zlt b hb
    rw [p.heap]; simp; omega
  · obtain ⟨i, oi, q, h1, h2, h3⟩ := hb
    by_cases e : i = id
    · subst e; rw [Sig.put_eq] at h2; injection h2 with h2; subst h2
      exact .inl (by omega)
    · rw [G i e] at h1; rw [Sig.put_ne e] at h2
      exact .inr ⟨i, oi, q, h1, h2, h3⟩
  · rw [p.heap]; simp
  · rw [G i (by omega)]
    exact hfr
  · show N ≤ h.next
    omega

theorem reps_VRs {z : List AV} {zc : Array Value} (hz : VRs σ Z w z zc.toList) (n : Nat) : VRs σ Z w (reps n z) ((List.range n).map fun i => zc[i % zc.size]!) := by
  have hl := VRs.length hz
  refine VRs.of_get (by simp [reps]) fun i a v ha hv => ?_
  simp only [reps, List.getElem?_map, Option.map_eq_some_iff] at ha hv
  obtain ⟨j, hj, rfl⟩ := ha
  obtain ⟨j', hj', rfl⟩ := hv
  rw [hj] at hj'; injection hj' with hj'; subst hj'
  have hsz : zc.size = z.length := by simpa using hl
  rw [hsz]
  by_cases h0 : j % z.length < z.length
  · obtain ⟨v, hv, hr⟩ := VRs.get hz (List.getElem?_eq_getElem h0)
    rw [List.getD_eq_getElem?_getD, List.getElem?_eq_getElem h0, Option.getD_some]
    have : zc[j % z.length]? = some v := by simpa using hv
    rw [getElem!_def, this]; exact hr
  · rw [List.getD_eq_getElem?_getD, List.getElem?_eq_none (by omega)]
    simp only [Option.getD_none, VR]

theorem reps_ones {zc : Array Value} (hz : ones zc.toList) (n : Nat) : ones ((List.range n).map fun i => zc[i % zc.size]!) := by
  intro v hv
  simp only [List.mem_map] at hv
  obtain ⟨i, _, rfl⟩ := hv
  by_cases h : i % zc.size < zc.size
  · rw [getElem!_pos zc _ h]; exact hz _ (by simp)
  · rw [getElem!_neg zc _ h]; rfl

theorem big_toList (n : Nat) (z : List AV) : (Cs.ov n z.length z []).toList = reps n z := rfl

theorem lst_toList {n : Nat} {xs : List AV} (h : xs.length = n) : (Cs.lst n xs).toList = xs := pad_self h

theorem BR_new {w' : World} {σ' : Sig} {c : Array Value} {t : TypeId} (p : Pushed w w' (.cells c t)) (hz : ∀ b, Z b → b < w.heap.size) (hs : ∀ i q, σ i = some q → σ' i = some q) {cs : Cs} (hv : VRs σ Z w cs.toList c.toList) (h1 : ones c.toList) :
    BR σ' Z w' (.row false cs) (w.heap.size, 0) := by
  refine ⟨c, t, (0, 0), c.toList, p.new, fun _ => rfl, fun k _ => by omega, VRs.grow (p.grow hz hs) hv, by simp, h1, fun i v hi => by simpa using hi⟩

/-- What is said of an operation that makes one thing. -/
def Makes (P : Program) (σ : Sig) (Z : Nat → Prop) (w : World) (o : Oper) (a : Act) (ao : AO) (f : Nat → AV) : Prop :=
  ∃ v w' ob, (execOp a.eval o).run P w = .ok (.value v) w' ∧ Pushed w w' ob ∧
    ∀ id, σ id = none → BR (σ.put id (w.heap.size, 0)) Z w' ao (w.heap.size, 0) ∧ VR (σ.put id (w.heap.size, 0)) Z w' (f id) v

theorem csize_new {w' : World} {c : Array Value} {t : TypeId} {fr : Nat × Nat} (p : Pushed w w' (.cells c t fr)) : csize w' w.heap.size = c.size := by
  simp [csize, p.new]

end
end Go.Ab
/-! Operations that make one thing: all of them. -/
namespace Go.Ab
section
variable {P : Program} {T : Tab} {σ : Sig} {Z : Nat → Prop} {h : Heap} {w : World} {e : List AV} {a : Act}

theorem pushed_alloc (w : World) (o : Obj) : Pushed w { w with heap := w.heap.push o } o := ⟨rfl, rfl, rfl, rfl⟩

theorem row_VR (id : Nat) (b : Nat) {w' : World} : VR (σ.put id (b, 0)) Z w' (.ptr id 0) (.pointer (some ⟨b, 0, none⟩)) := by
  simp only [VR]
  exact ⟨(b, 0), Sig.put_eq, rfl⟩

theorem sl_VR (id b es l c cm : Nat) (ex : Bool) {w' : World} (h1 : l ≤ cm) (h2 : cm ≤ c) (h3 : ex = true → c = cm) (hc : c * es ≤ csize w' b) : VR (σ.put id (b, 0)) Z w' (.sl id 0 es l cm ex) (.slice (some ⟨b, 0, none⟩) l c) := by
  simp only [VR]
  exact ⟨(b, 0), _, c, Sig.put_eq, rfl, rfl, h1, h2, h3, fun _ => rfl, by simpa using hc⟩

theorem run_bytes (hT : T.ok P) {t : TypeId} {n : Nat} (h : T.bytes t = some n) : ∃ i, P.info? t = some i ∧ i.bytes = n := hT.bytes _ _ h

theorem modify_push (xs : Array Obj) (x : Obj) (f : Obj → Obj) : (xs.push x).modify xs.size f = xs.push (f x) := by
  apply Array.ext
  · simp
  · intro i h1 h2
    rw [Array.getElem_modify]
    by_cases hi : i = xs.size
    · subst hi; simp
    · rw [if_neg (fun e => hi e.symm)]
      rw [Array.getElem_push_lt (by simp at h1; omega), Array.getElem_push_lt (by simp at h1; omega)]

theorem mk_sound (hT : T.ok P) (hR : R σ Z h w) (he : ER σ Z w e a) {o : Oper} {ao : AO} {f : Nat → AV} (hl : mkOp T e h o.op = some (ao, f)) : Makes P σ Z w o a ao f := by
  unfold mkOp at hl
  split at hl
  · rename_i elem ho
    simp only [Option.map_eq_some_iff, Option.bind_eq_some_iff] at hl
    obtain ⟨zz, hzz, z, hzc, h1⟩ := hl
    injection h1 with h1 h2; subst h1; subst h2
    have hz : (T.zero elem).bind AV.cells = some z := by rw [hzz]; exact hzc
    have hzw : z.length = zz.width := by
      obtain ⟨i, v, hi, hv, hr⟩ := hT.zero _ _ hzz
      exact VR.width (hr (fun _ => none) (fun _ => False) default) hzc
    obtain ⟨zv, hz1, hz2, hz3⟩ := run_zeroCells hT hz
    refine ⟨.pointer (some ⟨w.heap.size, 0, none⟩), _, _, ?_, pushed_alloc w (.cells zv.cells elem), fun id hid => ⟨BR_new (pushed_alloc _ _) hR.zlt (put_ext hid) (by rw [lst_toList hzw]; exact hz2 σ Z w) hz3, row_VR _ _⟩⟩
    simp [execOp, ho, Instr.alloc, hz1, newVar, newRow]
  · rename_i elem x ho
    simp only [Option.map_eq_some_iff, Option.bind_eq_some_iff] at hl
    obtain ⟨ax, hx, z, hz, h1⟩ := hl
    injection h1 with h1 h2; subst h1; subst h2
    have hv := VR.cells (opd_VR he hx) hz
    have hzw := VR.width (opd_VR he hx) hz
    refine ⟨.pointer (some ⟨w.heap.size, 0, none⟩), _, _, ?_, pushed_alloc w (.cells (a.eval x).cells elem), fun id hid => ⟨BR_new (pushed_alloc _ _) hR.zlt (put_ext hid) (by rw [lst_toList hzw]; exact hv.1) hv.2, row_VR _ _⟩⟩
    simp [execOp, ho, Instr.box, newVar, newRow]
  · rename_i t len parts ho
    split at hl
    · rename_i elem hd
      split at hl
      · rename_i es z ps hes hz hps
        split at hl
        · rename_i hle
          simp only [Option.map_eq_some_iff] at hl
          obtain ⟨cs, hcs, h1⟩ := hl
          injection h1 with h1 h2; subst h1; subst h2
          obtain ⟨zv, hz1, hz2, hz3⟩ := run_zeroCells hT hz
          have hp := aParts_sound he hps
          have hr : VRs σ Z w (reps (len * es) z) ((Array.range (len * es)).map ((if len * es = 0 then #[] else zv.cells)[· % (if len * es = 0 then #[] else zv.cells).size]!)).toList := by
            by_cases h0 : len * es = 0
            · simp [h0, reps, VRs]
            · simp only [h0, if_false]
              have := reps_VRs (hz2 σ Z w) (len * es)
              simpa using this
          have hr1 : ones ((Array.range (len * es)).map ((if len * es = 0 then #[] else zv.cells)[· % (if len * es = 0 then #[] else zv.cells).size]!)).toList := by
            by_cases h0 : len * es = 0
            · simp [h0, ones_nil]
            · simp only [h0, if_false]
              have := reps_ones hz3 (len * es)
              simpa using this
          obtain ⟨vout, hv1, hv2, hv3, hv4⟩ := aFill_sound (place := fun i => some (i * es, es)) hp hr hr1 (by simp [reps]) hcs
          have hsz : vout.size = len * es := by
            have h1 := VRs.length hv2
            have h2 : cs.length = len * es := hv4
            simpa [h2] using h1
          refine ⟨.slice (some ⟨w.heap.size, 0, none⟩) len len, _, _, ?_, pushed_alloc w (.cells vout elem), fun id hid => ⟨BR_new (pushed_alloc _ _) hR.zlt (put_ext hid) (by rw [lst_toList hv4]; exact hv2) hv3, sl_VR _ _ _ _ _ _ _ (Nat.le_refl _) (Nat.le_refl _) (fun _ => rfl) (by rw [csize_new (pushed_alloc w (.cells vout elem)), hsz]; exact Nat.le_refl _)⟩⟩
          have hv1' : Instr.fill (fun i => some (i * es, es)) ((Array.range (len * es)).map ((if len * es = 0 then #[] else zv.cells)[· % (if len * es = 0 then #[] else zv.cells).size]!)) (parts.map fun (i, x) => (i, a.eval x)).toList = some vout := by
            have : (parts.map fun (i, x) => (i, a.eval x)).toList = parts.toList.map fun p => (p.1, a.eval p.2) := by simp
            rw [this]; exact hv1
          have hle' : ¬ (16777216 < len * es) := by omega
          by_cases h0 : len * es = 0
          · simp only [h0, if_true] at hv1'
            simp only [execOp, ho, Instr.buildSlice, Sem.run_bind, run_und hT hd, Result.andThen_ok, run_size hT hes, Sem.run_ite, Sem.run_pure, h0, if_true, hv1', newRow, run_newObj]
            rfl
          · simp only [h0, if_false] at hv1'
            simp only [execOp, ho, Instr.buildSlice, Sem.run_bind, run_und hT hd, Result.andThen_ok, run_size hT hes, Sem.run_ite, Sem.run_pure, h0, if_false, hz1, hv1', newRow, run_newObj]
            rw [if_neg (by omega)]
            rfl
        · cases hl
      · cases hl
    · cases hl
  · rename_i t l c ho
    split at hl
    · rename_i elem kl lv kc cv hd hlv hcv
      split at hl
      · rename_i es bs z hes hbs hz
        split at hl
        · rename_i hb
          injection hl with hl; injection hl with h1 h2; subst h1; subst h2
          have el := opd_VR he hlv
          have ec := opd_VR he hcv
          simp only [VR] at el ec
          obtain ⟨i, hi, hib⟩ := hT.bytes _ _ hbs
          obtain ⟨i', hi', his⟩ := hT.size _ _ hes
          rw [hi] at hi'; injection hi' with hi'; subst hi'
          simp only [Option.bind_eq_some_iff] at hz
          obtain ⟨zv0, hz0, hzc⟩ := hz
          obtain ⟨i'', zv, hi'', hzv, hzr⟩ := hT.zero _ _ hz0
          rw [hi] at hi''; injection hi'' with hi''; subst hi''
          obtain ⟨hzs, hz1⟩ := VR.cells (hzr σ Z w) hzc
          obtain ⟨m, rfl⟩ : ∃ m : Nat, cv = m := ⟨cv.toNat, by omega⟩
          obtain ⟨k, rfl⟩ : ∃ k : Nat, lv = k := ⟨lv.toNat, by omega⟩
          have wl : IntKind.i64.wrap (k : Int) = k := by simp [IntKind.wrap, IntKind.bits, IntKind.signed]; omega
          have wc : IntKind.i64.wrap (m : Int) = m := by simp [IntKind.wrap, IntKind.bits, IntKind.signed]; omega
          have hbm : ¬ ((bs : Int) * (m : Int) > 2 ^ 48) := by have := hb.2.2.2; omega
          refine ⟨.slice (some ⟨w.heap.size, 0, none⟩) k m, _, _, ?_, pushed_alloc w (.cells ((Array.range (m * es)).map ((if m * es = 0 then #[] else zv.cells)[· % (if m * es = 0 then #[] else zv.cells).size]!)) elem), fun id hid => ⟨BR_new (pushed_alloc _ _) hR.zlt (put_ext hid) ?_ ?_, sl_VR _ _ _ _ _ _ _ (by omega) (Nat.le_refl _) (fun _ => rfl) (by rw [csize_new (pushed_alloc w _)]; simp)⟩⟩
          · simp only [execOp, ho, Instr.makeSlice, el, ec, asInt, asIntOf]
            have h1 : ¬ ((m : Int) < 0) := by omega
            have h2 : ¬ ((k : Int) < 0) := by omega
            have h3 : ¬ ((k : Int) > (m : Int)) := by omega
            subst hib; subst his
            have hlt : ((281474976710656 : Int) < (i.bytes : Int) * (m : Int)) = False := by
              rw [eq_iff_iff, iff_false]; omega
            by_cases h0 : m * i.size = 0
            · simp [run_und hT hd, typeInfo, hi, wl, wc, h1, h2, h3, hlt, sizeOf, h0, newRow]
            · simp [run_und hT hd, typeInfo, hi, wl, wc, h1, h2, h3, hlt, sizeOf, zeroValue, hzv, h0, newRow]
          · have hcs : (if T.bigs then Cs.ov ((m : Int).toNat * es) z.length z [] else .lst ((m : Int).toNat * es) (reps ((m : Int).toNat * es) z)).toList = reps (m * es) z := by
              split
              · rw [big_toList]; rfl
              · rw [lst_toList (by simp [reps])]; rfl
            rw [hcs]
            by_cases h0 : m * es = 0
            · simp [h0, reps, VRs]
            · simp only [h0, if_false]
              have := reps_VRs hzs (m * es)
              simpa using this
          · by_cases h0 : m * es = 0
            · simp [h0, ones_nil]
            · simp only [h0, if_false]
              have := reps_ones hz1 (m * es)
              simpa using this
        · cases hl
      · cases hl
    · cases hl
  · rename_i t ho
    split at hl
    · rename_i k v hd
      injection hl with hl; injection hl with h1 h2; subst h1; subst h2
      refine ⟨.map (some w.heap.size), _, _, ?_, pushed_alloc w (.map #[] 0), fun id hid => ⟨⟨rfl, #[], (pushed_alloc w _).new, by simp [MRs]⟩, by simp only [VR]; exact ⟨_, Sig.put_eq, rfl⟩⟩⟩
      simp [execOp, ho, Instr.makeMap]
    · cases hl
  · rename_i t x ho
    split at hl
    · rename_i k v ki n hd hx
      injection hl with hl; injection hl with h1 h2; subst h1; subst h2
      have ex := opd_VR he hx
      simp only [VR] at ex
      refine ⟨.map (some w.heap.size), _, _, ?_, pushed_alloc w (.map #[] 0), fun id hid => ⟨⟨rfl, #[], (pushed_alloc w _).new, by simp [MRs]⟩, by simp only [VR]; exact ⟨_, Sig.put_eq, rfl⟩⟩⟩
      simp [execOp, ho, Instr.makeMap, run_und hT hd, ex, asInt, asIntOf]
    · cases hl
  · rename_i src dst x ho
    split at hl
    · rename_i sd b s hsd hdd hx
      split at hl
      · rename_i hb
        injection hl with hl; injection hl with h1 h2; subst h1; subst h2
        have ex := opd_VR he hx
        simp only [VR] at ex
        generalize hcap : Question.cut (.appendCap s.size 0 b) (w.tape w.drawn (.appendCap s.size 0 b)) = cap
        have hcap' : s.size ≤ cap := by rw [← hcap]; simp [Question.cut]
        let cells : Array Value := (s.data.map fun c => Value.int .u8 c.toNat) ++ Array.replicate (cap - s.size) (.int .u8 0)
        have hcsz : cells.size = cap := by
          have : s.data.size = s.size := rfl
          simp [cells, this]; omega
        have p : Pushed w { w with heap := w.heap.push (.cells cells b (cap, cap + 1)), drawn := w.drawn + 1 } (.cells cells b (cap, cap + 1)) := ⟨rfl, rfl, rfl, rfl⟩
        refine ⟨.slice (some ⟨w.heap.size, 0, none⟩) s.size cap, _, _, ?_, p, fun id hid => ⟨?_, sl_VR _ _ _ _ _ _ _ (Nat.le_refl _) hcap' (by simp) (by rw [csize_new p, hcsz]; simp)⟩⟩
        · have hconv : convert src dst (.string s) = Conv.stringToBytes b s ∨ True := .inr trivial
          simp only [execOp, ho, convert, ex]
          simp only [Sem.run_bind, run_und hT hsd, run_und hT hdd, Result.andThen_ok, run_und hT hb, Conv.stringToBytes, run_choose, Question.forced, Bool.false_eq_true, if_false, hcap, newRow, run_newObj, Sem.run_pure, markStringish, run_shape]
          have hsh : World.shape? { w with heap := w.heap.push (.cells cells b), drawn := w.drawn + 1 } w.heap.size = some (b, cap) := by
            simp [World.shape?, hcsz]
          simp only [cells] at hsh ⊢
          simp only [hsh, Sem.run_bind, run_freeze, Result.andThen_ok, Sem.run_pure]
          congr 1
          simp only [World.freeze]
          rw [if_neg (by omega)]
          congr 1
          rw [modify_push]
          simp
        · refine ⟨cells, b, (cap, cap + 1), (s.data.toList.map fun c => Value.int .u8 c.toNat), p.new, by simp, fun k hk => by simp; omega, ?_, ?_, ?_, fun i v hi => ?_⟩
          · have hts : (s.data.toList.map fun c => AV.int .u8 c.toNat).length = s.size := by
              have : s.data.size = s.size := rfl
              simp [this]
            rw [lst_toList hts]
            refine VRs.of_get (by simp) fun i x y hx hy => ?_
            simp only [ List.getElem?_map, Option.map_eq_some_iff] at hx hy
            obtain ⟨c1, hc1, rfl⟩ := hx
            obtain ⟨c2, hc2, rfl⟩ := hy
            rw [hc1] at hc2; injection hc2 with hc2; subst hc2
            simp only [VR]
          · rw [hcsz]; simp; exact hcap'
          · intro v hv
            simp only [List.mem_map] at hv
            obtain ⟨b1, _, rfl⟩ := hv
            rfl
          · have hi' : i < s.data.size := by
              have := (List.getElem?_eq_some_iff.1 hi).1
              simpa using this
            simp only [Nat.zero_add, cells]
            rw [Array.getElem?_append_left (by simpa using hi')]
            simpa using hi
      · cases hl
    · cases hl
  · rename_i t x ho
    split at hl
    · rename_i k v hd hx
      injection hl with hl; injection hl with h1 h2; subst h1; subst h2
      have ex := opd_VR he hx
      simp only [VR] at ex
      refine ⟨.pointer (some ⟨w.heap.size, 0, none⟩), _, _, ?_, pushed_alloc w (.mapIter none 0 #[] 0), fun id hid => ⟨⟨rfl, none, (pushed_alloc w _).new, rfl⟩, row_VR _ _⟩⟩
      simp [execOp, ho, Instr.range, run_und hT hd, ex]
    · rename_i k v id0 hd hx
      split at hl
      · rename_i es clock hg
        injection hl with hl; injection hl with h1 h2; subst h1; subst h2
        have ex := opd_VR he hx
        simp only [VR] at ex
        obtain ⟨p, hp, ex⟩ := ex
        obtain ⟨q, hq, hbr⟩ := hR.live _ _ hg
        rw [hp] at hq; injection hq with hq; subst hq
        obtain ⟨_, ents, g1, g2⟩ := hbr
        refine ⟨.pointer (some ⟨w.heap.size, 0, none⟩), _, _, ?_, pushed_alloc w (.mapIter (some p.1) clock #[] clock), fun id hid => ⟨⟨rfl, some p.1, (pushed_alloc w _).new, p, put_ext hid _ _ hp, rfl⟩, row_VR _ _⟩⟩
        simp [execOp, ho, Instr.range, run_und hT hd, ex, run_getMap g1]
      · cases hl
    · cases hl
  · cases hl

end
end Go.Ab
/-! Operations that write. -/
namespace Go.Ab
section
variable {P : Program} {T : Tab} {σ : Sig} {Z : Nat → Prop} {h : Heap} {w : World} {e : List AV} {a : Act}

/-- 'w'' is 'w' with another thing in block 'b'. -/
structure Upd (w w' : World) (b : Nat) (o : Obj) : Prop where
  size : w'.heap.size = w.heap.size
  other : ∀ k, k ≠ b → w'.heap[k]? = w.heap[k]?
  at_ : w'.heap[b]? = some o
  os : w'.os = w.os
  tape : w'.tape = w.tape
  output : w'.output = w.output

theorem Upd.same {w : World} {b : Nat} {o : Obj} (hb : w.heap[b]? = some o) : Upd w w b o := ⟨rfl, fun _ _ => rfl, hb, rfl, rfl, rfl⟩

theorem Upd.trans {w w1 w2 : World} {b : Nat} {o o2 : Obj} (u : Upd w w1 b o) (v : Upd w1 w2 b o2) : Upd w w2 b o2 :=
  ⟨v.size.trans u.size, fun k hk => (v.other k hk).trans (u.other k hk), v.at_, v.os.trans u.os, v.tape.trans u.tape, v.output.trans u.output⟩

theorem upd_setCell {b o : Nat} {c : Array Value} {t : TypeId} {fr : Nat × Nat} {v : Value} (hb : w.heap[b]? = some (.cells c t fr)) : Upd w (w.setCell ⟨b, o, none⟩ v) b (.cells (c.setIfInBounds o v) t fr) := by
  have hlt := (Array.getElem?_eq_some_iff.1 hb).1
  refine ⟨by simp [World.setCell], fun k hk => ?_, ?_, rfl, rfl, rfl⟩
  · simp only [World.setCell, Array.getElem?_modify]
    rw [if_neg (fun e => hk e.symm)]
  · simp only [World.setCell, Array.getElem?_modify]
    rw [if_pos trivial, hb]
    simp

theorem run_storeCells_row {b o : Nat} {t : TypeId} {fr : Nat × Nat} : ∀ (vs : List Value) (i : Nat) (c : Array Value) (w : World), w.heap[b]? = some (.cells c t fr) → (∀ k, k < c.size → ¬(fr.1 ≤ k ∧ k < fr.2)) →
    o + i + vs.length ≤ c.size → ones vs → ∃ w' c', (storeCells ⟨b, o, none⟩ vs i).run P w = .ok () w' ∧ Upd w w' b (.cells c' t fr) ∧ c'.toList = c.toList.take (o + i) ++ vs ++ c.toList.drop (o + i + vs.length)
  | [], i, c, w, hb, hf, hl, h1 => ⟨w, c, rfl, Upd.same hb, by simp⟩
  | v :: vs, i, c, w, hb, hf, hl, h1 => by
    have hlt : o + i < c.size := by simp at hl; omega
    have hcell : w.cell? ⟨b, o + i, none⟩ = some c[o + i] := by
      simp [World.cell?, hb, hlt]
    have hfroz : w.frozen? ⟨b, o + i, none⟩ = false := by
      have := hf (o + i) hlt
      simp only [World.frozen?, hb]
      simpa using this
    have hu := upd_setCell (o := o + i) (v := v) hb
    obtain ⟨w', c', hr, hu', hc'⟩ := run_storeCells_row (b := b) (o := o) vs (i + 1) (c.setIfInBounds (o + i) v) (w.setCell ⟨b, o + i, none⟩ v) hu.at_
      (fun k hk => hf k (by simpa using hk)) (by simp at hl ⊢; omega) (fun u hu => h1 u (List.mem_cons_of_mem _ hu))
    refine ⟨w', c', ?_, hu.trans hu', ?_⟩
    · simp only [storeCells, Sem.run_bind, add_eq, run_store P w _ v .plain (h1 v (List.mem_cons_self ..)), hcell, hfroz, Bool.false_eq_true, if_false, Result.andThen_ok]
      exact hr
    · rw [hc']
      simp only [Array.toList_setIfInBounds]
      have e1 : (c.toList.set (o + i) v).take (o + (i + 1)) = c.toList.take (o + i) ++ [v] := by
        rw [← Nat.add_assoc, List.take_succ_eq_append_getElem (by simpa using hlt)]
        congr 1
        · rw [List.take_set_of_le (Nat.le_refl _)]
        · simp
      have e2 : (c.toList.set (o + i) v).drop (o + (i + 1) + vs.length) = c.toList.drop (o + i + (v :: vs).length) := by
        rw [List.drop_set_of_lt (by omega)]
        congr 1
        simp; omega
      rw [e1, e2]
      simp

theorem Upd.csz {w w' : World} {b : Nat} {o o' : Obj} (u : Upd w w' b o') (hb : w.heap[b]? = some o) (hs : ∀ c t fr, o = .cells c t fr → ∃ c' t' fr', o' = .cells c' t' fr' ∧ c.size ≤ c'.size) (k : Nat) : csize w k ≤ csize w' k := by
  by_cases hk : k = b
  · subst hk
    unfold csize
    rw [u.at_, hb]
    cases o with
    | cells c t fr =>
      obtain ⟨c', t', fr', rfl, hle⟩ := hs c t fr rfl
      exact hle
    | _ => exact Nat.zero_le _
  · unfold csize; rw [u.other k hk]; exact Nat.le_refl _

/-- The thing under a live number is another one. -/
theorem update_state {N : Nat} (hR : R σ Z h w) {id : Nat} {ao ao' : AO} {p : Nat × Nat} (hid : h.get id = some (some ao)) (hp : σ id = some p) (hn : h.next < 1000000000000) (hNn : N ≤ h.next) {w' : World} {ob ob' : Obj}
    (hob : w.heap[p.1]? = some ob) (u : Upd w w' p.1 ob') (hs : ∀ c t fr, ob = .cells c t fr → ∃ c' t' fr', ob' = .cells c' t' fr' ∧ c.size ≤ c'.size)
    (hb : Grow σ Z w σ Z w' → BR σ Z w' ao' p) :
    R σ Z (h.set id (some ao')) w' ∧ Ext N σ Z h w σ Z (h.set id (some ao')) w' := by
  have hlt : id < h.next := by
    rcases Nat.lt_or_ge id h.next with h1 | h1
    · exact h1
    · have := hR.top id h1; rw [hid] at this; cases this
  have hz : ∀ b, Z b → b ≠ p.1 := fun b hb e => hR.own _ _ _ hid hp (e ▸ hb)
  have hg : Grow σ Z w σ Z w' := ⟨fun _ _ h => h, fun _ h => h, fun b hb => u.other b (hz b hb), u.csz hob hs⟩
  have G : ∀ i, i ≠ id → (h.set id (some ao')).get i = h.get i := fun i hi => Heap.get_set_ne _ _ (fun e => hi e.symm)
  have GE : (h.set id (some ao')).get id = some (some ao') := Heap.get_set_eq _ _ (by omega)
  have L : ∀ i oi, (h.set id (some ao')).get i = some (some oi) → ∃ o', h.get i = some (some o') := fun i oi hi => by
    by_cases e : i = id
    · subst e; exact ⟨ao, hid⟩
    · rw [G i e] at hi; exact ⟨oi, hi⟩
  refine ⟨⟨fun i hi => ?_, fun i hi => ?_, fun i oi hi => ?_, fun i j oi oj q r hi hj hq hr hqr => ?_, fun i oi q hi hq => ?_, fun b hb => ?_, hn⟩, ⟨fun _ _ h => h, fun _ h => h, fun _ h => .inl h, fun b hb => ?_, fun b hb hno => ?_, ?_, hg.csz, fun i hi hfr => ?_, hNn, u.os, u.tape, u.output⟩⟩
  · by_cases e : i = id
    · subst e; rw [GE] at hi; cases hi
    · rw [G i e] at hi; exact hR.nofresh i hi
  · have hi' : h.next ≤ i := hi
    rw [G i (by omega)]; exact hR.top i hi'
  · by_cases e : i = id
    · subst e; rw [GE] at hi; injection hi with hi; injection hi with hi; subst hi
      exact ⟨p, hp, hb hg⟩
    · rw [G i e] at hi
      obtain ⟨q, hq, hbr⟩ := hR.live i oi hi
      refine ⟨q, hq, hbr.grow hg (u.other _ fun e2 => e (hR.inj _ _ _ _ _ _ hi hid hq hp e2))⟩
  · obtain ⟨oi', hi'⟩ := L _ _ hi
    obtain ⟨oj', hj'⟩ := L _ _ hj
    exact hR.inj _ _ _ _ _ _ hi' hj' hq hr hqr
  · obtain ⟨oi', hi'⟩ := L _ _ hi
    exact hR.own _ _ _ hi' hq
  · rw [u.size]; exact hR.zlt b hb
  · obtain ⟨i, oi, q, h1, h2, h3⟩ := hb
    obtain ⟨oi', hi'⟩ := L _ _ h1
    exact .inr ⟨i, oi', q, hi', h2, h3⟩
  · exact u.other b fun e => hno ⟨id, ao, p, hid, hp, e.symm⟩
  · rw [u.size]; exact Nat.le_refl _
  · rw [G i]
    · exact hfr
    · intro e; subst e; rw [hid] at hfr; cases hfr

/-- Cells of one of our rows are written. -/
theorem write_state {N : Nat} (hR : R σ Z h w) {id : Nat} {sg : Bool} {cs cs' : Cs} {p : Nat × Nat} (hid : h.get id = some (some (.row sg cs))) (hp : σ id = some p) (hn : h.next < 1000000000000) (hNn : N ≤ h.next) {off k : Nat} {l : List AV} {vs : List Value}
    (hkl : l.length = k) (hw : cs.write off k l = some cs') (hl : VRs σ Z w l vs) (h1 : ones vs) :
    ∃ w', (storeCells ⟨p.1, p.2 + off, none⟩ vs).run P w = .ok () w' ∧ R σ Z (h.set id (some (.row sg cs'))) w' ∧ Ext N σ Z h w σ Z (h.set id (some (.row sg cs'))) w' := by
  obtain ⟨q, hq, hbr⟩ := hR.live _ _ hid
  rw [hp] at hq; injection hq with hq; subst hq
  obtain ⟨c, t, fr, us, g1, g2, g3, g4, g5, g6, g7⟩ := hbr
  obtain ⟨k1, k2⟩ := Cs.write_eq hkl hw
  have hlen := VRs.length hl
  have hlu := VRs.length g4
  have hfit : p.2 + off + vs.length ≤ c.size := by omega
  obtain ⟨w', c', hr, hu, hc'⟩ := run_storeCells_row (P := P) (o := p.2 + off) vs 0 c w g1 g3 (by simpa using hfit) h1
  have hcsz : c'.size = c.size := by
    have := congrArg List.length hc'
    simp at this
    omega
  refine ⟨w', hr, update_state hR hid hp hn hNn g1 hu (fun c0 t0 fr0 e0 => by injection e0 with e1 _ _; subst e1; exact ⟨_, _, _, rfl, by omega⟩) fun hg => ?_⟩
  refine ⟨c', t, fr, us.take off ++ vs ++ us.drop (off + vs.length), hu.at_, g2, by rw [hcsz]; exact g3, ?_, ?_, ((g6.take _).append h1).append (g6.drop _), fun i v hi => ?_⟩
  · rw [k1, ← hlen]
    exact VRs.append (VRs.append (VRs.take _ (VRs.grow hg g4)) (VRs.grow hg hl)) (VRs.drop _ (VRs.grow hg g4))
  · simp; omega
  · have hc2 : c'[p.2 + i]? = c'.toList[p.2 + i]? := by simp
    rw [hc2, hc']
    simp only [Nat.add_zero]
    by_cases i1 : i < off
    · rw [List.append_assoc, List.getElem?_append_left (by simp; omega)] at hi
      rw [List.getElem?_take, if_pos i1] at hi
      rw [List.append_assoc, List.getElem?_append_left (by simp; omega), List.getElem?_take, if_pos (by omega)]
      simpa using g7 i v hi
    · by_cases i2 : i < off + vs.length
      · rw [List.append_assoc, List.getElem?_append_right (by simp; omega), List.getElem?_append_left (by simp; omega)] at hi
        rw [List.append_assoc, List.getElem?_append_right (by simp; omega), List.getElem?_append_left (by simp; omega)]
        simp only [List.length_take, Array.length_toList] at hi ⊢
        have e1 : p.2 + i - min (p.2 + off) c.size = i - min off us.length := by omega
        rw [e1]; exact hi
      · rw [List.getElem?_append_right (by simp; omega), List.getElem?_drop] at hi
        rw [List.getElem?_append_right (by simp; omega), List.getElem?_drop]
        simp only [List.length_append, List.length_take, Array.length_toList] at hi ⊢
        have e1 : off + vs.length + (i - (min off us.length + vs.length)) = i := by omega
        rw [e1] at hi
        have e2 : p.2 + off + vs.length + (p.2 + i - (min (p.2 + off) c.size + vs.length)) = p.2 + i := by omega
        rw [e2]
        simpa using g7 i v hi

end
end Go.Ab
/-! append. -/
namespace Go.Ab
section
variable {P : Program} {T : Tab} {σ : Sig} {Z : Nat → Prop} {h : Heap} {w : World} {e : List AV} {a : Act}

theorem next_le {need c : Nat} (hc : c < need) : Builtin.nextslicecap need c ≤ 2 * need := by
  have grow : ∀ (r k : Nat), 256 ≤ k → k ≤ 2 * need → Builtin.growBy need r k ≤ 2 * need := by
    intro r
    induction r with
    | zero => intro k _ hk; simpa [Builtin.growBy] using hk
    | succ r ih =>
      intro k h1 h2
      simp only [Builtin.growBy]
      split
      · exact h2
      · exact ih _ (by omega) (by omega)
  unfold Builtin.nextslicecap
  split
  · omega
  · split
    · omega
    · exact grow 4 c (by omega) (by omega)

/-- What comes: a slice, a string, or a number of zeros. -/
inductive Comes (P : Program) (T : Tab) (w : World) (elem xt es bs : Nat) (n : Nat) (us : Array Value) : Value → Prop
  | slice (x : Value) (e : TypeId) (hx : T.und xt = some (.slice e)) (hn : (Builtin.lenOf x).run P w = .ok n w) (hc : ∀ W : World, W.heap = w.heap → (Builtin.firstCells es n x).run P W = .ok us W) : Comes P T w elem xt es bs n us x
  | str (x : Value) (hx : T.und xt = some .string) (hn : (Builtin.lenOf x).run P w = .ok n w) (hc : ∀ W : World, W.heap = w.heap → (Builtin.firstCells es n x).run P W = .ok us W) : Comes P T w elem xt es bs n us x
  | zeros (k kx : IntKind) (hx : T.und xt = some (.int k)) (hn : n < 4611686018427387904) (hnb : n * bs ≤ 140737488355328) (zv : Value) (hz : ∀ W : World, (zeroValue elem).run P W = .ok zv W) (hus : us = if n * es = 0 then #[] else Builtin.zeroCells zv.cells n) : Comes P T w elem xt es bs n us (.int kx n)

theorem wrap_small {n : Nat} (hn : n < 4611686018427387904) : IntKind.i64.wrap (n : Int) = n := by simp [IntKind.wrap, IntKind.bits, IntKind.signed]; omega

set_option maxRecDepth 100000 in
theorem append_room (hT : T.ok P) {st xt ty elem es bs sLen sCap n : Nat} {ad : Addr} {x : Value} {us : Array Value} {w' : World} (hd : T.und st = some (.slice elem)) (hs : T.size elem = some es) (hb : T.bytes elem = some bs)
    (hc : Comes P T w elem xt es bs n us x) (hr : sLen + n ≤ sCap) (hst : (storeCells (ad.add (sLen * es)) us.toList).run P w = .ok () w') :
    (Builtin.append_ #[st, xt] ty #[.slice (some ad) sLen sCap, x]).run P w = .ok (.slice (some ad) (sLen + n) sCap) w' := by
  obtain ⟨i, hi, hib⟩ := hT.bytes _ _ hb
  cases hc with
  | slice _ e hx hn hc => simp [Builtin.append_, run_und hT hd, run_und hT hx, run_size hT hs, hn, hr, hc w rfl, hst]
  | str _ hx hn hc => simp [Builtin.append_, run_und hT hd, run_und hT hx, run_size hT hs, hn, hr, hc w rfl, hst]
  | zeros k kx hx hn hnb zv hz hus =>
    have h2 : ((281474976710656 : Int) < (n : Int) * (i.bytes : Int)) = False := by
      rw [eq_iff_iff, iff_false, hib, ← Int.natCast_mul]
      generalize n * bs = q at hnb
      omega
    have h3 : ((n : Int) < 0) = False := by rw [eq_iff_iff, iff_false]; omega
    by_cases h0 : n * es = 0
    · simp only [h0, if_true] at hus; subst hus
      simp [Builtin.append_, run_und hT hd, run_und hT hx, run_size hT hs, asInt, asIntOf, wrap_small hn, typeInfo, hi, h2, h3, hr, h0, hst]
    · simp only [h0, if_false] at hus; subst hus
      simp [Builtin.append_, run_und hT hd, run_und hT hx, run_size hT hs, asInt, asIntOf, wrap_small hn, typeInfo, hi, h2, h3, hr, h0, hz, hst]

set_option maxRecDepth 100000 in
theorem append_none (hT : T.ok P) {st xt ty elem es bs : Nat} {x : Value} {us : Array Value} (hd : T.und st = some (.slice elem)) (hs : T.size elem = some es) (hb : T.bytes elem = some bs)
    (hc : Comes P T w elem xt es bs 0 us x) : (Builtin.append_ #[st, xt] ty #[.slice none 0 0, x]).run P w = .ok (.slice none 0 0) w := by
  obtain ⟨i, hi, hib⟩ := hT.bytes _ _ hb
  cases hc with
  | slice _ e hx hn hc => simp [Builtin.append_, run_und hT hd, run_und hT hx, run_size hT hs, hn, hc w rfl]
  | str _ hx hn hc => simp [Builtin.append_, run_und hT hd, run_und hT hx, run_size hT hs, hn, hc w rfl]
  | zeros k kx hx hn hnb zv hz hus =>
    have w0 : IntKind.i64.wrap 0 = 0 := by decide
    simp [Builtin.append_, run_und hT hd, run_und hT hx, run_size hT hs, asInt, asIntOf, w0, typeInfo, hi]

set_option maxRecDepth 100000 in
/-- There is no room: a new row. -/
theorem append_grow (hT : T.ok P) {st xt ty elem es bs sLen sCap n : Nat} {base : Option Addr} {x : Value} {us old : Array Value} {z : List AV} (hd : T.und st = some (.slice elem)) (hs : T.size elem = some es) (hb : T.bytes elem = some bs)
    (hz : (T.zero elem).bind AV.cells = some z) (hzl : z.length = es) (hc : Comes P T w elem xt es bs n us x) (hr : ¬ sLen + n ≤ sCap)
    (ho : ∀ W : World, W.heap = w.heap → (Builtin.firstCells es sLen (.slice base sLen sCap)).run P W = .ok old W) (hl : (sLen + n) * (bs + 1) ≤ 140737488355328)
    (hus : us.size = n * es) (hold : old.size = sLen * es) :
    ∃ w' rest cap, (Builtin.append_ #[st, xt] ty #[.slice base sLen sCap, x]).run P w = .ok (.slice (some ⟨w.heap.size, 0, none⟩) (sLen + n) cap) w' ∧ Pushed w w' (.cells (old ++ us ++ rest) elem) ∧ sLen + n ≤ cap ∧ cap * es = (old ++ us ++ rest).size := by
  obtain ⟨i, hi, hib⟩ := hT.bytes _ _ hb
  obtain ⟨zv, hz1, hz2, hz3⟩ := run_zeroCells hT hz
  have hzs : zv.cells.size = es := by
    have := VRs.length (hz2 (fun _ => none) (fun _ => False) w)
    simpa [hzl] using this
  have hb1 : (sLen + n) * bs + (sLen + n) ≤ 140737488355328 := by rw [Nat.mul_add, Nat.mul_one] at hl; exact hl
  have h1 : (9223372036854775807 < (sLen : Int) + (n : Int)) = False := by
    rw [eq_iff_iff, iff_false]
    have h9 : sLen + n ≤ 140737488355328 := Nat.le_trans (Nat.le_add_left _ _) hb1
    omega
  have h2 : (281474976710656 < Builtin.nextslicecap (sLen + n) sCap * i.bytes) = False := by
    rw [eq_iff_iff, iff_false]
    have := next_le (need := sLen + n) (c := sCap) (by omega)
    have h3 : Builtin.nextslicecap (sLen + n) sCap * i.bytes ≤ 2 * (sLen + n) * i.bytes := Nat.mul_le_mul_right _ this
    rw [hib] at h3 ⊢
    rw [Nat.mul_assoc] at h3
    omega
  have hm : IntKind.i64.max = 9223372036854775807 := by decide
  generalize hcap : Question.cut (.appendCap (sLen + n) sCap elem) (w.tape w.drawn (.appendCap (sLen + n) sCap elem)) = cap
  have hcap' : sLen + n ≤ cap := by rw [← hcap]; simp [Question.cut]
  have ho1 := ho w.drew rfl
  refine ⟨w.drew.alloc (.cells (old ++ us ++ Builtin.zeroCells zv.cells (cap - (sLen + n))) elem), Builtin.zeroCells zv.cells (cap - (sLen + n)), cap, ?_, ⟨rfl, rfl, rfl, rfl⟩, hcap', ?_⟩
  · cases hc with
    | slice _ e hx hn hc =>
      have hc1 := hc w.drew rfl
      simp [Builtin.append_, run_und hT hd, run_und hT hx, run_size hT hs, hn, hr, typeInfo, hi, hm, h1, h2, Question.forced, hcap, ho1, hc1, hz1, newRow]
    | str _ hx hn hc =>
      have hc1 := hc w.drew rfl
      simp [Builtin.append_, run_und hT hd, run_und hT hx, run_size hT hs, hn, hr, typeInfo, hi, hm, h1, h2, Question.forced, hcap, ho1, hc1, hz1, newRow]
    | zeros k kx hx hn hnb zv' hz' hus' =>
      have e0 : zv' = zv := by
        have := hz' w; rw [hz1 w] at this; injection this with this _; exact this.symm
      subst e0
      have h4 : ((281474976710656 : Int) < (n : Int) * (i.bytes : Int)) = False := by
        rw [eq_iff_iff, iff_false, hib, ← Int.natCast_mul]
        generalize n * bs = q at hnb
        omega
      have h3 : ((n : Int) < 0) = False := by rw [eq_iff_iff, iff_false]; omega
      by_cases h0 : n * es = 0
      · simp only [h0, if_true] at hus'; subst hus'
        simp [Builtin.append_, run_und hT hd, run_und hT hx, run_size hT hs, asInt, asIntOf, wrap_small hn, typeInfo, hi, h4, h3, hr, hm, h1, h2, Question.forced, hcap, ho1, h0, hz1, newRow]
      · simp only [h0, if_false] at hus'; subst hus'
        simp [Builtin.append_, run_und hT hd, run_und hT hx, run_size hT hs, asInt, asIntOf, wrap_small hn, typeInfo, hi, h4, h3, hr, hm, h1, h2, Question.forced, hcap, ho1, h0, hz1, newRow]
  · simp only [Array.size_append, Builtin.zeroCells, Array.size_map, Array.size_range, hzs, hus, hold]
    rw [← Nat.add_mul, ← Nat.add_mul]
    congr 1; omega

end
end Go.Ab
/-! append, as a step of states. -/
namespace Go.Ab
section
variable {P : Program} {T : Tab} {σ : Sig} {Z : Nat → Prop} {h : Heap} {w : World} {e : List AV} {a : Act}

theorem live_lt (hR : R σ Z h w) {id : Nat} {o : Option AO} (hid : h.get id = some o) : id < h.next := by
  rcases Nat.lt_or_ge id h.next with h1 | h1
  · exact h1
  · have := hR.top id h1; rw [hid] at this; cases this

/-- A number is forgotten. -/
theorem kill_state {N : Nat} (hR : R σ Z h w) {id : Nat} {ao : AO} (hid : h.get id = some (some ao)) (hn : h.next < 1000000000000) (hNn : N ≤ h.next) : R σ Z (h.set id none) w ∧ Ext N σ Z h w σ Z (h.set id none) w := by
  have hlt := live_lt hR hid
  have G : ∀ i, i ≠ id → (h.set id none).get i = h.get i := fun i hi => Heap.get_set_ne _ _ (fun e => hi e.symm)
  have GE : (h.set id none).get id = some none := Heap.get_set_eq _ _ (by omega)
  have L : ∀ i oi, (h.set id none).get i = some (some oi) → h.get i = some (some oi) := fun i oi hi => by
    by_cases e : i = id
    · subst e; rw [GE] at hi; cases hi
    · rwa [G i e] at hi
  refine ⟨⟨fun i hi => ?_, fun i hi => ?_, fun i oi hi => hR.live _ _ (L _ _ hi), fun i j oi oj q r hi hj hq hr hqr => hR.inj _ _ _ _ _ _ (L _ _ hi) (L _ _ hj) hq hr hqr, fun i oi q hi hq => hR.own _ _ _ (L _ _ hi) hq, hR.zlt, hn⟩,
    ⟨fun _ _ h => h, fun _ h => h, fun _ h => .inl h, fun b hb => ?_, fun _ _ _ => rfl, Nat.le_refl _, fun _ => Nat.le_refl _, fun i hi hfr => ?_, hNn, rfl, rfl, rfl⟩⟩
  · by_cases e : i = id
    · subst e; rw [GE] at hi; cases hi
    · rw [G i e] at hi; exact hR.nofresh i hi
  · have hi' : h.next ≤ i := hi
    rw [G i (by omega)]; exact hR.top i hi'
  · obtain ⟨i, oi, q, h1, h2, h3⟩ := hb
    exact .inr ⟨i, oi, q, L _ _ h1, h2, h3⟩
  · rw [G i]
    · exact hfr
    · intro e; subst e; rw [hid] at hfr; cases hfr

/-- A number is forgotten, a new one stands for the same block. -/
theorem replace_state {N : Nat} (hR : R σ Z h w) {i id : Nat} {ao ao' : AO} {p : Nat × Nat} {o' : Nat} (hi : h.get i = some (some ao)) (hp : σ i = some p) (hid : h.get id = none) (hN : N ≤ id) (hlt : id < h.next) (hn : h.next < 1000000000000) {w' : World} {ob ob' : Obj}
    (hob : w.heap[p.1]? = some ob) (u : Upd w w' p.1 ob') (hs : ∀ c t fr, ob = .cells c t fr → ∃ c' t' fr', ob' = .cells c' t' fr' ∧ c.size ≤ c'.size)
    (hb : Grow σ Z w (σ.put id (p.1, o')) Z w' → BR (σ.put id (p.1, o')) Z w' ao' (p.1, o')) :
    R (σ.put id (p.1, o')) Z ((h.set i none).set id (some ao')) w' ∧ Ext N σ Z h w (σ.put id (p.1, o')) Z ((h.set i none).set id (some ao')) w' := by
  have hne : i ≠ id := by intro e; subst e; rw [hi] at hid; cases hid
  have hil := live_lt hR hi
  have hf := hR.nofresh id hid
  have hx := put_ext (p := (p.1, o')) hf
  have hz : ∀ b, Z b → b ≠ p.1 := fun b hb e => hR.own _ _ _ hi hp (e ▸ hb)
  have hg : Grow σ Z w (σ.put id (p.1, o')) Z w' := ⟨hx, fun _ h => h, fun b hb => u.other b (hz b hb), u.csz hob hs⟩
  have GE : ((h.set i none).set id (some ao')).get id = some (some ao') := Heap.get_set_eq _ _ (by omega)
  have GI : ((h.set i none).set id (some ao')).get i = some none := by rw [Heap.get_set_ne _ _ (fun e => hne e.symm), Heap.get_set_eq _ _ (by omega)]
  have G : ∀ j, j ≠ id → j ≠ i → ((h.set i none).set id (some ao')).get j = h.get j := fun j h1 h2 => by
    rw [Heap.get_set_ne _ _ (fun e => h1 e.symm), Heap.get_set_ne _ _ (fun e => h2 e.symm)]
  have L : ∀ j oj, ((h.set i none).set id (some ao')).get j = some (some oj) → (j = id ∧ oj = ao') ∨ (j ≠ id ∧ j ≠ i ∧ h.get j = some (some oj)) := fun j oj hj => by
    by_cases e : j = id
    · subst e; rw [GE] at hj; injection hj with hj; injection hj with hj; exact .inl ⟨rfl, hj.symm⟩
    · by_cases e2 : j = i
      · subst e2; rw [GI] at hj; cases hj
      · rw [G j e e2] at hj; exact .inr ⟨e, e2, hj⟩
  refine ⟨⟨fun j hj => ?_, fun j hj => ?_, fun j oj hj => ?_, fun j k oj ok q r hj hk hq hr hqr => ?_, fun j oj q hj hq => ?_, fun b hb => ?_, hn⟩, ⟨hx, fun _ h => h, fun _ h => .inl h, fun b hb => ?_, fun b hb hno => ?_, ?_, hg.csz, fun j hj hfr => ?_, ?_, u.os, u.tape, u.output⟩⟩
  · by_cases e : j = id
    · subst e; rw [GE] at hj; cases hj
    · rw [Sig.put_ne e]
      by_cases e2 : j = i
      · subst e2; rw [GI] at hj; cases hj
      · rw [G j e e2] at hj; exact hR.nofresh j hj
  · have hj' : h.next ≤ j := hj
    rw [G j (by omega) (by omega)]; exact hR.top j hj'
  · rcases L _ _ hj with ⟨rfl, rfl⟩ | ⟨h1, h2, h3⟩
    · exact ⟨_, Sig.put_eq, hb hg⟩
    · obtain ⟨q, hq, hbr⟩ := hR.live j oj h3
      exact ⟨q, by rw [Sig.put_ne h1]; exact hq, hbr.grow hg (u.other _ fun e2 => h2 (hR.inj _ _ _ _ _ _ h3 hi hq hp e2))⟩
  · rcases L _ _ hj with ⟨rfl, rfl⟩ | ⟨h1, h2, h3⟩
    · rcases L _ _ hk with ⟨rfl, rfl⟩ | ⟨k1, k2, k3⟩
      · rfl
      · rw [Sig.put_eq] at hq; injection hq with hq; subst hq
        rw [Sig.put_ne k1] at hr
        exact absurd (hR.inj _ _ _ _ _ _ k3 hi hr hp hqr.symm) k2
    · rcases L _ _ hk with ⟨rfl, rfl⟩ | ⟨k1, k2, k3⟩
      · rw [Sig.put_eq] at hr; injection hr with hr; subst hr
        rw [Sig.put_ne h1] at hq
        exact absurd (hR.inj _ _ _ _ _ _ h3 hi hq hp hqr) h2
      · rw [Sig.put_ne h1] at hq; rw [Sig.put_ne k1] at hr
        exact hR.inj _ _ _ _ _ _ h3 k3 hq hr hqr
  · rcases L _ _ hj with ⟨rfl, rfl⟩ | ⟨h1, h2, h3⟩
    · rw [Sig.put_eq] at hq; injection hq with hq; subst hq
      show ¬ Z p.1
      exact hR.own i ao p hi hp
    · rw [Sig.put_ne h1] at hq; exact hR.own _ _ _ h3 hq
  · rw [u.size]; exact hR.zlt b hb
  · obtain ⟨j, oj, q, h1, h2, h3⟩ := hb
    rcases L _ _ h1 with ⟨rfl, rfl⟩ | ⟨k1, k2, k3⟩
    · rw [Sig.put_eq] at h2; injection h2 with h2; subst h2
      exact .inr ⟨i, ao, p, hi, hp, h3⟩
    · rw [Sig.put_ne k1] at h2
      exact .inr ⟨j, oj, q, k3, h2, h3⟩
  · exact u.other b fun e => hno ⟨i, ao, p, hi, hp, e.symm⟩
  · rw [u.size]; exact Nat.le_refl _
  · rw [G j (by omega)]
    · exact hfr
    · intro e; subst e; rw [hi] at hfr; cases hfr
  · show N ≤ h.next
    omega

/-- What comes, by the abstract side. -/
theorem appSrc_sound (hT : T.ok P) (hR : R σ Z h w) {elem xt es bs n : Nat} {xd : TypeDesc} {x : AV} {v : Value} {l z : List AV} (hx : T.und xt = some xd) (hz : (T.zero elem).bind AV.cells = some z) (hzl : z.length = es) (hv : VR σ Z w x v) (hq : appSrc T h elem es bs xd x = some (n, l)) :
    ∃ us : Array Value, Comes P T w elem xt es bs n us v ∧ VRs σ Z w l us.toList ∧ ones us.toList ∧ us.size = n * es ∧ l.length = n * es := by
  have gen : srcCells h es x = some (n, l) → (∃ e', xd = .slice e') ∨ xd = .string → ∃ us : Array Value, Comes P T w elem xt es bs n us v ∧ VRs σ Z w l us.toList ∧ ones us.toList ∧ us.size = n * es ∧ l.length = n * es := by
    intro hs hd
    have hRW : ∀ W : World, W.heap = w.heap → R σ Z h W := fun W hW => by
      have hg : Grow σ Z w σ Z W := ⟨fun _ _ h => h, fun _ h => h, fun b _ => by rw [hW], fun b => by unfold csize; rw [hW]; exact Nat.le_refl _⟩
      exact ⟨hR.nofresh, hR.top, fun id o hid => by
        obtain ⟨p, hp, hb⟩ := hR.live id o hid
        exact ⟨p, hp, hb.grow hg (by rw [hW])⟩, hR.inj, hR.own, fun b hb => by rw [hW]; exact hR.zlt b hb, hR.lim⟩
    have hVW : ∀ W : World, W.heap = w.heap → VR σ Z W x v := fun W hW =>
      hv.grow ⟨fun _ _ h => h, fun _ h => h, fun b _ => by rw [hW], fun b => by unfold csize; rw [hW]; exact Nat.le_refl _⟩
    obtain ⟨h1, h2, us, h3, h4, h5⟩ := srcCells_sound (P := P) hR hv hs
    have hus : us.size = n * es := by
      have := VRs.length h4
      simpa [h2] using this
    have hfull : (us.toList.take (n * es)).toArray = us := by
      rw [List.take_of_length_le (by simp [hus])]
    have hc : ∀ W : World, W.heap = w.heap → (Builtin.firstCells es n v).run P W = .ok us W := by
      intro W hW
      obtain ⟨_, _, us', g3, g4, _⟩ := srcCells_sound (P := P) (hRW W hW) (hVW W hW) hs
      have a1 := h3 n (Nat.le_refl _)
      have a2 := g3 n (Nat.le_refl _)
      rw [hfull] at a1
      have hus' : us'.size = n * es := by
        have := VRs.length g4
        simpa [h2] using this
      have hfull' : (us'.toList.take (n * es)).toArray = us' := by
        rw [List.take_of_length_le (by simp [hus'])]
      rw [hfull'] at a2
      have : us' = us := by
        have hWw : ∀ (s : Sem (Array Value)), True := fun _ => trivial
        cases v with
        | slice ad ln c =>
          cases ad with
          | none =>
            simp only [Builtin.firstCells, Sem.run_pure, Result.ok.injEq] at a1 a2
            rw [← a1.1, ← a2.1]
          | some ad =>
            simp only [Builtin.firstCells] at a1 a2
            have key : ∀ (m i : Nat) (acc : Array Value) (r : Array Value), (loadCellsFrom ad i m acc).run P w = .ok r w → ∀ r', (loadCellsFrom ad i m acc).run P W = .ok r' W → r' = r := by
              intro m
              induction m with
              | zero => intro i acc r hr r' hr'; simp only [loadCellsFrom, Sem.run_pure, Result.ok.injEq] at hr hr'; rw [← hr.1, ← hr'.1]
              | succ m ih =>
                intro i acc r hr r' hr'
                simp only [loadCellsFrom, Sem.run_bind, run_load] at hr hr'
                have hcc : W.cell? (ad.add i) = w.cell? (ad.add i) := by simp [World.cell?, hW]
                rw [hcc] at hr'
                cases hcell : w.cell? (ad.add i) with
                | some u =>
                  rw [hcell] at hr hr'
                  simp only [Result.andThen_ok] at hr hr'
                  exact ih _ _ _ hr _ hr'
                | none =>
                  rw [hcell] at hr hr'
                  simp only at hr hr'
                  have hfar : W.farLoad P (ad.add i) false = w.farLoad P (ad.add i) false := by
                    have hWe : W = { w with tape := W.tape, drawn := W.drawn, os := W.os, output := W.output } := by
                      cases W; cases w; simp_all
                    rw [hWe]; rfl
                  have hm : (Mode.plain == Mode.atomic) = false := rfl
                  rw [hm] at hr hr'
                  rw [hfar] at hr'
                  cases hf : w.farLoad P (ad.add i) false with
                  | ok q =>
                    rw [hf] at hr hr'
                    simp only [Result.andThen_ok] at hr hr'
                    exact ih _ _ _ hr _ hr'
                  | error q => rw [hf] at hr; simp at hr
            exact key _ _ _ _ a1 _ a2
        | string s => simp only [Builtin.firstCells, Sem.run_pure, Result.ok.injEq] at a1 a2; rw [← a1.1, ← a2.1]
        | _ => simp [Builtin.firstCells] at a1
      rw [this] at a2; exact a2
    rcases hd with ⟨e', rfl⟩ | rfl
    · exact ⟨us, .slice v e' hx h1 hc, h4, h5, hus, h2⟩
    · exact ⟨us, .str v hx h1 hc, h4, h5, hus, h2⟩
  unfold appSrc at hq
  split at hq
  · rename_i kk
    split at hq
    · rename_i kx n' z' hz'
      split at hq
      · rename_i hb
        injection hq with hq; injection hq with h1 h2; subst h1; subst h2
        rw [hz] at hz'; injection hz' with hz'; subst hz'
        simp only [VR] at hv; subst hv
        obtain ⟨m, rfl⟩ : ∃ m : Nat, n' = m := ⟨n'.toNat, by omega⟩
        obtain ⟨zv, hz1, hz2, hz3⟩ := run_zeroCells hT hz
        have hzs : zv.cells.size = es := by
          have := VRs.length (hz2 σ Z w)
          simpa [hzl] using this
        have hmm : (m : Int).toNat = m := by simp
        rw [hmm] at hb ⊢
        refine ⟨if m * es = 0 then #[] else Builtin.zeroCells zv.cells m, .zeros kk kx hx (by omega) hb.2.2 zv hz1 rfl, ?_, ?_, ?_, by simp [reps]⟩
        · by_cases h0 : m * es = 0
          · simp [h0, reps, VRs]
          · simp only [h0, if_false, Builtin.zeroCells, hzs]
            have := reps_VRs (hz2 σ Z w) (m * es)
            rw [hzs] at this
            simpa using this
        · by_cases h0 : m * es = 0
          · simp [h0, ones_nil]
          · simp only [h0, if_false, Builtin.zeroCells, hzs]
            have := reps_ones hz3 (m * es)
            rw [hzs] at this
            simpa using this
        · by_cases h0 : m * es = 0
          · simp [h0]
          · simp [h0, Builtin.zeroCells, hzs]
      · cases hq
    · cases hq
  · exact gen hq (.inl ⟨_, rfl⟩)
  · exact gen hq (.inr rfl)
  · cases hq

end
end Go.Ab
/-! append as an operation; the other writes. -/
namespace Go.Ab
section
variable {P : Program} {T : Tab} {σ : Sig} {Z : Nat → Prop} {h : Heap} {w : World} {e : List AV} {a : Act}

/-- What is said of an operation that writes. -/
def Writes (P : Program) (N : Nat) (σ : Sig) (Z : Nat → Prop) (h : Heap) (w : World) (o : Oper) (a : Act) (av : AV) (h' : Heap) : Prop :=
  ∃ r v w' σ', (execOp a.eval o).run P w = .ok r w' ∧ (r = .value v ∨ (r = .skip ∧ v = undef)) ∧ R σ' Z h' w' ∧ Ext N σ Z h w σ' Z h' w' ∧ VR σ' Z w' av v

theorem loads_list {b o : Nat} {vs : List Value} (hc : cellsAt w b o vs) (W : World) (hW : W.heap = w.heap) : (loadCells ⟨b, o, none⟩ vs.length).run P W = .ok vs.toArray W :=
  run_loadCells_list (P := P) (w := W) ⟨b, o, none⟩ vs (fun j u hj => by
    rw [add_eq]
    have := hc j u hj
    simpa [World.cell?, hW] using this)

/-- The cells of a slice of our own. -/
theorem first_sl (hR : R σ Z h w) {i off es len cm : Nat} {ex sg : Bool} {cs : Cs} {old : List AV} {v : Value} (hv : VR σ Z w (.sl i off es len cm ex) v) (hg : h.get i = some (some (.row sg cs))) (hr : cs.read off (len * es) = some old) :
    ∃ us : Array Value, (∀ W : World, W.heap = w.heap → (Builtin.firstCells es len v).run P W = .ok us W) ∧ VRs σ Z w old us.toList ∧ ones us.toList ∧ us.size = len * es := by
  simp only [VR] at hv
  obtain ⟨p, ad, c, hp, rfl, g0, g1, g2, g3, g4, g5⟩ := hv
  obtain ⟨e1, e2, e3⟩ := Cs.read_eq hr
  obtain ⟨q, vs, hq, k1, k2, k3⟩ := row_cells hR (id := i) (cs := cs) (by unfold rowOf; rw [hg])
  rw [hp] at hq; injection hq with hq; subst hq
  have hlv := VRs.length k1
  have hsz : ((vs.drop off).take (len * es)).length = len * es := by simp; omega
  refine ⟨((vs.drop off).take (len * es)).toArray, fun W hW => ?_, by rw [e1]; simpa using VRs.take _ (VRs.drop _ k1), by simpa using (k2.2.drop off).take (len * es), by simpa using hsz⟩
  by_cases h0 : len * es = 0
  · simp [Builtin.firstCells, h0, loadCells, loadCellsFrom]
  · have hc : c ≠ 0 := by
      intro hc; subst hc
      have : len = 0 := by omega
      subst this; simp at h0
    have := g4 hc; subst this
    have hl := loads_list (P := P) ((k2.1.drop off).take (len * es)) W hW
    rw [hsz] at hl
    exact hl

theorem append_sound (hT : T.ok P) {N : Nat} (hR : R σ Z h w) {id : Nat} (hid : h.get id = none) (hN : N ≤ id) (hlt : id < h.next) (hn : h.next < 1000000000000) {st xt ty : TypeId} {s x av : AV} {h' : Heap} {vs vx : Value}
    (hs : VR σ Z w s vs) (hx : VR σ Z w x vx) (hq : wrAppend T h id st xt s x = some (av, h')) :
    ∃ v w' σ', (Builtin.append_ #[st, xt] ty #[vs, vx]).run P w = .ok v w' ∧ R σ' Z h' w' ∧ Ext N σ Z h w σ' Z h' w' ∧ VR σ' Z w' av v := by
  have hNn : N ≤ h.next := by omega
  unfold wrAppend at hq
  split at hq
  · rename_i elem hd
    split at hq
    · rename_i es bs xd z hes hbs hxd hz
      split at hq
      · rename_i hzl
        split at hq
        · rename_i n l hsrc
          obtain ⟨us, hcom, hu1, hu2, hu3, hu4⟩ := appSrc_sound hT hR hxd hz hzl hx hsrc
          have hll : l.length = n * es := by
            have := VRs.length hu1
            simp only [Array.length_toList] at this
            omega
          split at hq
          · simp only [VR] at hs; subst hs
            split at hq
            · rename_i h0; subst h0
              injection hq with hq; injection hq with q1 q2; subst q1; subst q2
              exact ⟨_, w, σ, append_none hT hd hes hbs hcom, hR, Ext.refl _ _ _ _ hNn, by simp only [VR]⟩
            · rename_i h0
              split at hq
              · rename_i hb
                injection hq with hq; injection hq with q1 q2; subst q1; subst q2
                obtain ⟨w', rest, cap, hr, hp, hcap, hcsz⟩ := append_grow (ty := ty) (base := none) (sLen := 0) (sCap := 0) (old := #[]) hT hd hes hbs hz hzl hcom (by omega) (fun W _ => by simp [Builtin.firstCells]) (by simpa using hb) hu3 (by simp)
                obtain ⟨r1, r2⟩ := alloc_state (N := N) (ao := .row false (.lst (n * es) l)) hR hp hid hN hlt hn
                  ⟨_, _, _, us.toList, hp.new, fun _ => rfl, fun k _ => by simp, (by rw [lst_toList hll]; exact VRs.grow (hp.grow hR.zlt (put_ext (hR.nofresh _ hid))) hu1), by simp, hu2, fun i v hi => by
                    have hi' : us[i]? = some v := by simpa using hi
                    have := (Array.getElem?_eq_some_iff.1 hi').1
                    simp only [Nat.zero_add, Array.empty_append]
                    rw [Array.getElem?_append_left this]; exact hi'⟩
                rw [Nat.zero_add] at hr hcap
                refine ⟨_, w', _, hr, r1, r2, sl_VR _ _ _ _ _ n _ (Nat.le_refl _) hcap (by simp) ?_⟩
                rw [csize_new hp, ← hcsz]
                exact Nat.le_refl _
              · cases hq
          · rename_i i off es' len cm ex
            split at hq
            · rename_i hee; subst hee
              split at hq
              · rename_i sg cs hg
                have hvs := hs
                simp only [VR] at hs
                obtain ⟨p, ad, c, hp, rfl, g0, g1, g2, g3, g4, g5⟩ := hs
                split at hq
                · -- in place
                  rename_i hroom
                  simp only [Option.map_eq_some_iff] at hq
                  obtain ⟨cs', hw, hq⟩ := hq
                  injection hq with q1 q2; subst q1; subst q2
                  obtain ⟨w', hr, r1, r2⟩ := write_state (P := P) (N := N) hR hg hp hn hNn hll hw hu1 hu2
                  have hst : (storeCells (ad.add (len * es')) us.toList).run P w = .ok () w' := by
                    by_cases hc : c = 0
                    · have h0 : n * es' = 0 := by
                        have : n = 0 := by omega
                        simp [this]
                      have hnil : us.toList = [] := List.eq_nil_of_length_eq_zero (by simpa [h0] using hu3)
                      rw [hnil] at hr ⊢
                      simpa [storeCells] using hr
                    · rw [g4 hc, add_eq, Nat.add_assoc]; exact hr
                  refine ⟨_, w', σ, append_room hT hd hes hbs hcom (by omega) hst, r1, r2, ?_⟩
                  have hgr := r2.grow hR
                  simp only [VR]
                  exact ⟨p, ad, c, hp, rfl, g0, hroom, g2, g3, g4, Nat.le_trans g5 (hgr.csz _)⟩
                · rename_i hroom
                  split at hq
                  · rename_i hb
                    split at hq
                    · rename_i old hread
                      obtain ⟨uo, ho, o1, o2, o3⟩ := first_sl (P := P) hR hvs hg hread
                      have hol : (old ++ l).length = len * es' + n * es' := by
                        rw [List.length_append, hll, (Cs.read_eq hread).2.2]
                      have fresh_row : ∀ {w' : World} {rest : Array Value} {sg' : Bool}, Pushed w w' (.cells (uo ++ us ++ rest) elem) → ∀ (σ1 : Sig), (∀ i q, σ i = some q → σ1 i = some q) → BR σ1 Z w' (.row sg' (.lst (len * es' + n * es') (old ++ l))) (w.heap.size, 0) := by
                        intro w' rest sg' hpu σ1 hσ
                        have hgr := hpu.grow hR.zlt hσ
                        refine ⟨_, _, _, uo.toList ++ us.toList, hpu.new, fun _ => rfl, fun k _ => by simp, (by rw [lst_toList hol]; exact VRs.append (VRs.grow hgr o1) (VRs.grow hgr hu1)), by simp, o2.append hu2, fun j v hj => ?_⟩
                        have hj' : (uo ++ us)[j]? = some v := by
                          have h9 : (uo ++ us).toList[j]? = some v := by rw [Array.toList_append]; exact hj
                          rwa [Array.getElem?_toList] at h9
                        have hlt' := (Array.getElem?_eq_some_iff.1 hj').1
                        simp only [Nat.zero_add]
                        rw [Array.getElem?_append_left hlt']; exact hj'
                      split at hq
                      · -- surely a new row
                        rename_i hex
                        injection hq with hq; injection hq with q1 q2; subst q1; subst q2
                        have hce := g3 hex
                        obtain ⟨w', rest, cap, hr, hpu, hcap, hcsz⟩ := append_grow (ty := ty) hT hd hes hbs hz hzl hcom (by omega) ho hb hu3 o3
                        obtain ⟨r1, r2⟩ := alloc_state (N := N) (ao := .row false (.lst (len * es' + n * es') (old ++ l))) hR hpu hid hN hlt hn (fresh_row hpu _ (put_ext (hR.nofresh _ hid)))
                        refine ⟨_, w', _, hr, r1, r2, sl_VR _ _ _ _ _ _ _ (Nat.le_refl _) hcap (by simp) ?_⟩
                        rw [csize_new hpu, ← hcsz]
                        exact Nat.le_refl _
                      · injection hq with hq; injection hq with q1 q2; subst q1; subst q2
                        by_cases hin : len + n ≤ c
                        · -- in place, all the same
                          have hcn : c ≠ 0 := by omega
                          have had := g4 hcn; subst had
                          obtain ⟨q, hq', hbr⟩ := hR.live _ _ hg
                          rw [hp] at hq'; injection hq' with hq'; subst hq'
                          obtain ⟨ca, t, fr, vs0, b1, b2, b3, b4, b5, b6, b7⟩ := hbr
                          have hcz : csize w p.1 = ca.size := by simp [csize, b1]
                          have hle : (len + n) * es' ≤ c * es' := Nat.mul_le_mul_right _ hin
                          have hfit : p.2 + off + len * es' + us.toList.length ≤ ca.size := by
                            rw [Nat.add_mul] at hle
                            simp only [Array.length_toList, hu3]
                            omega
                          obtain ⟨w', c', hst, hu, hc'⟩ := run_storeCells_row (P := P) (b := p.1) (o := p.2 + off + len * es') us.toList 0 ca w b1 b3 (by simpa using hfit) hu2
                          have hcsz : c'.size = ca.size := by
                            have := congrArg List.length hc'
                            simp at this hfit
                            omega
                          have hst' : (storeCells ((⟨p.1, p.2 + off, none⟩ : Addr).add (len * es')) us.toList).run P w = .ok () w' := by rw [add_eq]; exact hst
                          have hrun := append_room (ty := ty) hT hd hes hbs hcom hin hst'
                          obtain ⟨e1, e2, e3⟩ := Cs.read_eq hread
                          obtain ⟨r1, r2⟩ := replace_state (N := N) (o' := p.2 + off) (ao' := .row sg (.lst (len * es' + n * es') (old ++ l))) hR hg hp hid hN hlt hn b1 hu (fun c0 t0 fr0 e0 => by injection e0 with e1 _ _; subst e1; exact ⟨_, _, _, rfl, by omega⟩) (fun hgr => by
                            have hlv := VRs.length b4
                            have hvo : VRs σ Z w old ((vs0.drop off).take (len * es')) := by rw [e1]; exact VRs.take _ (VRs.drop _ b4)
                            have hlo : ((vs0.drop off).take (len * es')).length = len * es' := by simp; omega
                            refine ⟨c', t, fr, (vs0.drop off).take (len * es') ++ us.toList, hu.at_, b2, by rw [hcsz]; exact b3, (by rw [lst_toList hol]; exact VRs.append (VRs.grow hgr hvo) (VRs.grow hgr hu1)), ?_, ((b6.drop off).take _).append hu2, fun j v hj => ?_⟩
                            · simp only [List.length_append, hlo, hcsz]; omega
                            · have hc2 : c'[p.2 + off + j]? = c'.toList[p.2 + off + j]? := by simp
                              show c'[p.2 + off + j]? = some v
                              rw [hc2, hc']
                              simp only [Nat.add_zero]
                              by_cases j1 : j < len * es'
                              · rw [List.getElem?_append_left (by omega), List.getElem?_take, if_pos j1, List.getElem?_drop] at hj
                                rw [List.append_assoc, List.getElem?_append_left (by simp; omega), List.getElem?_take, if_pos (by omega)]
                                have := b7 _ _ hj
                                rw [← Nat.add_assoc] at this
                                simpa using this
                              · rw [List.getElem?_append_right (by omega), hlo] at hj
                                have hjl := (List.getElem?_eq_some_iff.1 hj).1
                                rw [List.append_assoc, List.getElem?_append_right (by simp; omega), List.getElem?_append_left (by simp; simp at hjl; omega)]
                                simp only [List.length_take, Array.length_toList]
                                have e5 : p.2 + off + j - min (p.2 + off + len * es') ca.size = j - len * es' := by omega
                                rw [e5]; exact hj)
                          refine ⟨_, w', _, hrun, r1, r2, ?_⟩
                          have hcz' : csize w' p.1 = ca.size := by simp [csize, hu.at_, hcsz]
                          simp only [VR]
                          exact ⟨_, _, c, Sig.put_eq, rfl, rfl, Nat.le_refl _, hin, by simp, fun _ => rfl, by simp only [Nat.add_zero]; rw [hcz', ← hcz]; exact g5⟩
                        · obtain ⟨w', rest, cap, hr, hpu, hcap, hcsz⟩ := append_grow (ty := ty) hT hd hes hbs hz hzl hcom hin ho hb hu3 o3
                          obtain ⟨q1, q2⟩ := kill_state (N := N) hR hg hn hNn
                          have hne : i ≠ id := by intro e; subst e; rw [hg] at hid; cases hid
                          have hid' : (h.set i none).get id = none := by rw [Heap.get_set_ne _ _ hne]; exact hid
                          obtain ⟨r1, r2⟩ := alloc_state (N := N) (ao := .row sg (.lst (len * es' + n * es') (old ++ l))) q1 hpu hid' hN hlt hn (fresh_row hpu _ (put_ext (hR.nofresh _ hid)))
                          refine ⟨_, w', _, hr, r1, q2.trans r2, sl_VR _ _ _ _ _ _ _ (Nat.le_refl _) hcap (by simp) ?_⟩
                          rw [csize_new hpu, ← hcsz]
                          exact Nat.le_refl _
                    · cases hq
                  · cases hq
              · cases hq
            · cases hq
          · cases hq
        · cases hq
      · cases hq
    · cases hq
  · cases hq

end
end Go.Ab
/-! Stores, maps that are written, copy, delete, clear; all writes together. -/
namespace Go.Ab
section
variable {P : Program} {T : Tab} {σ : Sig} {Z : Nat → Prop} {h : Heap} {w : World} {e : List AV} {a : Act}

theorem store_sound (hT : T.ok P) {N : Nat} (hR : R σ Z h w) (hn : h.next < 1000000000000) (hNn : N ≤ h.next) {t : TypeId} {x v : AV} {vx vv : Value} {h' : Heap} (hx : VR σ Z w x vx) (hv : VR σ Z w v vv) (hq : wrStore T h t x v = some h') :
    ∃ w', (Instr.storeAt t vx vv).run P w = .ok () w' ∧ R σ Z h' w' ∧ Ext N σ Z h w σ Z h' w' := by
  unfold wrStore at hq
  split at hq
  · rename_i i off vs n hcs hsz
    split at hq
    · rename_i hlen
      split at hq
      · rename_i s cs hg
        simp only [Option.map_eq_some_iff] at hq
        obtain ⟨cs', hw, rfl⟩ := hq
        simp only [VR] at hx
        obtain ⟨p, hp, rfl⟩ := hx
        obtain ⟨k1, k2⟩ := VR.cells hv hcs
        obtain ⟨w', hr, r1, r2⟩ := write_state (P := P) (N := N) hR hg hp hn hNn (by rw [VR.width hv hcs, hlen]) hw k1 k2
        refine ⟨w', ?_, r1, r2⟩
        have hl := VRs.length k1
        have hs : vv.cells.size = n := by
          have h9 := VR.width hv hcs
          simp only [Array.length_toList] at hl
          omega
        simp [Instr.storeAt, Instr.sureAddr, storeVar, run_size hT hsz, hs, hr]
      · cases hq
    · cases hq
  · cases hq

theorem upd_setObj {b : Nat} {ob : Obj} {o : Obj} (hb : w.heap[b]? = some ob) (ho : ∀ c t fr, ob ≠ .cells c t fr) : (setObj b o).run P w = .ok () { w with heap := w.heap.setIfInBounds b o } ∧ Upd w { w with heap := w.heap.setIfInBounds b o } b o := by
  have hlt := (Array.getElem?_eq_some_iff.1 hb).1
  refine ⟨?_, ⟨by simp, fun k hk => ?_, ?_, rfl, rfl, rfl⟩⟩
  · simp only [setObj, Sem.run, hb]
  · simp only [Array.getElem?_setIfInBounds]
    rw [if_neg (fun e => hk e.symm)]
  · simp only [Array.getElem?_setIfInBounds]
    rw [if_pos trivial, if_pos hlt]

/-- A map of ours is another one. -/
theorem map_state {N : Nat} (hR : R σ Z h w) {id : Nat} {es es' : List (AV × AV × Nat)} {clock clock' : Nat} {p : Nat × Nat} (hid : h.get id = some (some (.map es clock))) (hp : σ id = some p) (hn : h.next < 1000000000000) (hNn : N ≤ h.next)
    {ents : Array MapEntry} (hm : MRs σ Z w es' ents.toList) :
    ∃ w', (setObj p.1 (.map ents clock')).run P w = .ok () w' ∧ R σ Z (h.set id (some (.map es' clock'))) w' ∧ Ext N σ Z h w σ Z (h.set id (some (.map es' clock'))) w' := by
  obtain ⟨q, hq, hbr⟩ := hR.live _ _ hid
  rw [hp] at hq; injection hq with hq; subst hq
  obtain ⟨h0, ents0, g1, g2⟩ := hbr
  obtain ⟨hr, hu⟩ := upd_setObj (P := P) (o := .map ents clock') g1 (by simp)
  exact ⟨_, hr, update_state hR hid hp hn hNn g1 hu (by simp) fun hg => ⟨h0, ents, hu.at_, hm.grow hg⟩⟩

theorem MRs.append : ∀ {xs ys : List (AV × AV × Nat)} {es fs : List MapEntry}, MRs σ Z w xs es → MRs σ Z w ys fs → MRs σ Z w (xs ++ ys) (es ++ fs)
  | [], ys, es, fs, h, h' => by simp only [MRs] at h; subst h; simpa using h'
  | x :: xs, ys, es, fs, h, h' => by
    simp only [MRs] at h
    obtain ⟨e, es', rfl, h1, h2, h3, h4⟩ := h
    simp only [List.cons_append, MRs]
    exact ⟨e, _, rfl, h1, h2, h3, MRs.append h4 h'⟩

theorem MRs.modify {f : AV × AV × Nat → AV × AV × Nat} {g : MapEntry → MapEntry} : ∀ {xs : List (AV × AV × Nat)} {es : List MapEntry} (j : Nat), MRs σ Z w xs es →
    (∀ x e, xs[j]? = some x → es[j]? = some e → VR σ Z w (f x).1 (g e).key ∧ VR σ Z w (f x).2.1 (g e).val ∧ (g e).born = (f x).2.2) → MRs σ Z w (xs.modify j f) (es.modify j g)
  | [], es, j, h, _ => by simp only [MRs] at h; subst h; simp [MRs]
  | x :: xs, es, 0, h, hf => by
    simp only [MRs] at h
    obtain ⟨e, es', rfl, h1, h2, h3, h4⟩ := h
    simp only [List.modify_zero_cons, MRs]
    obtain ⟨k1, k2, k3⟩ := hf x e rfl rfl
    exact ⟨_, _, rfl, k1, k2, k3, h4⟩
  | x :: xs, es, j + 1, h, hf => by
    simp only [MRs] at h
    obtain ⟨e, es', rfl, h1, h2, h3, h4⟩ := h
    simp only [List.modify_succ_cons, MRs]
    exact ⟨e, _, rfl, h1, h2, h3, MRs.modify j h4 fun x e hx he => hf x e (by simpa using hx) (by simpa using he)⟩

theorem MRs.erase : ∀ {xs : List (AV × AV × Nat)} {es : List MapEntry} (j : Nat), MRs σ Z w xs es → MRs σ Z w (xs.eraseIdx j) (es.eraseIdx j)
  | [], es, j, h => by simp only [MRs] at h; subst h; simp [MRs]
  | x :: xs, es, 0, h => by
    simp only [MRs] at h
    obtain ⟨e, es', rfl, h1, h2, h3, h4⟩ := h
    simpa using h4
  | x :: xs, es, j + 1, h => by
    simp only [MRs] at h
    obtain ⟨e, es', rfl, h1, h2, h3, h4⟩ := h
    simp only [List.eraseIdx_cons_succ, MRs]
    exact ⟨e, _, rfl, h1, h2, h3, MRs.erase j h4⟩

theorem ba_ext {x y : ByteArray} (h : x.toList = y.toList) : x = y := by
  rw [ByteArray.toList_eq, ByteArray.toList_eq] at h
  obtain ⟨⟨x⟩⟩ := x
  obtain ⟨⟨y⟩⟩ := y
  simp only at h
  subst h; rfl

theorem keyIs_same {k x : AV} {v u : Value} (hv : VR σ Z w k v) (hu : VR σ Z w x u) (hk : keyIs k x = some true) : v = u ∧ ∀ n, Instr.sameBits n u v = true := by
  unfold keyIs at hk
  split at hk
  · simp only [VR] at hv hu; subst hv; subst hu
    split at hk
    · rename_i hkk; subst hkk
      injection hk with hk
      have hk := beq_iff_eq.1 hk
      subst hk
      exact ⟨rfl, fun n => by cases n <;> simp [Instr.sameBits]⟩
    · cases hk
  · simp only [VR] at hv hu; subst hv; subst hu
    injection hk with hk
    rw [beq_toListBytes] at hk
    have hk := ba_ext (beq_iff_eq.1 hk)
    subst hk
    exact ⟨rfl, fun n => by cases n <;> simp [Instr.sameBits, beq_toListBytes]⟩
  · cases hk

theorem mapUpdate_sound (hT : T.ok P) {N : Nat} (hR : R σ Z h w) (hn : h.next < 1000000000000) (hNn : N ≤ h.next) {t : TypeId} {m k v : AV} {vm vk vv : Value} {h' : Heap} (hm : VR σ Z w m vm) (hk : VR σ Z w k vk) (hv : VR σ Z w v vv) (hq : wrMapUpdate T h t m k v = some h') :
    ∃ w', (Instr.mapUpdate t vm vk vv).run P w = .ok () w' ∧ R σ Z h' w' ∧ Ext N σ Z h w σ Z h' w' := by
  unfold wrMapUpdate at hq
  split at hq
  · rename_i key elem i hd
    split at hq
    · rename_i kd es clock hkd hg
      split at hq
      · rename_i hf
        simp only [VR] at hm
        obtain ⟨p, hp, rfl⟩ := hm
        obtain ⟨q, hq', hbr⟩ := hR.live _ _ hg
        rw [hp] at hq'; injection hq' with hq'; subst hq'
        obtain ⟨h0, ents, g1, g2⟩ := hbr
        have hck := run_checkKey (P := P) (em := false) hT hkd hf hk
        split at hq
        · rename_i j x' hfind
          injection hq with hq; subst hq
          rcases aFind_sound hf hk g2 hfind with ⟨hr, _⟩ | ⟨j', x2, u2, hr, hnow, hx, hij, q1, m1, e1, e2, e3, e4, e5, e6⟩
          · cases hr
          · injection hr with hr; injection hr with r1 r2; subst r1; subst r2
            simp only [Nat.sub_zero] at e1 e2
            obtain ⟨s1, s2⟩ := keyIs_same hk e5 e6
            have em1 : ents[j]? = some m1 := by simpa using e2
            obtain ⟨w', hr, r1, r2⟩ := map_state (P := P) (N := N) (clock' := clock) (ents := ents.modify j fun e => { e with key := vk, val := vv }) (es' := es.modify j fun e => (k, v, e.2.2)) hR hg hp hn hNn (by
              rw [Array.toList_modify]
              refine MRs.modify j g2 fun x e hx he => ⟨hk, hv, ?_⟩
              rw [e1] at hx; injection hx with hx; subst hx
              rw [e2] at he; injection he with he; subst he
              have : ∀ {xs : List (AV × AV × Nat)} {es : List MapEntry} {i : Nat} {x : AV × AV × Nat} {e : MapEntry}, MRs σ Z w xs es → xs[i]? = some x → es[i]? = some e → e.born = x.2.2 := by
                intro xs
                induction xs with
                | nil => intro es i x e _ hx; simp at hx
                | cons y ys ih =>
                  intro es i x e hm hx he
                  simp only [MRs] at hm
                  obtain ⟨e', es', rfl, _, _, h3, h4⟩ := hm
                  cases i with
                  | zero => simp at hx he; subst hx; subst he; exact h3
                  | succ i => exact ih h4 (by simpa using hx) (by simpa using he)
              show m1.born = q1.2.2
              exact this g2 e1 e2)
            refine ⟨w', ?_, r1, r2⟩
            simp only [Instr.mapUpdate, Sem.run_bind, run_und hT hd, Result.andThen_ok, run_getMap g1, hck, Instr.findKey, run_und hT hkd, hnow, Sem.run_pure, em1, Option.map_some, Option.getD_some, Instr.keyThatStays, s2 10000, if_true, hr]
        · rename_i hfind
          injection hq with hq; subst hq
          rcases aFind_sound hf hk g2 hfind with ⟨_, hnow⟩ | ⟨j', x2, u2, hr, _⟩
          · obtain ⟨w', hr, r1, r2⟩ := map_state (P := P) (N := N) (clock' := clock + 1) (ents := ents.push { key := vk, val := vv, born := clock }) (es' := es ++ [(k, v, clock)]) hR hg hp hn hNn (by
              rw [Array.toList_push]
              exact g2.append (by simp only [MRs]; exact ⟨_, _, rfl, hk, hv, rfl, rfl⟩))
            refine ⟨w', ?_, r1, r2⟩
            simp only [Instr.mapUpdate, Sem.run_bind, run_und hT hd, Result.andThen_ok, run_getMap g1, hck, Instr.findKey, run_und hT hkd, hnow, Sem.run_pure, hr]
          · cases hr
        · cases hq
      · cases hq
    · cases hq
  · cases hq

theorem MRs.born : ∀ {xs : List (AV × AV × Nat)} {es : List MapEntry} {i : Nat} {x : AV × AV × Nat} {e : MapEntry}, MRs σ Z w xs es → xs[i]? = some x → es[i]? = some e → e.born = x.2.2 ∧ VR σ Z w x.1 e.key ∧ VR σ Z w x.2.1 e.val
  | [], _, _, _, _, _, hx, _ => by simp at hx
  | y :: xs, es, i, x, e, hm, hx, he => by
    simp only [MRs] at hm
    obtain ⟨e', es', rfl, h1, h2, h3, h4⟩ := hm
    cases i with
    | zero => simp at hx he; subst hx; subst he; exact ⟨h3, h1, h2⟩
    | succ i => exact MRs.born h4 (by simpa using hx) (by simpa using he)

theorem MRs.findIdx {f : AV × AV × Nat → Bool} {g : MapEntry → Bool} (hfg : ∀ x e, e.born = x.2.2 → f x = g e) : ∀ {xs : List (AV × AV × Nat)} {es : List MapEntry}, MRs σ Z w xs es → es.findIdx? g = xs.findIdx? f
  | [], _, h => by simp only [MRs] at h; subst h; rfl
  | y :: xs, es, h => by
    simp only [MRs] at h
    obtain ⟨e, es', rfl, h1, h2, h3, h4⟩ := h
    simp only [List.findIdx?_cons, hfg y e h3, MRs.findIdx hfg h4]

theorem mapEntry_sound (hT : T.ok P) {N : Nat} (hR : R σ Z h w) (hn : h.next < 1000000000000) (hNn : N ≤ h.next) {t : TypeId} {m k av : AV} {vm vk : Value} {h' : Heap} (hm : VR σ Z w m vm) (hk : VR σ Z w k vk) (hq : wrMapEntry T h t m k = some (av, h')) :
    ∃ v w', (Instr.mapEntry t vm vk).run P w = .ok v w' ∧ R σ Z h' w' ∧ Ext N σ Z h w σ Z h' w' ∧ VR σ Z w' av v := by
  unfold wrMapEntry at hq
  split at hq
  · rename_i key elem i hd
    split at hq
    · rename_i kd es clock hkd hg
      split at hq
      · rename_i hf
        simp only [VR] at hm
        obtain ⟨p, hp, rfl⟩ := hm
        obtain ⟨q, hq', hbr⟩ := hR.live _ _ hg
        rw [hp] at hq'; injection hq' with hq'; subst hq'
        obtain ⟨h0, ents, g1, g2⟩ := hbr
        have hck := run_checkKey (P := P) (em := false) hT hkd hf hk
        split at hq
        · rename_i j x' hfind
          simp only [Option.map_eq_some_iff] at hq
          obtain ⟨xj, hxj, hq⟩ := hq
          injection hq with qa hq; subst qa; subst hq
          rcases aFind_sound hf hk g2 hfind with ⟨hr, _⟩ | ⟨j', x2, u2, hr, hnow, hx, hij, q1, m1, e1, e2, e3, e4, e5, e6⟩
          · cases hr
          · injection hr with hr; injection hr with r1 r2; subst r1; subst r2
            simp only [Nat.sub_zero] at e1 e2
            obtain ⟨s1, s2⟩ := keyIs_same hk e5 e6
            have em1 : ents[j]? = some m1 := by simpa using e2
            rw [e1] at hxj; injection hxj with hxj; subst hxj
            obtain ⟨b1, b2, b3⟩ := g2.born e1 e2
            obtain ⟨w', hr, r1, r2⟩ := map_state (P := P) (N := N) (clock' := clock) (ents := ents.modify j fun e => { e with key := vk }) (es' := es.modify j fun e => (k, e.2.1, e.2.2)) hR hg hp hn hNn (by
              rw [Array.toList_modify]
              refine MRs.modify j g2 fun x e hx he => ?_
              rw [e1] at hx; injection hx with hx; subst hx
              rw [e2] at he; injection he with he; subst he
              exact ⟨hk, b3, b1⟩)
            refine ⟨.tuple #[u2, .int .i64 q1.2.2], w', ?_, r1, r2, ?_⟩
            · simp only [Instr.mapEntry, Sem.run_bind, run_und hT hd, Result.andThen_ok, run_getMap g1, hck, Instr.findKey, run_und hT hkd, hnow, Sem.run_pure, em1, Option.map_some, Option.getD_some, Instr.keyThatStays, s2 10000, if_true, hr, goInt, b1]
            · have hx' := hx.grow (r2.grow hR)
              simp only [VR]; exact ⟨_, rfl, by simp only [VRs]; exact ⟨_, _, rfl, hx', _, _, rfl, by simp only [VR], rfl⟩⟩
        · rename_i hfind
          simp only [Option.map_eq_some_iff] at hq
          obtain ⟨z, hz, hq⟩ := hq
          injection hq with qa hq; subst qa; subst hq
          obtain ⟨zv, hz1, hz2, hz3⟩ := run_zero hT hz σ Z w
          rcases aFind_sound hf hk g2 hfind with ⟨_, hnow⟩ | ⟨j', x2, u2, hr, _⟩
          · obtain ⟨w', hr, r1, r2⟩ := map_state (P := P) (N := N) (clock' := clock + 1) (ents := ents.push { key := vk, val := zv, born := clock }) (es' := es ++ [(k, z, clock)]) hR hg hp hn hNn (by
              rw [Array.toList_push]
              exact g2.append (by simp only [MRs]; exact ⟨_, _, rfl, hk, hz2, rfl, rfl⟩))
            refine ⟨.tuple #[zv, .int .i64 clock], w', ?_, r1, r2, ?_⟩
            · simp only [Instr.mapEntry, Sem.run_bind, run_und hT hd, Result.andThen_ok, run_getMap g1, hck, Instr.findKey, run_und hT hkd, hnow, Sem.run_pure, hz1, hr, goInt]
            · have hx' := hz3 w'
              simp only [VR]; exact ⟨_, rfl, by simp only [VRs]; exact ⟨_, _, rfl, hx', _, _, rfl, by simp only [VR], rfl⟩⟩
          · cases hr
        · cases hq
      · cases hq
    · cases hq
  · cases hq

theorem entryStore_sound {N : Nat} (hR : R σ Z h w) (hn : h.next < 1000000000000) (hNn : N ≤ h.next) {t : TypeId} {m s v : AV} {vm vs vv : Value} {h' : Heap} (hm : VR σ Z w m vm) (hs : VR σ Z w s vs) (hv : VR σ Z w v vv) (hq : wrEntryStore h m s v = some h') :
    ∃ w', (Instr.entryStore t vm vs vv).run P w = .ok () w' ∧ R σ Z h' w' ∧ Ext N σ Z h w σ Z h' w' := by
  unfold wrEntryStore at hq
  split at hq
  · rename_i i kd b
    split at hq
    · rename_i es clock hg
      simp only [Option.map_eq_some_iff] at hq
      obtain ⟨j, hj, rfl⟩ := hq
      simp only [VR] at hm hs
      obtain ⟨p, hp, rfl⟩ := hm
      subst hs
      obtain ⟨q, hq', hbr⟩ := hR.live _ _ hg
      rw [hp] at hq'; injection hq' with hq'; subst hq'
      obtain ⟨h0, ents, g1, g2⟩ := hbr
      have hfi := MRs.findIdx (f := fun x => (x.2.2 : Int) == b) (g := fun e => (e.born : Int) == b) (fun x e hb => by rw [hb]) g2
      have hfa : ents.findIdx? (fun e => (e.born : Int) == b) = some j := by
        obtain ⟨l⟩ := ents
        rw [← hj, ← hfi]; simp
      obtain ⟨w', hr, r1, r2⟩ := map_state (P := P) (N := N) (clock' := clock) (ents := ents.modify j fun e => { e with val := vv }) (es' := es.modify j fun e => (e.1, v, e.2.2)) hR hg hp hn hNn (by
        rw [Array.toList_modify]
        refine MRs.modify j g2 fun x e hx he => ?_
        obtain ⟨b1, b2, b3⟩ := g2.born hx he
        exact ⟨b2, hv, b1⟩)
      refine ⟨w', ?_, r1, r2⟩
      simp only [Instr.entryStore, Sem.run_bind, run_getMap g1, Result.andThen_ok, asInt, asIntOf, Sem.run_pure, hfa, hr]
    · cases hq
  · cases hq

theorem delete_sound (hT : T.ok P) {N : Nat} (hR : R σ Z h w) (hn : h.next < 1000000000000) (hNn : N ≤ h.next) {t ty : TypeId} {ts : List TypeId} {m k : AV} {vm vk : Value} {h' : Heap} (hm : VR σ Z w m vm) (hk : VR σ Z w k vk) (hq : wrDelete T h t m k = some h') :
    ∃ w', (Builtin.delete_ (t :: ts).toArray ty #[vm, vk]).run P w = .ok (.tuple #[]) w' ∧ R σ Z h' w' ∧ Ext N σ Z h w σ Z h' w' := by
  unfold wrDelete at hq
  split at hq
  · rename_i key elem hd
    split at hq
    · rename_i kd hkd
      split at hq
      · rename_i hf
        split at hq
        · injection hq with hq; subst hq
          simp only [VR] at hm; subst hm
          have hck := run_checkKey (P := P) (em := true) hT hkd hf hk
          exact ⟨w, by simp [Builtin.delete_, run_und hT hd, hck], hR, Ext.refl _ _ _ _ hNn⟩
        · rename_i i
          split at hq
          · rename_i es clock hg
            simp only [VR] at hm
            obtain ⟨p, hp, rfl⟩ := hm
            obtain ⟨q, hq', hbr⟩ := hR.live _ _ hg
            rw [hp] at hq'; injection hq' with hq'; subst hq'
            obtain ⟨h0, ents, g1, g2⟩ := hbr
            have hck := fun em => run_checkKey (P := P) (em := em) hT hkd hf hk
            split at hq
            · rename_i j x' hfind
              injection hq with hq; subst hq
              rcases aFind_sound hf hk g2 hfind with ⟨hr, _⟩ | ⟨j', x2, u2, hr, hnow, hx, hij, q1, m1, e1, e2, _⟩
              · cases hr
              · injection hr with hr; injection hr with r1 r2; subst r1; subst r2
                obtain ⟨w', hr, r1, r2⟩ := map_state (P := P) (N := N) (clock' := clock) (ents := ents.eraseIdxIfInBounds j) (es' := es.eraseIdx j) hR hg hp hn hNn (by
                  rw [Array.toList_eraseIdxIfInBounds]
                  exact g2.erase j)
                refine ⟨w', ?_, r1, r2⟩
                simp [Builtin.delete_, run_und hT hd, run_getMap g1, hck, Instr.findKey, run_und hT hkd, hnow, hr]
            · rename_i hfind
              injection hq with hq; subst hq
              rcases aFind_sound hf hk g2 hfind with ⟨_, hnow⟩ | ⟨j', x2, u2, hr, _⟩
              · obtain ⟨w', hr, r1, r2⟩ := map_state (P := P) (N := N) (clock' := clock) (ents := ents) (es' := es) hR hg hp hn hNn g2
                refine ⟨w', ?_, r1, r2⟩
                simp [Builtin.delete_, run_und hT hd, run_getMap g1, hck, Instr.findKey, run_und hT hkd, hnow, hr]
              · cases hr
            · cases hq
          · cases hq
        · cases hq
      · cases hq
    · cases hq
  · cases hq

theorem copy_sound (hT : T.ok P) {N : Nat} (hR : R σ Z h w) (hn : h.next < 1000000000000) (hNn : N ≤ h.next) {t ty : TypeId} {ts : List TypeId} {d x av : AV} {vd vx : Value} {h' : Heap} (hdv : VR σ Z w d vd) (hx : VR σ Z w x vx) (hq : wrCopy T h t d x = some (av, h')) :
    ∃ v w', (Builtin.copy_ (t :: ts).toArray ty #[vd, vx]).run P w = .ok v w' ∧ R σ Z h' w' ∧ Ext N σ Z h w σ Z h' w' ∧ VR σ Z w' av v := by
  unfold wrCopy at hq
  split at hq
  · rename_i elem hd
    split at hq
    · rename_i es hes
      split at hq
      · rename_i m l i off es' len cm ex hsrc
        split at hq
        · rename_i hee; subst hee
          split at hq
          · rename_i sg cs hg
            simp only [Option.map_eq_some_iff] at hq
            obtain ⟨cs', hw, hq⟩ := hq
            injection hq with q1 q2; subst q1; subst q2
            simp only [VR] at hdv
            obtain ⟨p, ad, c, hp, rfl, g0, g1, g2, g3, g4, g5⟩ := hdv
            obtain ⟨h1, h2, us, h3, h4, h5⟩ := srcCells_sound (P := P) hR hx hsrc
            have hc3 := h3 (min m len) (Nat.min_le_left _ _)
            obtain ⟨w', hr, r1, r2⟩ := write_state (P := P) (N := N) hR hg hp hn hNn (by
              have h9 := Nat.mul_le_mul_right es' (Nat.min_le_left m len)
              have h8 := VRs.length h4
              simp only [List.length_take]
              omega) hw (VRs.take (min m len * es') h4) (h5.take _)
            have hst : (storeCells ad (us.toList.take (min m len * es'))).run P w = .ok () w' := by
              by_cases hc : c = 0
              · have h0 : min m len * es' = 0 := by
                  have : len = 0 := by omega
                  simp [this]
                rw [h0, List.take_zero] at hr ⊢
                simpa [storeCells] using hr
              · rw [g4 hc]; exact hr
            have hmin : Nat.min m len = min m len := rfl
            refine ⟨.int .i64 (min m len : Nat), w', ?_, r1, r2, by simp only [VR]⟩
            simp [Builtin.copy_, run_und hT hd, run_size hT hes, h1, hmin, hc3, hst, goInt]
          · cases hq
        · cases hq
      · rename_i nl hsrc
        injection hq with hq; injection hq with q1 q2; subst q1; subst q2
        simp only [VR] at hdv; subst hdv
        obtain ⟨m, l⟩ := nl
        obtain ⟨h1, h2, us, h3, h4, h5⟩ := srcCells_sound (P := P) hR hx hsrc
        have hc3 := h3 0 (Nat.zero_le _)
        refine ⟨.int .i64 0, w, ?_, hR, Ext.refl _ _ _ _ hNn, by simp only [VR]⟩
        have hmin : Nat.min m 0 = 0 := Nat.min_zero m
        simp [Builtin.copy_, run_und hT hd, run_size hT hes, h1, hmin, hc3, goInt]
      · cases hq
    · cases hq
  · cases hq

theorem clear_sound (hT : T.ok P) {N : Nat} (hR : R σ Z h w) (hn : h.next < 1000000000000) (hNn : N ≤ h.next) {t ty : TypeId} {ts : List TypeId} {x : AV} {vx : Value} {h' : Heap} (hx : VR σ Z w x vx) (hq : wrClear T h t x = some h') :
    ∃ w', (Builtin.clear_ (t :: ts).toArray ty #[vx]).run P w = .ok (.tuple #[]) w' ∧ R σ Z h' w' ∧ Ext N σ Z h w σ Z h' w' := by
  unfold wrClear at hq
  split at hq
  · rename_i elem hd
    injection hq with hq; subst hq
    simp only [VR] at hx; subst hx
    exact ⟨w, by simp [Builtin.clear_, run_und hT hd], hR, Ext.refl _ _ _ _ hNn⟩
  · rename_i elem i off es len cm ex hd
    simp only [VR] at hx
    obtain ⟨p, ad, c, hp, rfl, g0, g1, g2, g3, g4, g5⟩ := hx
    split at hq
    · rename_i h0; subst h0
      injection hq with hq; subst hq
      exact ⟨w, by simp [Builtin.clear_, run_und hT hd], hR, Ext.refl _ _ _ _ hNn⟩
    · rename_i h0
      split at hq
      · rename_i es' z sg cs hes hz hg
        split at hq
        · rename_i hb
          obtain ⟨rfl, hzl⟩ := hb
          simp only [Option.map_eq_some_iff] at hq
          obtain ⟨cs', hw, rfl⟩ := hq
          obtain ⟨zv, hz1, hz2, hz3⟩ := run_zeroCells hT hz
          have hzs : zv.cells.size = es' := by
            have := VRs.length (hz2 σ Z w)
            simpa [hzl] using this
          have hzc : (Builtin.zeroCells zv.cells len).toList = (List.range (len * es')).map fun i => zv.cells[i % zv.cells.size]! := by
            simp [Builtin.zeroCells, hzs]
          obtain ⟨w', hr, r1, r2⟩ := write_state (P := P) (N := N) hR hg hp hn hNn (by simp [reps]) hw (reps_VRs (hz2 σ Z w) _) (reps_ones hz3 _)
          refine ⟨w', ?_, r1, r2⟩
          have := g4 (by omega); subst this
          cases len with
          | zero => exact absurd rfl h0
          | succ len => simp [Builtin.clear_, run_und hT hd, hz1, hzc, hr]
        · cases hq
      · cases hq
  · cases hq

theorem run_extern (hT : T.ok P) {f n : Nat} (hf : T.ext f = some n) (args : Array Value) {v : Value} {w w' : World}
    (h0 : n = 0 → (Extern.MapsClone.clone args).run P w = .ok v w') (h1 : n = 1 → (Extern.BytealgCompare.compare args).run P w = .ok v w') : (callFunc f args).run P w = .ok (.value v) w' := by
  obtain ⟨fn, g1, g2, g3, g4, g5⟩ := hT.ext _ _ hf
  have hn : ¬ fn.name = "runtime.NumGoroutine" := by
    intro e0; rw [e0] at g2; simp at g2
  have hm : ∀ (m : Mark) (w : World), (mark m).run P w = .ok () w := fun _ _ => rfl
  rcases g5 with ⟨rfl, g5⟩ | ⟨rfl, g5⟩
  · have h0 := h0 rfl
    simp only [callFunc, Sem.run_bind, run_program, Result.andThen_ok, g1, g2, g3, Bool.false_eq_true, if_false, if_true, hm, g4, g5, h0, Sem.run_pure]
  · have h1 := h1 rfl
    simp only [callFunc, Sem.run_bind, run_program, Result.andThen_ok, g1, g2, g3, Bool.false_eq_true, if_false, if_true, hm, g4, g5, h1, Sem.run_pure]

theorem exCall_sound (hT : T.ok P) {N : Nat} (hR : R σ Z h w) {id : Nat} (hid : h.get id = none) (hN : N ≤ id) (hlt : id < h.next) (hn : h.next < 1000000000000) {f n : Nat} (hf : T.ext f = some n) {as : List AV} {vs : Array Value} (hv : VRs σ Z w as vs.toList) {av : AV} {h' : Heap} (hq : exCall h id n as = some (av, h')) :
    ∃ v w' σ', (callFunc f vs).run P w = .ok (.value v) w' ∧ R σ' Z h' w' ∧ Ext N σ Z h w σ' Z h' w' ∧ VR σ' Z w' av v := by
  unfold exCall at hq
  split at hq
  · rename_i t m
    split at hq
    · rename_i es clock hg
      injection hq with hq; injection hq with q1 q2; subst q1; subst q2
      simp only [VRs] at hv
      obtain ⟨v, vs', e1, hv1, e2⟩ := hv
      subst e2
      have harr : vs = #[v] := by apply Array.ext'; simpa using e1
      simp only [VR] at hv1
      obtain ⟨y, rfl, p, hp, rfl⟩ := hv1
      obtain ⟨q, hq', hbr⟩ := hR.live _ _ hg
      rw [hp] at hq'; injection hq' with hq'; subst hq'
      obtain ⟨h0, ents, g1, g2⟩ := hbr
      have pu := pushed_alloc w (.map ents clock)
      have hfr := hR.nofresh _ hid
      obtain ⟨r1, x1⟩ := alloc_state (N := N) hR pu hid hN hlt hn (ao := .map es clock) ⟨rfl, ents, by simp, g2.grow (pu.grow hR.zlt (put_ext hfr))⟩
      refine ⟨.iface t (.map (some w.heap.size)), _, _, run_extern hT hf _ (fun _ => ?_) (fun e0 => by cases e0), r1, x1, ?_⟩
      · have hgo : (getObj p.1).run P w = .ok (.map ents clock) w := run_getMap g1
        have e : Extern.MapsClone.clone #[.iface t (.map (some p.1))] = (getObj p.1 >>= fun o => match o with
            | .map entries clock => (newObj (.map entries clock) >>= fun n => pure (.iface t (.map (some n))))
            | _ => stuck "maps.clone: a map expected") := rfl
        rw [harr, e, Sem.run_bind, hgo]
        rfl
      · simp only [VR]; exact ⟨_, rfl, _, Sig.put_eq, rfl⟩
    · cases hq
  · rename_i a b
    injection hq with hq; injection hq with q1 q2; subst q1; subst q2
    simp only [VRs, VR] at hv
    obtain ⟨v1, r1, e1, rfl, v2, r2, e2, rfl, e3⟩ := hv
    subst e3; subst e2
    have harr : vs = #[.string a, .string b] := by apply Array.ext'; simpa using e1
    refine ⟨.int .i64 (Extern.BytealgCompare.cmp a b), w, σ, run_extern hT hf _ (fun e0 => by cases e0) (fun _ => ?_), hR, Ext.refl _ _ _ _ (by omega), by simp only [VR]⟩
    rw [harr]
    rfl
  · cases hq

theorem wr_sound (hT : T.ok P) {N : Nat} (hR : R σ Z h w) (he : ER σ Z w e a) {id : Nat} (hid : h.get id = none) (hN : N ≤ id) (hlt : id < h.next) (hn : h.next < 1000000000000) {o : Oper} {av : AV} {h' : Heap} (hq : wrOp T e h id o.op = some (av, h')) : Writes P N σ Z h w o a av h' := by
  have hNn : N ≤ h.next := by omega
  have U : ∀ (w' : World), VR σ Z w' (.tup []) undef := fun w' => by simp only [VR]; exact ⟨#[], rfl, by simp [VRs]⟩
  unfold wrOp at hq
  split at hq
  · rename_i t x v ho
    split at hq
    · rename_i ax av' h1 h2
      simp only [Option.map_eq_some_iff] at hq
      obtain ⟨h2', hs, hq⟩ := hq
      injection hq with q1 q2; subst q1; subst q2
      obtain ⟨w', hr, r1, r2⟩ := store_sound (P := P) (N := N) hT hR hn hNn (opd_VR he h1) (opd_VR he h2) hs
      exact ⟨.skip, undef, w', σ, by simp [execOp, ho, hr], .inr ⟨rfl, rfl⟩, r1, r2, U _⟩
    · cases hq
  · rename_i t m k v ho
    split at hq
    · rename_i am ak av' h1 h2 h3
      simp only [Option.map_eq_some_iff] at hq
      obtain ⟨h2', hs, hq⟩ := hq
      injection hq with q1 q2; subst q1; subst q2
      obtain ⟨w', hr, r1, r2⟩ := mapUpdate_sound (P := P) (N := N) hT hR hn hNn (opd_VR he h1) (opd_VR he h2) (opd_VR he h3) hs
      exact ⟨.skip, undef, w', σ, by simp [execOp, ho, hr], .inr ⟨rfl, rfl⟩, r1, r2, U _⟩
    · cases hq
  · rename_i t m k ho
    split at hq
    · rename_i am ak h1 h2
      obtain ⟨v, w', hr, r1, r2, r3⟩ := mapEntry_sound (P := P) (N := N) hT hR hn hNn (opd_VR he h1) (opd_VR he h2) hq
      exact ⟨.value v, v, w', σ, by simp [execOp, ho, hr], .inl rfl, r1, r2, r3⟩
    · cases hq
  · rename_i t m s v ho
    split at hq
    · rename_i am as' av' h1 h2 h3
      simp only [Option.map_eq_some_iff] at hq
      obtain ⟨h2', hs, hq⟩ := hq
      injection hq with q1 q2; subst q1; subst q2
      obtain ⟨w', hr, r1, r2⟩ := entryStore_sound (P := P) (N := N) (t := t) hR hn hNn (opd_VR he h1) (opd_VR he h2) (opd_VR he h3) hs
      exact ⟨.skip, undef, w', σ, by simp [execOp, ho, hr], .inr ⟨rfl, rfl⟩, r1, r2, U _⟩
    · cases hq
  · rename_i x args ats ho
    split at hq
    · rename_i f as h1 h2
      split at hq
      · rename_i n hf
        have hv := opd_VR he h1
        simp only [VR, VRs] at hv
        obtain ⟨xs, ys, hx, hxs, hys⟩ := hv
        have hxs' : xs = #[] := by apply Array.ext'; simpa using hxs
        have hys' : ys = #[] := by apply Array.ext'; simpa using hys
        subst hxs'; subst hys'
        have has := opds_VR he h2
        obtain ⟨v, w', σ', hr, r1, r2, r3⟩ := exCall_sound (P := P) (N := N) hT hR hid hN hlt hn hf (vs := args.map a.eval) (by simpa using has) hq
        exact ⟨.value v, v, w', σ', by simp [execOp, ho, resolve, hx, Deferred.ofValue, invoke, hr], .inl rfl, r1, r2, r3⟩
      · cases hq
    · cases hq
  · rename_i args argTypes ho
    split at hq
    · rename_i s x st xt h1 h2
      have hvs := opds_VR he h1
      simp only [VRs] at hvs
      obtain ⟨v1, r1, e1, hv1, v2, r2, e2, hv2, e3⟩ := hvs
      subst e3; subst e2
      have harr : args.map a.eval = #[v1, v2] := by apply Array.ext'; simpa using e1
      have hty : argTypes = #[st, xt] := by apply Array.ext'; simpa using h2
      obtain ⟨v, w', σ', hr, r1, r2, r3⟩ := append_sound (P := P) (ty := o.type) hT hR hid hN hlt hn hv1 hv2 hq
      exact ⟨.value v, v, w', σ', by simp [execOp, ho, resolve, invoke, builtin, harr, hty, hr], .inl rfl, r1, r2, r3⟩
    · cases hq
  · rename_i args argTypes ho
    split at hq
    · rename_i d x dt ts h1 h2
      have hvs := opds_VR he h1
      simp only [VRs] at hvs
      obtain ⟨v1, r1, e1, hv1, v2, r2, e2, hv2, e3⟩ := hvs
      subst e3; subst e2
      have harr : args.map a.eval = #[v1, v2] := by apply Array.ext'; simpa using e1
      have hty : argTypes = (dt :: ts).toArray := by apply Array.ext'; simpa using h2
      obtain ⟨v, w', hr, r1, r2, r3⟩ := copy_sound (P := P) (N := N) (ty := o.type) (ts := ts) hT hR hn hNn hv1 hv2 hq
      exact ⟨.value v, v, w', σ, by simp [execOp, ho, resolve, invoke, builtin, harr, hty, hr], .inl rfl, r1, r2, r3⟩
    · cases hq
  · rename_i args argTypes ho
    split at hq
    · rename_i m k t ts h1 h2
      simp only [Option.map_eq_some_iff] at hq
      obtain ⟨h2', hs, hq⟩ := hq
      injection hq with q1 q2; subst q1; subst q2
      have hvs := opds_VR he h1
      simp only [VRs] at hvs
      obtain ⟨v1, r1, e1, hv1, v2, r2, e2, hv2, e3⟩ := hvs
      subst e3; subst e2
      have harr : args.map a.eval = #[v1, v2] := by apply Array.ext'; simpa using e1
      have hty : argTypes = (t :: ts).toArray := by apply Array.ext'; simpa using h2
      obtain ⟨w', hr, r1, r2⟩ := delete_sound (P := P) (N := N) (ty := o.type) (ts := ts) hT hR hn hNn hv1 hv2 hs
      exact ⟨.value (.tuple #[]), .tuple #[], w', σ, by simp [execOp, ho, resolve, invoke, builtin, harr, hty, hr], .inl rfl, r1, r2, U _⟩
    · cases hq
  · rename_i args argTypes ho
    split at hq
    · rename_i x t ts h1 h2
      simp only [Option.map_eq_some_iff] at hq
      obtain ⟨h2', hs, hq⟩ := hq
      injection hq with q1 q2; subst q1; subst q2
      have hvs := opds_VR he h1
      simp only [VRs] at hvs
      obtain ⟨v1, r1, e1, hv1, e3⟩ := hvs
      subst e3
      have harr : args.map a.eval = #[v1] := by apply Array.ext'; simpa using e1
      have hty : argTypes = (t :: ts).toArray := by apply Array.ext'; simpa using h2
      obtain ⟨w', hr, r1, r2⟩ := clear_sound (P := P) (N := N) (ty := o.type) (ts := ts) hT hR hn hNn hv1 hs
      exact ⟨.value (.tuple #[]), .tuple #[], w', σ, by simp [execOp, ho, resolve, invoke, builtin, harr, hty, hr], .inl rfl, r1, r2, U _⟩
    · cases hq
  · cases hq

end
end Go.Ab
/-! The next step of an iterator; what a call enters. -/
namespace Go.Ab
section
variable {P : Program} {T : Tab} {σ : Sig} {Z : Nat → Prop} {h : Heap} {w : World} {e : List AV} {a : Act}

theorem MRs.filter {f : AV × AV × Nat → Bool} {g : MapEntry → Bool} (hfg : ∀ x e, VR σ Z w x.1 e.key → VR σ Z w x.2.1 e.val → e.born = x.2.2 → f x = g e) : ∀ {xs : List (AV × AV × Nat)} {es : List MapEntry}, MRs σ Z w xs es → MRs σ Z w (xs.filter f) (es.filter g)
  | [], es, h => by simp only [MRs] at h; subst h; simp [MRs]
  | x :: xs, es, h => by
    simp only [MRs] at h
    obtain ⟨e, es', rfl, h1, h2, h3, h4⟩ := h
    have := hfg x e h1 h2 h3
    simp only [List.filter_cons, this]
    split
    · simp only [MRs]; exact ⟨e, _, rfl, h1, h2, h3, MRs.filter hfg h4⟩
    · exact MRs.filter hfg h4

theorem MRs.get : ∀ {xs : List (AV × AV × Nat)} {es : List MapEntry} {i : Nat} {e : MapEntry}, MRs σ Z w xs es → es[i]? = some e → ∃ x, xs[i]? = some x ∧ VR σ Z w x.1 e.key ∧ VR σ Z w x.2.1 e.val ∧ e.born = x.2.2
  | [], es, i, e, h, hi => by simp only [MRs] at h; subst h; simp at hi
  | x :: xs, es, i, e, h, hi => by
    simp only [MRs] at h
    obtain ⟨e', es', rfl, h1, h2, h3, h4⟩ := h
    cases i with
    | zero => simp at hi; subst hi; exact ⟨x, rfl, h1, h2, h3⟩
    | succ i => simpa using MRs.get h4 (by simpa using hi)

theorem MRs.all_born {f : Nat → Bool} : ∀ {xs : List (AV × AV × Nat)} {es : List MapEntry}, MRs σ Z w xs es → es.all (fun e => f e.born) = xs.all (fun x => f x.2.2)
  | [], es, h => by simp only [MRs] at h; subst h; rfl
  | x :: xs, es, h => by
    simp only [MRs] at h
    obtain ⟨e, es', rfl, h1, h2, h3, h4⟩ := h
    simp only [List.all_cons, h3, MRs.all_born h4]

theorem MRs.isEmpty {xs : List (AV × AV × Nat)} {es : List MapEntry} (hm : MRs σ Z w xs es) : es.isEmpty = xs.isEmpty := by
  have := hm.length
  cases xs <;> cases es <;> first | rfl | simp at this

theorem arr_isEmpty {α : Type} (xs : Array α) : xs.isEmpty = xs.toList.isEmpty := by
  obtain ⟨l⟩ := xs
  cases l <;> rfl

/-- The world but for how much has been drawn. -/
theorem R.drawn (hR : R σ Z h w) {W : World} (hW : W.heap = w.heap) : R σ Z h W := by
  have hg : Grow σ Z w σ Z W := ⟨fun _ _ h => h, fun _ h => h, fun b _ => by rw [hW], fun b => by unfold csize; rw [hW]; exact Nat.le_refl _⟩
  exact ⟨hR.nofresh, hR.top, fun id o hid => by
    obtain ⟨p, hp, hb⟩ := hR.live id o hid
    exact ⟨p, hp, hb.grow hg (by rw [hW])⟩, hR.inj, hR.own, fun b hb => by rw [hW]; exact hR.zlt b hb, hR.lim⟩

theorem Grow.drawn {W : World} (hW : W.heap = w.heap) : Grow σ Z w σ Z W :=
  ⟨fun _ _ h => h, fun _ h => h, fun b _ => by rw [hW], fun b => by unfold csize; rw [hW]; exact Nat.le_refl _⟩

theorem Ext.drawn {N : Nat} (hN : N ≤ h.next) {W : World} (hW : W.heap = w.heap) (h1 : W.os = w.os) (h2 : W.tape = w.tape) (h3 : W.output = w.output) : Ext N σ Z h w σ Z h W :=
  ⟨fun _ _ h => h, fun _ h => h, fun _ h => .inl h, fun _ h => .inr h, fun _ _ _ => by rw [hW], by rw [hW]; exact Nat.le_refl _, (Grow.drawn (σ := σ) (Z := Z) hW).csz, fun _ _ h => h, hN, h1, h2, h3⟩

theorem run_choose_lt {n : Nat} (hn : 0 < n) : ∃ k W, (choose (.mapNext n)).run P w = .ok k W ∧ k < n ∧ W.heap = w.heap ∧ W.os = w.os ∧ W.tape = w.tape ∧ W.output = w.output := by
  rw [run_choose]
  by_cases h1 : n ≤ 1
  · exact ⟨0, w, by simp [Question.forced, h1], hn, rfl, rfl, rfl, rfl⟩
  · refine ⟨Question.cut (.mapNext n) (w.tape w.drawn (.mapNext n)), { w with drawn := w.drawn + 1 }, by simp only [Question.forced, h1, decide_false, Bool.false_eq_true, if_false], ?_, rfl, rfl, rfl, rfl⟩
    simp only [Question.cut]
    exact Nat.mod_lt _ hn

theorem nx_sound {N : Nat} (hR : R σ Z h w) (he : ER σ Z w e a) (hN : N ≤ h.next) {o : Oper} {outs : List (AV × Heap)} (hq : nxOp T e h o.op = some outs) :
    ∃ out ∈ outs, Writes P N σ Z h w o a out.1 out.2 := by
  unfold nxOp at hq
  split at hq
  · rename_i x ho
    split at hq
    · rename_i r hx
      have hv := opd_VR he hx
      simp only [VR] at hv
      obtain ⟨p, hp, hv⟩ := hv
      split at hq
      · rename_i since seen stepped hg
        injection hq with hq; subst hq
        obtain ⟨q, hq', hbr⟩ := hR.live _ _ hg
        rw [hp] at hq'; injection hq' with hq'; subst hq'
        obtain ⟨h0, m', g1, g2⟩ := hbr
        simp only at g2; subst g2
        refine ⟨_, List.mem_singleton.2 rfl, .value (.tuple #[.bool false]), .tuple #[.bool false], w, σ, ?_, .inl rfl, hR, Ext.refl _ _ _ _ hN, by simp only [VR]; exact ⟨_, rfl, by simp [VRs, VR]⟩⟩
        have hgo : (getObj p.1).run P w = .ok (.mapIter none since seen.toArray stepped) w := by simp [getObj, Sem.run, g1]
        simp [execOp, ho, hv, Instr.next, h0, hgo]
      · rename_i m since seen stepped hg
        split at hq
        · rename_i es clock hgm
          split at hq
          · cases hq
          · rename_i hbad
            injection hq with hq; subst hq
            obtain ⟨q, hq', hbr⟩ := hR.live _ _ hg
            rw [hp] at hq'; injection hq' with hq'; subst hq'
            obtain ⟨h0, m', g1, qm, hqm, rfl⟩ := hbr
            obtain ⟨qm', hqm', hbm⟩ := hR.live _ _ hgm
            rw [hqm] at hqm'; injection hqm' with hqm'; subst hqm'
            obtain ⟨h0m, ents, k1, k2⟩ := hbm
            have hgo : (getObj p.1).run P w = .ok (.mapIter (some qm.1) since seen.toArray stepped) w := by simp [getObj, Sem.run, g1]
            have hgm' := run_getMap (P := P) k1
            have hall := MRs.all_born (f := fun b => decide (b ≥ stepped)) k2
            have hemp : ents.isEmpty = es.isEmpty := by rw [arr_isEmpty, k2.isEmpty]
            have hleft := MRs.filter (f := fun x => !seen.contains x.2.2) (g := fun e => !seen.contains e.born) (fun x e _ _ h3 => by rw [h3]) k2
            have hold := MRs.filter (f := fun x => decide (x.2.2 < since)) (g := fun e => decide (e.born < since)) (fun x e _ _ h3 => by rw [h3]) hleft
            have hnew := MRs.filter (f := fun x => decide (x.2.2 ≥ since)) (g := fun e => decide (e.born ≥ since)) (fun x e _ _ h3 => by rw [h3]) hleft
            generalize hO : (ents.filter fun e => !seen.toArray.contains e.born).filter (fun e => decide (e.born < since)) = O
            generalize hNw : (ents.filter fun e => !seen.toArray.contains e.born).filter (fun e => decide (e.born ≥ since)) = Nw
            have hOl : O.toList = ((ents.toList.filter fun e => !seen.contains e.born).filter fun e => decide (e.born < since)) := by rw [← hO]; simp
            have hNl : Nw.toList = ((ents.toList.filter fun e => !seen.contains e.born).filter fun e => decide (e.born ≥ since)) := by rw [← hNw]; simp
            rw [← hOl] at hold
            rw [← hNl] at hnew
            generalize hAO : (es.filter fun x => !seen.contains x.2.2).filter (fun x => decide (x.2.2 < since)) = AOl at *
            generalize hAN : (es.filter fun x => !seen.contains x.2.2).filter (fun x => decide (x.2.2 ≥ since)) = ANl at *
            have hcomb := MRs.append hold hnew
            have hOe : O.isEmpty = AOl.isEmpty := by rw [arr_isEmpty, hold.isEmpty]
            let cands : Array (Option MapEntry) := (if O.isEmpty then #[none] else #[]) ++ (O ++ Nw).map some
            have hcl : cands.toList = (if O.isEmpty then [none] else []) ++ (O.toList ++ Nw.toList).map some := by
              simp only [cands]
              cases O.isEmpty <;> simp
            have hpos : 0 < cands.size := by
              rw [← Array.length_toList, hcl]
              cases hc : O.isEmpty
              · rw [arr_isEmpty] at hc
                cases hl : O.toList with
                | nil => rw [hl] at hc; cases hc
                | cons x xs => simp
              · simp
            obtain ⟨k, W, hch, hk, hW, hW1, hW2, hW3⟩ := run_choose_lt (P := P) (w := w) hpos
            have hbad' : ¬ ((!seen.toArray.isEmpty && !ents.isEmpty && ents.all fun e => decide (e.born ≥ stepped)) = true) := by
              have e1 : ents.all (fun e => decide (e.born ≥ stepped)) = es.all (fun x => decide (x.2.2 ≥ stepped)) := by rw [← hall]; simp
              have e2 : seen.toArray.isEmpty = seen.isEmpty := by cases seen <;> rfl
              rw [e1, e2, hemp]; exact hbad
            have hpre : (Instr.next (.pointer (some ⟨p.1, 0, none⟩)) false o.type).run P w = (match cands[k]? with
                | some (some e) => (do setObj p.1 (.mapIter (some qm.1) since (seen.toArray.push e.born) clock); pure (.tuple #[.bool true, e.key, e.val]) : Sem Value)
                | some none => pure (.tuple #[.bool false])
                | none => stuck "Next: no such candidate").run P W := by
              unfold Instr.next
              simp only [Sem.run_bind, hgo, Result.andThen_ok, hgm']
              rw [if_neg hbad']
              simp only [hO, hNw]
              have hch' : (choose (.mapNext ((if O.isEmpty = true then #[none] else #[]) ++ (O ++ Nw).map some).size)).run P w = .ok k W := hch
              simp only [Sem.run_bind, hch', Result.andThen_ok]
              rfl
            have hexec : (execOp a.eval o).run P w = ((Instr.next (.pointer (some ⟨p.1, 0, none⟩)) false o.type).run P w).andThen fun v w' => .ok (.value v) w' := by
              have hp0 : (⟨p.1, p.2 + 0, none⟩ : Addr) = ⟨p.1, 0, none⟩ := by rw [h0]
              simp only [execOp, ho, hv, hp0, Sem.run_bind, Sem.run_pure]
            have hRW := hR.drawn hW
            have hEW : Ext N σ Z h w σ Z h W := Ext.drawn hN hW hW1 hW2 hW3
            have found : ∀ (i : Nat) (en : MapEntry), (O.toList ++ Nw.toList)[i]? = some en → cands[k]? = some (some en) → ∃ out ∈ (AOl ++ ANl).map (fun x => ((AV.tup [.bool true, x.1, x.2.1], h.set r (some (.mit (some m) since (seen ++ [x.2.2]) clock))) : AV × Heap)), Writes P N σ Z h w o a out.1 out.2 := by
              intro i en hi hce
              obtain ⟨x, hx, x1, x2, x3⟩ := MRs.get hcomb hi
              refine ⟨_, List.mem_map.2 ⟨x, List.mem_of_getElem? hx, rfl⟩, ?_⟩
              obtain ⟨hr, hu⟩ := upd_setObj (P := P) (w := W) (b := p.1) (o := .mapIter (some qm.1) since (seen.toArray.push en.born) clock) (by rw [hW]; exact g1) (by simp)
              obtain ⟨r1, r2⟩ := update_state (N := N) (ao' := .mit (some m) since (seen ++ [x.2.2]) clock) hRW hg hp hR.lim hN (by rw [hW]; exact g1) hu (by simp) fun hgr => ⟨h0, some qm.1, by rw [hu.at_, x3]; simp, qm, hqm, rfl⟩
              have hg2 := r2.grow hRW
              have hgd : Grow σ Z w σ Z W := Grow.drawn hW
              refine ⟨.value (.tuple #[.bool true, en.key, en.val]), .tuple #[.bool true, en.key, en.val], _, σ, ?_, .inl rfl, r1, hEW.trans r2, ?_⟩
              · rw [hexec, hpre, hce]
                simp only [Sem.run_bind, hr, Result.andThen_ok, Sem.run_pure]
              · simp only [VR, VRs]
                exact ⟨_, rfl, _, _, rfl, rfl, _, _, rfl, (x1.grow hgd).grow hg2, _, _, rfl, (x2.grow hgd).grow hg2, rfl⟩
            have hck : cands[k]? = cands.toList[k]? := by simp
            have hk' : k < cands.toList.length := by simpa using hk
            cases hO' : O.isEmpty
            · rw [hO'] at hcl
              simp only [Bool.false_eq_true, if_false, List.nil_append] at hcl
              rw [hcl, List.getElem?_map] at hck
              have hkl : k < (O.toList ++ Nw.toList).length := by rw [hcl] at hk'; simpa using hk'
              rw [List.getElem?_eq_getElem hkl] at hck
              obtain ⟨out, ho1, ho2⟩ := found k _ (List.getElem?_eq_getElem hkl) hck
              exact ⟨out, List.mem_append_right _ ho1, ho2⟩
            · rw [hO'] at hcl hOe
              simp only [if_true] at hcl
              cases k with
              | zero =>
                rw [hcl] at hck
                simp at hck
                refine ⟨(.tup [.bool false], h), List.mem_append_left _ (by simp [← hOe]), .value (.tuple #[.bool false]), .tuple #[.bool false], W, σ, ?_, .inl rfl, hRW, hEW, by simp only [VR]; exact ⟨_, rfl, by simp [VRs, VR]⟩⟩
                rw [hexec, hpre, show cands[0]? = some none by simpa using hck]
                simp
              | succ k =>
                rw [hcl] at hck
                have hkl : k < (O.toList ++ Nw.toList).length := by rw [hcl] at hk'; simp at hk' ⊢; omega
                simp only [List.cons_append, List.nil_append, List.getElem?_cons_succ, List.getElem?_map] at hck
                rw [List.getElem?_eq_getElem hkl] at hck
                obtain ⟨out, ho1, ho2⟩ := found k _ (List.getElem?_eq_getElem hkl) hck
                exact ⟨out, List.mem_append_right _ ho1, ho2⟩
        · cases hq
      · cases hq
    · cases hq
  · cases hq

end
end Go.Ab
