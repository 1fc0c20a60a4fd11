/- The quiet operations answer what the abstract ones tell, at a program whose tables are told rightly. -/
import Derived.Test.YtejdoilocmoojaaGreatZA1
import Derived.Laws.Sem
import Derived.Laws.Cells
import Derived.Laws.World
import Derived.Laws.Small
import Derived.Laws.Pointers
import Derived.Laws.Strings
import Derived.WalkKit
import Derived.ProofKit
import Derived.Laws.StructEq
import Derived.Laws.BytesString
import Derived.WalkSpells
import Derived.LaidEqlPtr
set_option linter.unusedSimpArgs false
set_option linter.unusedVariables false
/-! What the quiet operations answer: the abstract answer is the model's. -/
namespace Go.Ab

structure Tab.ok (T : Tab) (P : Program) : Prop where
  und : ∀ t d, T.und t = some d → P.underlying t = some d
  size : ∀ t n, T.size t = some n → ∃ i, P.info? t = some i ∧ i.size = n
  bytes : ∀ t n, T.bytes t = some n → ∃ i, P.info? t = some i ∧ i.bytes = n
  zero : ∀ t z, T.zero t = some z → ∃ i v, P.info? t = some i ∧ i.zero = some v ∧ ∀ σ Z w, VR σ Z w z v
  eqok : ∀ t, T.eqok t = true → P.eqGuardType P.depth t = false ∧ P.stoodInHeld t = false
  go : ∀ f, T.go f = true → ∃ fn, P.funcs[f]? = some fn ∧ (fn.name == "runtime.NumGoroutine") = false ∧ fn.body.isNone = false
  ext : ∀ f n, T.ext f = some n → ∃ fn, P.funcs[f]? = some fn ∧ (fn.name == "runtime.NumGoroutine") = false ∧ fn.body.isNone = true ∧ Extern.findNext fn = none ∧
    ((n = 0 ∧ Extern.find fn = some Extern.MapsClone.clone) ∨ (n = 1 ∧ Extern.find fn = some Extern.BytealgCompare.compare))
  meth : ∀ t name f q, T.meth t name = some (f, q) → ∃ i m pr, P.info? t = some i ∧ i.methods.find? (fun x => x.name == name) = some m ∧ m.path = #[] ∧ m.func = some (f, pr) ∧
    (match q with
     | none => (pr = true ∧ ∃ el, P.underlying t = some (.pointer el)) ∨ (pr = false ∧ ∃ d, P.underlying t = some d ∧ ∀ el, d ≠ .pointer el)
     | some el => pr = false ∧ P.underlying t = some (.pointer el))

section
variable {P : Program} {T : Tab} {σ : Sig} {Z : Nat → Prop} {h : Heap} {w : World} {e : List AV} {a : Act}

theorem run_und (hT : T.ok P) {t : TypeId} {d : TypeDesc} (h : T.und t = some d) (w : World) : (underlying t).run P w = .ok d w := by
  simp [underlying, hT.und _ _ h]

theorem run_size (hT : T.ok P) {t : TypeId} {n : Nat} (h : T.size t = some n) (w : World) : (sizeOf t).run P w = .ok n w := by
  obtain ⟨i, hi, rfl⟩ := hT.size _ _ h
  simp [sizeOf, typeInfo, hi]

theorem run_zero (hT : T.ok P) {t : TypeId} {z : AV} (h : T.zero t = some z) (σ : Sig) (Z : Nat → Prop) (w : World) : ∃ v, (∀ w', (zeroValue t).run P w' = .ok v w') ∧ VR σ Z w z v ∧ ∀ w', VR σ Z w' z v := by
  obtain ⟨i, v, hi, hz, hv⟩ := hT.zero _ _ h
  exact ⟨v, fun w' => by simp [zeroValue, typeInfo, hi, hz], hv _ _ _, fun w' => hv _ _ _⟩

theorem ofConst_VR {v : Value} {av : AV} (h : ofConst v = some av) : VR σ Z w av v := by
  unfold ofConst at h
  split at h <;> first
    | (injection h with h; subst h; simp only [VR]; done)
    | (cases h; done)
    | (split at h
       · injection h with h; subst h
         rename_i cs hs
         simp only [VR, VRs]
         exact ⟨cs, rfl, by simpa using Array.eq_empty_of_size_eq_zero hs⟩
       · cases h)

theorem opd_VR (he : ER σ Z w e a) {x : Operand} {av : AV} (h : opd e x = some av) : VR σ Z w av (a.eval x) := by
  cases x with
  | tmp t =>
    obtain ⟨v, hv, hr⟩ := VRs.get he h
    have : a.tmps[t]? = some v := by simpa using hv
    simp only [Act.eval, Array.getD_eq_getD_getElem?, this, Option.getD_some]
    exact hr
  | const v => exact ofConst_VR h
  | global g => simp [opd] at h
  | func f =>
    simp only [opd] at h
    injection h with h; subst h
    simp only [VR, VRs, Act.eval]
    exact ⟨#[], #[], rfl, rfl, rfl⟩

theorem opds_VR (he : ER σ Z w e a) : ∀ {xs : List Operand} {as : List AV}, opds e xs = some as → VRs σ Z w as (xs.map a.eval)
  | [], as, h => by
    simp only [opds] at h; injection h with h; subst h; simp [VRs]
  | x :: xs, as, h => by
    simp only [opds] at h
    split at h
    · rename_i a1 as1 h1 h2
      injection h with h; subst h
      simp only [List.map_cons, VRs]
      exact ⟨_, _, rfl, opd_VR he h1, opds_VR he h2⟩
    · cases h

theorem optd_VR (he : ER σ Z w e a) {x : Option Operand} {ax : Option AV} (h : optd e x = some ax) :
    (x = none ∧ ax = none) ∨ ∃ y b, x = some y ∧ ax = some b ∧ VR σ Z w b (a.eval y) := by
  cases x with
  | none => simp only [optd] at h; injection h with h; exact .inl ⟨rfl, h.symm⟩
  | some y =>
    simp only [optd, Option.map_eq_some_iff] at h
    obtain ⟨b, hb, rfl⟩ := h
    exact .inr ⟨y, b, rfl, rfl, opd_VR he hb⟩

/-! ### Memory that is read -/

theorem rowOf_get {id : Nat} {cs : Cs} (h1 : rowOf h id = some cs) : ∃ s, h.get id = some (some (.row s cs)) := by
  unfold rowOf at h1
  split at h1
  · injection h1 with h1; subst h1; exact ⟨_, by assumption⟩
  · cases h1

theorem row_cells (hR : R σ Z h w) {id : Nat} {cs : Cs} (h1 : rowOf h id = some cs) : ∃ p vs, σ id = some p ∧ VRs σ Z w cs.toList vs ∧ (cellsAt w p.1 p.2 vs ∧ ones vs) ∧ p.2 + vs.length ≤ csize w p.1 := by
  obtain ⟨s, hg⟩ := rowOf_get h1
  obtain ⟨p, hp, hb⟩ := hR.live _ _ hg
  obtain ⟨c, t, fr, vs, g1, g2, g3, g4, g5, g7, g6⟩ := hb
  refine ⟨p, vs, hp, g4, ⟨fun i v hi => ?_, g7⟩, by simp only [csize, g1]; exact g5⟩
  simp only [World.cell?, g1, Option.isSome_none, Bool.false_eq_true, if_false]
  exact g6 i v hi

theorem cellsAt.take {b o : Nat} {vs : List Value} (hc : cellsAt w b o vs) (n : Nat) : cellsAt w b o (vs.take n) := fun i v hi => by
  rw [List.getElem?_take] at hi
  split at hi
  · exact hc i v hi
  · cases hi

theorem cellsAt.drop {b o : Nat} {vs : List Value} (hc : cellsAt w b o vs) (n : Nat) : cellsAt w b (o + n) (vs.drop n) := fun i v hi => by
  rw [List.getElem?_drop] at hi
  have := hc (n + i) v hi
  rwa [← Nat.add_assoc] at this

theorem cellsOf_VR (hR : R σ Z h w) {x : AV} {v : Value} {n : Nat} {ys : List AV} (hv : VR σ Z w x v) (hc : cellsOf h x n = some ys) :
    ∃ b o us, v = .pointer (some ⟨b, o, none⟩) ∧ VRs σ Z w ys us ∧ us.length = n ∧ cellsAt w b o us ∧ ones us := by
  unfold cellsOf at hc
  split at hc
  · rename_i id off
    simp only [VR] at hv
    obtain ⟨p, hp, rfl⟩ := hv
    simp only [Option.bind_eq_some_iff] at hc
    obtain ⟨cs, h1, h2⟩ := hc
    obtain ⟨q, vs, hq, k1, k2, k3⟩ := row_cells hR h1
    rw [hp] at hq; injection hq with hq; subst hq
    obtain ⟨rfl, hl, _⟩ := Cs.read_eq h2
    refine ⟨p.1, p.2 + off, (vs.drop off).take n, rfl, VRs.take _ (VRs.drop _ k1), ?_, (k2.1.drop off).take n, (k2.2.drop off).take n⟩
    rw [← VRs.length k1] at hl
    simp; omega
  · rename_i cs
    simp only [VR] at hv
    obtain ⟨b, o, vs, rfl, hz, k1, k2, k3⟩ := hv
    split at hc
    · injection hc with hc; subst hc
      refine ⟨b, o, vs.take n, rfl, VRs.take _ k1, ?_, k2.take n, k3.take n⟩
      have := VRs.length k1
      simp; omega
    · cases hc
  · cases hc

theorem cellOf_VR (hR : R σ Z h w) {x : AV} {v : Value} {y : AV} (hv : VR σ Z w x v) (hc : cellOf h x = some y) :
    ∃ b o u, v = .pointer (some ⟨b, o, none⟩) ∧ VR σ Z w y u ∧ w.cell? ⟨b, o, none⟩ = some u := by
  unfold cellOf at hc
  split at hc
  · rename_i id off
    simp only [VR] at hv
    obtain ⟨p, hp, rfl⟩ := hv
    simp only [Option.bind_eq_some_iff] at hc
    obtain ⟨cs, h1, h2⟩ := hc
    obtain ⟨q, vs, hq, k1, k2, k3⟩ := row_cells hR h1
    rw [hp] at hq; injection hq with hq; subst hq
    rw [Cs.get?_eq] at h2
    obtain ⟨u, hu, hr⟩ := VRs.get k1 h2
    exact ⟨p.1, p.2 + off, u, rfl, hr, k2.1 _ _ hu⟩
  · rename_i cs
    simp only [VR] at hv
    obtain ⟨b, o, vs, rfl, hz, k1, k2, _⟩ := hv
    rw [List.head?_eq_getElem?] at hc
    obtain ⟨u, hu, hr⟩ := VRs.get k1 hc
    exact ⟨b, o, u, rfl, hr, by simpa using k2 _ _ hu⟩
  · cases hc

theorem run_isAgg (hT : T.ok P) {t : TypeId} {d : TypeDesc} (h : T.und t = some d) (w : World) : (isAgg t).run P w = .ok (isAggD d) w := by
  simp only [isAgg, Sem.run_bind, run_und hT h, Result.andThen_ok]
  cases d <;> simp [isAggD]

theorem loadVar_sound (hT : T.ok P) (hR : R σ Z h w) {t : TypeId} {x y : AV} {v : Value} (hv : VR σ Z w x v) (hl : aLoad T h t x = some y) :
    ∃ b o u, v = .pointer (some ⟨b, o, none⟩) ∧ (loadVar t ⟨b, o, none⟩).run P w = .ok u w ∧ VR σ Z w y u := by
  unfold aLoad at hl
  split at hl
  · rename_i d n hd hn
    split at hl
    · rename_i hagg
      simp only [Option.map_eq_some_iff] at hl
      obtain ⟨ys, hys, rfl⟩ := hl
      obtain ⟨b, o, us, rfl, k1, k2, k3, k4⟩ := cellsOf_VR hR hv hys
      refine ⟨b, o, .agg us.toArray, rfl, ?_, by simp only [VR]; exact ⟨_, rfl, by simpa using k2, by simpa using k1, by simpa using k4⟩⟩
      have hr := run_loadCells_list (P := P) (w := w) ⟨b, o, none⟩ us (fun j u hj => by
        have := k3 j u hj
        unfold Addr.add; split
        · rename_i e0; subst e0; simpa using this
        · exact this)
      simp only [loadVar, Sem.run_bind, run_isAgg hT hd, Result.andThen_ok, hagg, if_true, run_size hT hn, ← k2, hr]
      rfl
    · rename_i hagg
      obtain ⟨b, o, u, rfl, k1, k2⟩ := cellOf_VR hR hv hl
      exact ⟨b, o, u, rfl, by simp [loadVar, run_isAgg hT hd, hagg, k2], k1⟩
  · cases hl

end
end Go.Ab
/-! What the quiet operations answer, one by one. -/
namespace Go.Ab
section
variable {P : Program} {T : Tab} {σ : Sig} {Z : Nat → Prop} {h : Heap} {w : World} {e : List AV} {a : Act}

theorem add_eq (b o n : Nat) : (⟨b, o, none⟩ : Addr).add n = ⟨b, o + n, none⟩ := by unfold Addr.add; split <;> simp_all

theorem rp_drop {cs : List AV} {b o : Nat} {vs : List Value} (n : Nat) (hz : cs ≠ [] → Z b) (hv : VRs σ Z w cs vs) (hc : cellsAt w b o vs ∧ ones vs) : VR σ Z w (.rp (cs.drop n)) (.pointer (some ⟨b, o + n, none⟩)) := by
  simp only [VR]
  refine ⟨b, o + n, vs.drop n, rfl, fun hn => hz ?_, VRs.drop n hv, hc.1.drop n, hc.2.drop n⟩
  intro h0; subst h0; simp at hn

theorem shift_VR {x y : AV} {v : Value} {n : Nat} (hv : VR σ Z w x v) (hs : x.shift n = some y) : ∃ b o, v = .pointer (some ⟨b, o, none⟩) ∧ VR σ Z w y (.pointer (some ⟨b, o + n, none⟩)) := by
  unfold AV.shift at hs
  split at hs
  · injection hs with hs; subst hs
    simp only [VR] at hv
    obtain ⟨p, hp, rfl⟩ := hv
    exact ⟨p.1, _, rfl, by simp only [VR]; exact ⟨p, hp, by rw [Nat.add_assoc]⟩⟩
  · injection hs with hs; subst hs
    simp only [VR] at hv
    obtain ⟨b, o, vs, rfl, hz, k1, k2⟩ := hv
    exact ⟨b, o, rfl, rp_drop n hz k1 k2⟩
  · cases hs

theorem fieldAt_sound (hT : T.ok P) {s : TypeId} {x y : AV} {v : Value} {f : Nat} (hv : VR σ Z w x v) (hl : aFieldAddr T s x f = some y) :
    ∃ u, (Instr.fieldAt s v f).run P w = .ok u w ∧ VR σ Z w y u := by
  unfold aFieldAddr at hl
  split at hl
  · rename_i fields hd
    split at hl
    · rename_i fd hf
      split at hl
      · rename_i n hn
        obtain ⟨b, o, rfl, hy⟩ := shift_VR hv hl
        refine ⟨_, ?_, hy⟩
        simp [Instr.fieldAt, run_und hT hd, hf, Instr.sureAddr, fieldPlace, run_size hT hn, add_eq]
      · cases hl
    · cases hl
  · cases hl

theorem part_sound (hT : T.ok P) {t : TypeId} {cs : List AV} {xs : Array Value} {off m : Nat} {y : AV} (hm : xs.size = m) (hv : VRs σ Z w cs xs.toList) (h1 : ones xs.toList) (hl : aPart T t m cs off = some y) :
    ∃ u, (part t xs off).run P w = .ok u w ∧ VR σ Z w y u := by
  unfold aPart at hl
  split at hl
  · rename_i d n hd hn
    split at hl
    · rename_i hagg
      split at hl
      · rename_i hle
        injection hl with hl; subst hl
        refine ⟨.agg (xs.extract off (off + n)), by simp only [part, Sem.run_bind, run_isAgg hT hd, Result.andThen_ok, hagg, if_true, run_size hT hn, Sem.run_pure], ?_⟩
        simp only [VR]
        refine ⟨_, rfl, by simp; omega, ?_⟩
        have : (xs.extract off (off + n)).toList = (xs.toList.drop off).take n := by simp [Array.toList_extract, List.extract]
        rw [this]
        exact ⟨VRs.take n (VRs.drop off hv), (h1.drop off).take n⟩
      · cases hl
    · rename_i hagg
      obtain ⟨u, hu, hr⟩ := VRs.get hv hl
      refine ⟨u, ?_, hr⟩
      have hu' : xs[off]? = some u := by simpa using hu
      simp only [part, Sem.run_bind, run_isAgg hT hd, Result.andThen_ok, hagg, hu']
      rfl
  · cases hl

theorem field_sound (hT : T.ok P) {s : TypeId} {x y : AV} {v : Value} {f : Nat} (hv : VR σ Z w x v) (hl : aField T s x f = some y) :
    ∃ u, (Instr.field s v f).run P w = .ok u w ∧ VR σ Z w y u := by
  unfold aField at hl
  split at hl
  · rename_i fields m cs hd
    split at hl
    · rename_i fd hf
      simp only [VR] at hv
      obtain ⟨xs, rfl, hxn, hxs, hx1⟩ := hv
      obtain ⟨u, hu, hr⟩ := part_sound hT hxn hxs hx1 hl
      exact ⟨u, by simp [Instr.field, run_und hT hd, hf, asAgg, hu], hr⟩
    · cases hl
  · cases hl

theorem indexAt_sound (hT : T.ok P) {t : TypeId} {x i y : AV} {v u : Value} (hv : VR σ Z w x v) (hu : VR σ Z w i u) (hl : aIndexAddr T t x i = some y) :
    ∃ r, (Instr.indexAt t v u).run P w = .ok r w ∧ VR σ Z w y r := by
  unfold aIndexAddr at hl
  split at hl
  · rename_i len elem k n hd
    simp only [VR] at hu; subst hu
    split at hl
    · rename_i es hes
      split at hl
      · rename_i hb
        obtain ⟨b, o, rfl, hy⟩ := shift_VR hv hl
        refine ⟨_, ?_, hy⟩
        simp [Instr.indexAt, asIntOf, run_und hT hd, Instr.sureAddr, hb, run_size hT hes, add_eq]
      · cases hl
    · cases hl
  · rename_i elem id off es len cm ex k n hd
    simp only [VR] at hu; subst hu
    split at hl
    · rename_i es' hes
      split at hl
      · rename_i hb
        obtain ⟨rfl, hb⟩ := hb
        injection hl with hl; subst hl
        simp only [VR] at hv
        obtain ⟨p, ad, c, hp, rfl, hs, h1, h2, h3, h4, h5⟩ := hv
        have hc : c ≠ 0 := by omega
        have := h4 hc; subst this
        refine ⟨.pointer (some ⟨p.1, p.2 + off + n.toNat * es', none⟩), ?_, by simp only [VR]; exact ⟨p, hp, by rw [Nat.add_assoc]⟩⟩
        simp [Instr.indexAt, asIntOf, run_und hT hd, hb, run_size hT hes, add_eq]
      · cases hl
    · cases hl
  · rename_i elem len cs k n hd
    simp only [VR] at hu; subst hu
    split at hl
    · rename_i es hes
      split at hl
      · rename_i hb
        injection hl with hl; subst hl
        simp only [VR] at hv
        obtain ⟨b, o, c, vs, rfl, h1, h2, h3, h4⟩ := hv
        refine ⟨.pointer (some ⟨b, o + n.toNat * es, none⟩), ?_, rp_drop _ h2 h3 h4⟩
        simp [Instr.indexAt, asIntOf, run_und hT hd, hb, run_size hT hes, add_eq]
      · cases hl
    · cases hl
  · cases hl

theorem index_sound (hT : T.ok P) {t : TypeId} {x i y : AV} {v u : Value} (hv : VR σ Z w x v) (hu : VR σ Z w i u) (hl : aIndex T t x i = some y) :
    ∃ r, (Instr.index t v u).run P w = .ok r w ∧ VR σ Z w y r := by
  unfold aIndex at hl
  split at hl
  · rename_i len elem m cs k n hd
    simp only [VR] at hu; subst hu
    split at hl
    · rename_i es hes
      split at hl
      · rename_i hb
        simp only [VR] at hv
        obtain ⟨xs, rfl, hxn, hxs, hx1⟩ := hv
        obtain ⟨r, hr, hy⟩ := part_sound hT hxn hxs hx1 hl
        exact ⟨r, by simp [Instr.index, asIntOf, run_und hT hd, hb, run_size hT hes, hr], hy⟩
      · cases hl
    · cases hl
  · rename_i s k n hd
    simp only [VR] at hu hv; subst hu; subst hv
    split at hl
    · rename_i hb
      injection hl with hl; subst hl
      refine ⟨_, ?_, by simp only [VR]; rfl⟩
      have hg : s[n.toNat]? = some (s[n.toNat]'hb.2) := by simp [getElem?_pos, hb.2]
      simp [Instr.index, asIntOf, run_und hT hd, hb.1, hg]
    · cases hl
  · cases hl

/-! ### Slices -/

theorem bound_some {d l : Nat} {x : Option AV} (hb : bnd d x = some l) : (x = none ∧ l = d) ∨ ∃ k i, x = some (.int k i) ∧ 0 ≤ i ∧ l = i.toNat := by
  unfold bnd at hb
  split at hb
  · injection hb with hb; exact .inl ⟨rfl, hb.symm⟩
  · rename_i k i
    split at hb
    · rename_i h0; injection hb with hb; exact .inr ⟨k, i, rfl, h0, hb.symm⟩
    · cases hb
  · cases hb

/-- The bounds as the model has them. -/
def OptVR (σ : Sig) (Z : Nat → Prop) (w : World) (ax : Option AV) (x : Option Value) : Prop :=
  match ax, x with
  | none, none => True
  | some y, some v => VR σ Z w y v
  | _, _ => False

theorem sliceBounds_sound {lo hi mx : Option AV} {vl vh vm : Option Value} {isS : Bool} {len cap l u m : Nat} (hlo : OptVR σ Z w lo vl) (hhi : OptVR σ Z w hi vh) (hmx : OptVR σ Z w mx vm)
    (bl : bnd 0 lo = some l) (bh : bnd len hi = some u) (bm : bnd cap mx = some m) (hm : mx ≠ none → hi ≠ none) (h1 : l ≤ u) (h2 : u ≤ m ∨ (hi = none ∧ mx = none)) (h3 : m ≤ cap) :
    (Instr.sliceBounds isS len cap vl vh vm).run P w = .ok (l, u, m) w := by
  have E : ∀ {d n y : Nat} {x : AV} {v : Value} {code : BoundsCode}, VR σ Z w x v → bnd d (some x) = some n → n ≤ y → (Instr.sliceBound v y code).run P w = .ok n w := by
    intro d n y x v code hv hb hy
    rcases bound_some hb with ⟨h0, _⟩ | ⟨k, i, h0, h1, rfl⟩
    · cases h0
    · injection h0 with h0; subst h0
      simp only [VR] at hv; subst hv
      simp [Instr.sliceBound, asIntOf, h1, show i ≤ (y : Int) by omega]
  cases mx <;> cases vm <;> simp only [OptVR] at hmx
  · simp only [bnd] at bm; injection bm with bm; subst bm
    cases hi <;> cases vh <;> simp only [OptVR] at hhi
    · simp only [bnd] at bh; injection bh with bh; subst bh
      cases lo <;> cases vl <;> simp only [OptVR] at hlo
      · simp only [bnd] at bl; injection bl with bl; subst bl
        simp [Instr.sliceBounds]
      · have EL : ∀ code, (Instr.sliceBound _ _ code).run P w = .ok l w := fun code => E (code := code) hlo bl h1
        simp [Instr.sliceBounds, EL]
    · have hu : u ≤ cap := by rcases h2 with h2 | h2; exact h2; simp at h2
      have EH : ∀ code, (Instr.sliceBound _ _ code).run P w = .ok u w := fun code => E (code := code) hhi bh hu
      cases lo <;> cases vl <;> simp only [OptVR] at hlo
      · simp only [bnd] at bl; injection bl with bl; subst bl
        simp [Instr.sliceBounds, EH]
      · have EL : ∀ code, (Instr.sliceBound _ _ code).run P w = .ok l w := fun code => E (code := code) hlo bl h1
        simp [Instr.sliceBounds, EL, EH]
  · have EM : ∀ code, (Instr.sliceBound _ _ code).run P w = .ok m w := fun code => E (code := code) hmx bm h3
    cases hi <;> cases vh <;> simp only [OptVR] at hhi
    · exact absurd rfl (hm (by simp))
    · have hu : u ≤ m := by rcases h2 with h2 | h2; exact h2; simp at h2
      have EH : ∀ code, (Instr.sliceBound _ _ code).run P w = .ok u w := fun code => E (code := code) hhi bh hu
      cases lo <;> cases vl <;> simp only [OptVR] at hlo
      · simp only [bnd] at bl; injection bl with bl; subst bl
        simp [Instr.sliceBounds, EH, EM]
      · have EL : ∀ code, (Instr.sliceBound _ _ code).run P w = .ok l w := fun code => E (code := code) hlo bl h1
        simp [Instr.sliceBounds, EL, EH, EM]

end
end Go.Ab
/-! Slices of slices; comparisons; the rest of the quiet operations. -/
namespace Go.Ab
section
variable {P : Program} {T : Tab} {σ : Sig} {Z : Nat → Prop} {h : Heap} {w : World} {e : List AV} {a : Act}

theorem OptVR_none : OptVR σ Z w none none := trivial

theorem slice_sound (hT : T.ok P) (hR : R σ Z h w) {t : TypeId} {x y : AV} {v : Value} {lo hi mx : Option AV} {vl vh vm : Option Value} (hv : VR σ Z w x v)
    (hlo : OptVR σ Z w lo vl) (hhi : OptVR σ Z w hi vh) (hmx : OptVR σ Z w mx vm) (hl : aSlice T h t x lo hi mx = some y) :
    ∃ r, (Instr.sliceAt t v vl vh vm).run P w = .ok r w ∧ VR σ Z w y r := by
  unfold aSlice at hl
  split at hl
  · -- a string
    rename_i s hd
    simp only [VR] at hv; subst hv
    split at hl
    · rename_i l u b1 b2
      split at hl
      · rename_i hb
        injection hl with hl; subst hl
        cases vm <;> simp only [OptVR] at hmx
        have hs := sliceBounds_sound (P := P) (isS := false) (cap := s.size) (m := s.size) hlo hhi (OptVR_none) b1 b2 rfl (by simp) hb.1 (.inl hb.2) (Nat.le_refl _)
        exact ⟨.string (s.extract l u), by simp [Instr.sliceAt, Instr.slice, run_und hT hd, hs], by simp only [VR]⟩
      · cases hl
    · cases hl
  · -- nil
    rename_i elem hd
    simp only [VR] at hv; subst hv
    split at hl
    · rename_i es hes b1 b2
      injection hl with hl; subst hl
      cases vm <;> simp only [OptVR] at hmx
      have hs := sliceBounds_sound (P := P) (isS := true) (cap := 0) (m := 0) hlo hhi (OptVR_none) b1 b2 rfl (by simp) (Nat.le_refl _) (.inl (Nat.le_refl _)) (Nat.le_refl _)
      exact ⟨.slice none 0 0, by simp [Instr.sliceAt, Instr.slice, run_und hT hd, hs, run_size hT hes], by simp only [VR]⟩
    · cases hl
  · -- our own
    rename_i elem id off es len cm ex hd
    simp only [VR] at hv
    obtain ⟨p, ad, c, hp, rfl, g0, g1, g2, g3, g4, g5⟩ := hv
    split at hl
    · rename_i es' l u hes b1 b2
      split at hl
      · rename_i hb
        obtain ⟨rfl, hb⟩ := hb
        injection hl with hl; subst hl
        cases vm <;> simp only [OptVR] at hmx
        have hs := sliceBounds_sound (P := P) (isS := true) (cap := c) (m := c) hlo hhi (OptVR_none) b1 b2 rfl (by simp) hb.1 (.inl (by omega)) (Nat.le_refl _)
        refine ⟨.slice (some (if c = l then ad else ad.add (l * es'))) (u - l) (c - l), ?_, ?_⟩
        · simp only [Instr.sliceAt, Instr.slice, Sem.run_bind, run_und hT hd, Result.andThen_ok, hs, run_size hT hes, Sem.run_pure]
          by_cases hcl : c = l <;> simp [hcl]
        · simp only [VR]
          refine ⟨p, _, _, hp, rfl, ?_, by omega, by omega, fun hx => by rw [g3 hx], fun hc => ?_, ?_⟩
          · split
            · exact g0
            · unfold Addr.add; split <;> simp [g0]
          · rw [if_neg (by omega), g4 (by omega), add_eq, Nat.add_assoc]
          · have : (c - l) * es' + l * es' = c * es' := by rw [← Nat.add_mul, Nat.sub_add_cancel (by omega)]
            omega
      · cases hl
    · rename_i es' l u k m hes b1 b2
      split at hl
      · rename_i hb
        obtain ⟨hb0, rfl, hb⟩ := hb
        injection hl with hl; subst hl
        cases vm <;> simp only [OptVR] at hmx
        have hbm : bnd c (some (.int k m)) = some m.toNat := by simp [bnd]; omega
        have hs := sliceBounds_sound (P := P) (isS := true) (cap := c) (m := m.toNat) (mx := some (.int k m)) (vm := some _) hlo hhi hmx b1 b2 hbm (fun _ => by
          intro h0; subst h0; simp at hb0) hb.1 (.inl (by omega)) (by omega)
        refine ⟨.slice (some (if m.toNat = l then ad else ad.add (l * es'))) (u - l) (m.toNat - l), ?_, ?_⟩
        · simp only [Instr.sliceAt, Instr.slice, Sem.run_bind, run_und hT hd, Result.andThen_ok, hs, run_size hT hes, Sem.run_pure]
          by_cases hcl : m.toNat = l <;> simp [hcl]
        · simp only [VR]
          refine ⟨p, _, _, hp, rfl, ?_, by omega, by omega, fun _ => rfl, fun hc => ?_, ?_⟩
          · split
            · exact g0
            · unfold Addr.add; split <;> simp [g0]
          · rw [if_neg (by omega), g4 (by omega), add_eq, Nat.add_assoc]
          · have h1 : (m.toNat - l) * es' + l * es' = m.toNat * es' := by rw [← Nat.add_mul, Nat.sub_add_cancel (by omega)]
            have h2 : m.toNat * es' ≤ c * es' := Nat.mul_le_mul_right _ (by omega)
            omega
      · cases hl
    · cases hl
  · -- read only
    rename_i elem len cs hd
    simp only [VR] at hv
    obtain ⟨b, o, c, vs, rfl, g1, g2, g3, g4⟩ := hv
    split at hl
    · rename_i es l u hes b1 b2
      split at hl
      · rename_i hb
        injection hl with hl; subst hl
        cases vm <;> simp only [OptVR] at hmx
        have hs := sliceBounds_sound (P := P) (isS := true) (cap := c) (m := c) hlo hhi (OptVR_none) b1 b2 rfl (by simp) hb.1 (.inl (by omega)) (Nat.le_refl _)
        refine ⟨.slice (some (if c = l then ⟨b, o, none⟩ else (⟨b, o, none⟩ : Addr).add (l * es))) (u - l) (c - l), ?_, ?_⟩
        · simp only [Instr.sliceAt, Instr.slice, Sem.run_bind, run_und hT hd, Result.andThen_ok, hs, run_size hT hes, Sem.run_pure]
          by_cases hcl : c = l <;> simp [hcl]
        · by_cases hlu : l = u
          · rw [if_pos hlu]; subst hlu
            simp only [VR]
            by_cases hcl : c = l
            · exact ⟨b, o, c - l, [], by rw [if_pos hcl]; simp, by omega, fun h0 => absurd rfl h0, by simp [VRs], fun i v hi => by simp at hi, ones_nil⟩
            · exact ⟨b, o + l * es, c - l, [], by rw [if_neg hcl, add_eq]; simp, by omega, fun h0 => absurd rfl h0, by simp [VRs], fun i v hi => by simp at hi, ones_nil⟩
          · rw [if_neg hlu]
            have := rp_drop (σ := σ) (w := w) (l * es) g2 g3 g4
            simp only [VR] at this ⊢
            obtain ⟨b', o', vs', e1, k1, k2, k3⟩ := this
            injection e1 with e1; injection e1 with e1; injection e1 with e2 e3 _
            subst e2; subst e3
            exact ⟨b, o + l * es, c - l, vs', by rw [if_neg (by omega), add_eq], by omega, k1, k2, k3⟩
      · cases hl
    · cases hl
  · -- an array
    rename_i n elem id off hd
    split at hl
    · rename_i es l u cs hes b1 b2 hrow
      split at hl
      · rename_i hb
        injection hl with hl; subst hl
        simp only [VR] at hv
        obtain ⟨p, hp, rfl⟩ := hv
        cases vm <;> simp only [OptVR] at hmx
        have hs := sliceBounds_sound (P := P) (isS := false) (cap := n) (m := n) hlo hhi (OptVR_none) b1 b2 rfl (by simp) hb.1 (.inl hb.2.1) (Nat.le_refl _)
        refine ⟨.slice (some (if n = l then ⟨p.1, p.2 + off, none⟩ else (⟨p.1, p.2 + off, none⟩ : Addr).add (l * es))) (u - l) (n - l), ?_, ?_⟩
        · simp only [Instr.sliceAt, Sem.run_bind, run_und hT hd, Result.andThen_ok, Instr.sureAddr, Sem.run_pure, hs, run_size hT hes]
        · obtain ⟨q, vs, hq, k1, k2, k3⟩ := row_cells hR hrow
          rw [hp] at hq; injection hq with hq; subst hq
          simp only [VR]
          refine ⟨p, _, _, hp, rfl, ?_, by omega, by omega, fun _ => rfl, fun hc => ?_, ?_⟩
          · split
            · rfl
            · rw [add_eq]
          · rw [if_neg (by omega), add_eq, Nat.add_assoc]
          · have h1 : (n - l) * es + l * es = n * es := by rw [← Nat.add_mul, Nat.sub_add_cancel (by omega)]
            have := hb.2.2
            rw [Cs.len_eq, ← VRs.length k1] at this
            omega
      · cases hl
    · cases hl
  · cases hl

end
end Go.Ab
/-! Comparisons. -/
namespace Go.Ab
section
variable {P : Program} {T : Tab} {σ : Sig} {Z : Nat → Prop} {h : Heap} {w : World} {e : List AV} {a : Act}

theorem notStrg_row (hR : R σ Z h w) {id : Nat} (hn : notStrg h id = true) : ∃ p c t cs, σ id = some p ∧ w.heap[p.1]? = some (.cells c t (0, 0)) ∧ h.get id = some (some (.row false cs)) := by
  unfold notStrg at hn
  split at hn
  · rename_i cs hg
    obtain ⟨p, hp, hb⟩ := hR.live _ _ hg
    obtain ⟨c, t, fr, vs, g1, g2, _⟩ := hb
    have := g2 rfl; subst this
    exact ⟨p, c, t, cs, hp, g1, hg⟩
  · cases hn

theorem fieldsOf_eq {t : TypeId} {fields : Array Field} (h : P.underlying t = some (.struct fields)) : P.fieldsOf t = fields := by
  simp [Program.fieldsOf, h]

set_option maxHeartbeats 4000000 in
theorem aEq_sound (hT : T.ok P) (hR : R σ Z h w) : ∀ (n : Nat) (t : TypeId) (x y : AV) (v u : Value) (b : Bool), VR σ Z w x v → VR σ Z w y u → aEq T h n t x y = some b →
    ∀ d, (Op.equalIn (d + n) t v u).run P w = .ok b w
  | 0, _, _, _, _, _, _, _, _, hq => by simp [aEq] at hq
  | n + 1, t, x, y, v, u, b, hv, hu, hq => fun d => by
    show (Op.equalIn ((d + n) + 1) t v u).run P w = .ok b w
    unfold aEq at hq
    split at hq
    · rename_i a1 b1 hd
      simp only [VR] at hv hu; subst hv; subst hu
      injection hq with hq; subst hq
      simp [Op.equalIn, run_und hT hd]
    · rename_i k1 a1 k2 b1 hd
      simp only [VR] at hv hu; subst hv; subst hu
      split at hq
      · rename_i hk; subst hk
        injection hq with hq; subst hq
        simp [Op.equalIn, run_und hT hd]
      · cases hq
    · rename_i a1 b1 hd
      simp only [VR] at hv hu; subst hv; subst hu
      injection hq with hq; subst hq
      simp [Op.equalIn, run_und hT hd]
    · rename_i hd
      simp only [VR] at hv hu; subst hv; subst hu
      injection hq with hq; subst hq
      simp [Op.equalIn, run_und hT hd]
    · rename_i hd
      simp only [VR] at hv hu; subst hv
      obtain ⟨p, hp, rfl⟩ := hu
      injection hq with hq; subst hq
      simp [Op.equalIn, run_und hT hd]
    · rename_i hd
      simp only [VR] at hv hu; subst hu
      obtain ⟨p, hp, rfl⟩ := hv
      injection hq with hq; subst hq
      simp [Op.equalIn, run_und hT hd]
    · rename_i hd
      simp only [VR] at hv hu; subst hv
      obtain ⟨b0, o, vs, rfl, _⟩ := hu
      injection hq with hq; subst hq
      simp [Op.equalIn, run_und hT hd]
    · rename_i hd
      simp only [VR] at hv hu; subst hu
      obtain ⟨b0, o, vs, rfl, _⟩ := hv
      injection hq with hq; subst hq
      simp [Op.equalIn, run_und hT hd]
    · rename_i elem i a1 j b1 hd
      simp only [VR] at hv hu
      obtain ⟨p, hp, rfl⟩ := hv
      obtain ⟨q, hq', rfl⟩ := hu
      split at hq
      · rename_i sz hsz
        split at hq
        · rename_i hij; subst hij
          injection hq with hq; subst hq
          rw [hp] at hq'; injection hq' with hq'; subst hq'
          have hsa : (sameAddr ⟨p.1, p.2 + a1, none⟩ ⟨p.1, p.2 + b1, none⟩).run P w = .ok (a1 == b1) w := by
            by_cases hab : a1 = b1
            · simp [sameAddr, hab]
            · have h1 : ((⟨p.1, p.2 + a1, none⟩ : Addr) == ⟨p.1, p.2 + b1, none⟩) = false := by
                rw [beq_eq_false_iff_ne]; intro e0; injection e0 with _ e0 _; omega
              simp [sameAddr, h1, hab]
          simp [Op.equalIn, run_und hT hd, run_size hT hsz, hsa]
        · rename_i hij
          split at hq
          · rename_i hs
            simp only [Bool.and_eq_true] at hs
            injection hq with hq; subst hq
            obtain ⟨p', c1, t1, cs1, g1, g2, g3⟩ := notStrg_row hR hs.1
            obtain ⟨q', c2, t2, cs2, k1, k2, k3⟩ := notStrg_row hR hs.2
            rw [hp] at g1; injection g1 with g1; subst g1
            rw [hq'] at k1; injection k1 with k1; subst k1
            have hne : (⟨p.1, p.2 + a1, none⟩ : Addr) ≠ ⟨q.1, q.2 + b1, none⟩ := by
              intro e0; injection e0 with e0 _ _
              exact hij (hR.inj _ _ _ _ _ _ g3 k3 hp hq' e0)
            simp [Op.equalIn, run_und hT hd, run_size hT hsz, run_sameAddr_other w hne g2 k2]
          · cases hq
      · cases hq
    · rename_i hd
      simp only [VR] at hv hu; subst hv; subst hu
      injection hq with hq; subst hq
      simp [Op.equalIn, run_und hT hd]
    · rename_i hd
      simp only [VR] at hv hu; subst hv
      obtain ⟨p, ad, c, hp, rfl, _⟩ := hu
      injection hq with hq; subst hq
      simp [Op.equalIn, run_und hT hd]
    · rename_i hd
      simp only [VR] at hv hu; subst hu
      obtain ⟨p, ad, c, hp, rfl, _⟩ := hv
      injection hq with hq; subst hq
      simp [Op.equalIn, run_und hT hd]
    · rename_i hd
      simp only [VR] at hv hu; subst hv
      obtain ⟨b0, o, c, vs, rfl, _⟩ := hu
      injection hq with hq; subst hq
      simp [Op.equalIn, run_und hT hd]
    · rename_i hd
      simp only [VR] at hv hu; subst hu
      obtain ⟨b0, o, c, vs, rfl, _⟩ := hv
      injection hq with hq; subst hq
      simp [Op.equalIn, run_und hT hd]
    · rename_i hd
      simp only [VR] at hv hu; subst hv; subst hu
      injection hq with hq; subst hq
      simp [Op.equalIn, run_und hT hd]
    · rename_i hd
      simp only [VR] at hv hu; subst hv
      obtain ⟨p, hp, rfl⟩ := hu
      injection hq with hq; subst hq
      simp [Op.equalIn, run_und hT hd]
    · rename_i hd
      simp only [VR] at hv hu; subst hu
      obtain ⟨p, hp, rfl⟩ := hv
      injection hq with hq; subst hq
      simp [Op.equalIn, run_und hT hd]
    · rename_i hd
      simp only [VR] at hv hu; subst hv; subst hu
      injection hq with hq; subst hq
      simp [Op.equalIn, run_und hT hd]
    · rename_i hd
      simp only [VR] at hv hu; subst hv
      obtain ⟨xs, ys, rfl, _⟩ := hu
      injection hq with hq; subst hq
      simp [Op.equalIn, run_und hT hd]
    · rename_i hd
      simp only [VR] at hv hu; subst hu
      obtain ⟨xs, ys, rfl, _⟩ := hv
      injection hq with hq; subst hq
      simp [Op.equalIn, run_und hT hd]
    · rename_i hd
      simp only [VR] at hv hu; subst hv
      obtain ⟨y, rfl, _⟩ := hu
      injection hq with hq; subst hq
      simp [Op.equalIn, run_und hT hd]
    · rename_i hd
      simp only [VR] at hv hu; subst hu
      obtain ⟨y, rfl, _⟩ := hv
      injection hq with hq; subst hq
      simp [Op.equalIn, run_und hT hd]
    · rename_i fields mx xs my ys hd
      simp only [VR] at hv hu
      obtain ⟨vs, rfl, hvn, hvs, hv1⟩ := hv
      obtain ⟨us, rfl, hun, hus, hu1⟩ := hu
      split at hq
      · rename_i hok
        have hu := hT.und _ _ hd
        rw [run_equalIn_struct w (d + n) t vs us (by rw [fieldsOf_eq hu]; exact hu) (hT.eqok _ hok).2, fieldsOf_eq hu]
        have key : ∀ (fs : List Field), aEq.aEqFs T (fun t x y => aEq T h n t x y) mx my fs xs ys = some b → (Op.eqFields (d + n) vs us fs).run P w = .ok b w := by
          intro fs
          induction fs with
          | nil => intro hf; simp only [aEq.aEqFs] at hf; injection hf with hf; subst hf; simp [Op.eqFields]
          | cons f fs ih =>
            intro hf
            simp only [aEq.aEqFs] at hf
            split at hf
            · rename_i hname
              split at hf
              · rename_i p1 p2 hp1 hp2
                obtain ⟨r1, hr1, hw1⟩ := part_sound hT hvn hvs hv1 hp1
                obtain ⟨r2, hr2, hw2⟩ := part_sound hT hun hus hu1 hp2
                split at hf
                · rename_i he
                  have := aEq_sound hT hR n _ _ _ _ _ _ hw1 hw2 he d
                  simp [Op.eqFields, hname, hr1, hr2, this, ih hf]
                · rename_i he
                  injection hf with hf; subst hf
                  have := aEq_sound hT hR n _ _ _ _ _ _ hw1 hw2 he d
                  simp [Op.eqFields, hname, hr1, hr2, this]
                · cases hf
              · cases hf
            · rename_i hname
              simp [Op.eqFields, hname, ih hf]
        exact key _ hq
      · cases hq
    · cases hq

theorem stringOp_sound {op : BinOp} {x y : ByteArray} {av : AV} (hq : aStr op x y = some av) : ∃ v, (Op.stringOp op x y).run P w = .ok v w ∧ VR σ Z w av v := by
  cases op <;> simp only [aStr] at hq <;> try (injection hq with hq; subst hq; simp only [VR, Op.stringOp]; exact ⟨_, rfl, rfl⟩)
  all_goals first
    | (split at hq
       · injection hq with hq; subst hq
         simp only [VR]
         refine ⟨_, ?_, rfl⟩
         have hle : ¬ (((x.size + y.size : Nat) : Int) > IntKind.i64.max) := by simp [IntKind.max, IntKind.signed, IntKind.bits]; omega
         simp only [Op.stringOp, if_neg hle, Sem.run_pure]
       · cases hq)
    | cases hq

theorem eqGuard_plain {op : BinOp} {t : TypeId} {x y : Operand} {v u : Value} (hn : ¬ (v = .nilIface ∧ u = .nilIface)) (hg : ∀ xs ys, v = .agg xs → u = .agg ys → P.eqGuardType P.depth t = false) :
    (eqGuard op t x y v u).run P w = .ok () w := by
  cases op <;> simp [eqGuard]
  all_goals
    split
    · exact absurd ⟨rfl, rfl⟩ hn
    · rename_i xs ys
      simp [hg xs ys rfl rfl]
    · rfl

end
end Go.Ab
/-! Operators, conversions, literals. -/
namespace Go.Ab
section
variable {P : Program} {T : Tab} {σ : Sig} {Z : Nat → Prop} {h : Heap} {w : World} {e : List AV} {a : Act}

theorem VR_nilIface {x : AV} (hv : VR σ Z w x .nilIface) : x = .nili ∨ x = .any := by
  cases x <;> simp only [VR] at hv <;> first
    | exact .inl rfl
    | exact .inr rfl
    | (exfalso; simp at hv; done)

theorem VR_agg {x : AV} {xs : Array Value} (hv : VR σ Z w x (.agg xs)) : (∃ n cs, x = .agg n cs) ∨ x = .any := by
  cases x <;> simp only [VR] at hv <;> first
    | exact .inl ⟨_, _, rfl⟩
    | exact .inr rfl
    | (exfalso; simp at hv; done)

theorem aEq_any_left {n : Nat} {t : TypeId} {y : AV} : aEq T h n t .any y = none := by
  cases n with
  | zero => rfl
  | succ n => unfold aEq; split <;> first | rfl | simp_all

theorem aEq_any_right {n : Nat} {t : TypeId} {x : AV} : aEq T h n t x .any = none := by
  cases n with
  | zero => rfl
  | succ n => unfold aEq; split <;> first | rfl | simp_all

theorem aEq_nili {n : Nat} {t : TypeId} : aEq T h n t .nili .nili = none := by
  cases n with
  | zero => rfl
  | succ n => unfold aEq; split <;> first | rfl | simp_all

theorem aEq_agg {n mx my : Nat} {t : TypeId} {xs ys : List AV} {b : Bool} (hq : aEq T h n t (.agg mx xs) (.agg my ys) = some b) : T.eqok t = true := by
  cases n with
  | zero => simp [aEq] at hq
  | succ n =>
    unfold aEq at hq
    split at hq <;> first
      | (simp_all; done)
      | (split at hq <;> first | assumption | (simp at hq; done))

theorem aEq_guard (hT : T.ok P) {op : BinOp} {t : TypeId} {p q : Operand} {x y : AV} {v u : Value} {b : Bool} (hv : VR σ Z w x v) (hu : VR σ Z w y u) (hq : aEq T h 20 t x y = some b) :
    (eqGuard op t p q v u).run P w = .ok () w := by
  refine eqGuard_plain ?_ ?_
  · rintro ⟨rfl, rfl⟩
    rcases VR_nilIface hv with rfl | rfl
    · rcases VR_nilIface hu with rfl | rfl
      · rw [aEq_nili] at hq; cases hq
      · rw [aEq_any_right] at hq; cases hq
    · rw [aEq_any_left] at hq; cases hq
  · rintro xs ys rfl rfl
    rcases VR_agg hv with ⟨_, cs, rfl⟩ | rfl
    · rcases VR_agg hu with ⟨_, ds, rfl⟩ | rfl
      · exact (hT.eqok _ (aEq_agg hq)).1
      · rw [aEq_any_right] at hq; cases hq
    · rw [aEq_any_left] at hq; cases hq

theorem binInt_sound {op : BinOp} {t : TypeId} {k : IntKind} {m n : Int} {av : AV} (h1 : op ≠ .shl) (h2 : op ≠ .shr) (hq : aBinInt op k m n = some av) :
    ∃ v, (binOp op t (.int k m) (.int k n)).run P w = .ok v w ∧ VR σ Z w av v := by
  cases op <;> simp only [aBinInt, aCmpInt] at hq <;> first
    | (exact absurd rfl h1)
    | (exact absurd rfl h2)
    | (injection hq with hq; subst hq
       simp only [VR]
       refine ⟨_, ?_, rfl⟩
       simp [binOp, Op.intArith, Op.intBits, Op.intCmp]; done)
    | (split at hq
       · cases hq
       · injection hq with hq; subst hq
         simp only [VR]
         refine ⟨_, ?_, rfl⟩
         simp [binOp, Op.intDiv, *]; done)
    | cases hq

theorem eqGuard_int {op : BinOp} {t : TypeId} {p q : Operand} {k : IntKind} {m : Int} {u : Value} : (eqGuard op t p q (.int k m) u).run P w = .ok () w :=
  eqGuard_plain (by simp) (by simp)

theorem eqGuard_str {op : BinOp} {t : TypeId} {p q : Operand} {s : ByteArray} {u : Value} : (eqGuard op t p q (.string s) u).run P w = .ok () w :=
  eqGuard_plain (by simp) (by simp)

theorem binOp_eql {t : TypeId} {v u : Value} (h1 : ∀ k m, v ≠ .int k m) (h3 : ∀ s, v ≠ .string s) (h4 : ∀ k m, v ≠ .float k m) (h5 : ∀ k m n, v ≠ .complex k m n) :
    binOp .eql t v u = (do pure (.bool (← Op.equal t v u))) := by
  unfold binOp
  split <;> first | rfl | simp_all

theorem binOp_neq {t : TypeId} {v u : Value} (h1 : ∀ k m, v ≠ .int k m) (h3 : ∀ s, v ≠ .string s) (h4 : ∀ k m, v ≠ .float k m) (h5 : ∀ k m n, v ≠ .complex k m n) :
    binOp .neq t v u = (do pure (.bool (!(← Op.equal t v u)))) := by
  unfold binOp
  split <;> first | rfl | simp_all

end
end Go.Ab
/-! Operators as a whole; conversions; maps that are read. -/
namespace Go.Ab
section
variable {P : Program} {T : Tab} {σ : Sig} {Z : Nat → Prop} {h : Heap} {w : World} {e : List AV} {a : Act}

theorem VR_ne_float {x : AV} {k : FloatKind} {m : Nat} (hv : VR σ Z w x (.float k m)) : x = .any := by
  cases x <;> simp only [VR] at hv <;> first | rfl | (exfalso; simp at hv; done)
theorem VR_ne_complex {x : AV} {k : FloatKind} {m n : Nat} (hv : VR σ Z w x (.complex k m n)) : x = .any := by
  cases x <;> simp only [VR] at hv <;> first | rfl | (exfalso; simp at hv; done)
theorem VR_int {x : AV} {k : IntKind} {m : Int} (hv : VR σ Z w x (.int k m)) : x = .int k m ∨ x = .any := by
  cases x <;> simp only [VR] at hv <;> first | exact .inr rfl | (exfalso; simp at hv; done) | (injection hv with h1 h2; subst h1; subst h2; exact .inl rfl)
theorem VR_str {x : AV} {s : ByteArray} (hv : VR σ Z w x (.string s)) : x = .str s ∨ x = .any := by
  cases x <;> simp only [VR] at hv <;> first | exact .inr rfl | (exfalso; simp at hv; done) | (injection hv with h1; subst h1; exact .inl rfl)

theorem aEq_int_other {n : Nat} {t : TypeId} {k : IntKind} {m : Int} {y : AV} {b : Bool} (hq : aEq T h n t (.int k m) y = some b) : ∃ k' m', y = .int k' m' := by
  cases n with
  | zero => simp [aEq] at hq
  | succ n => unfold aEq at hq; split at hq <;> first | exact ⟨_, _, rfl⟩ | simp_all
theorem aEq_str_other {n : Nat} {t : TypeId} {s : ByteArray} {y : AV} {b : Bool} (hq : aEq T h n t (.str s) y = some b) : ∃ s', y = .str s' := by
  cases n with
  | zero => simp [aEq] at hq
  | succ n => unfold aEq at hq; split at hq <;> first | exact ⟨_, rfl⟩ | simp_all

theorem aBin_sound (hT : T.ok P) (hR : R σ Z h w) {op : BinOp} {t : TypeId} {p q : Operand} {x y av : AV} {v u : Value} (hv : VR σ Z w x v) (hu : VR σ Z w y u)
    (hq : aBin T h op t (isNilConst p || isNilConst q) x y = some av) : ∃ r, (do eqGuard op t p q v u; binOp op t v u : Sem Value).run P w = .ok r w ∧ VR σ Z w av r := by
  unfold aBin at hq
  split at hq
  · rename_i k m yk n
    simp only [VR] at hv hu; subst hv; subst hu
    have hg : (eqGuard op t p q (.int k m) (.int yk n)).run P w = .ok () w := eqGuard_int
    split at hq
    · split at hq
      · rename_i h0
        injection hq with hq; subst hq
        refine ⟨_, ?_, by simp only [VR]; rfl⟩
        have : ¬ n < 0 := by omega
        simp [hg, binOp, Op.shift, this]
      · cases hq
    · split at hq
      · rename_i h0
        injection hq with hq; subst hq
        refine ⟨_, ?_, by simp only [VR]; rfl⟩
        have : ¬ n < 0 := by omega
        simp [hg, binOp, Op.shift, this]
      · cases hq
    · rename_i h1 h2
      split at hq
      · rename_i hk; subst hk
        obtain ⟨r, hr, hv⟩ := binInt_sound (P := P) (σ := σ) (Z := Z) (w := w) (t := t) (fun e => h1 e) (fun e => h2 e) hq
        exact ⟨r, by simp [hg, hr], hv⟩
      · cases hq
  · rename_i s1 s2
    simp only [VR] at hv hu; subst hv; subst hu
    have hg : (eqGuard op t p q (.string s1) (.string s2)).run P w = .ok () w := eqGuard_str
    obtain ⟨r, hr, hv⟩ := stringOp_sound (P := P) (σ := σ) (Z := Z) (w := w) hq
    refine ⟨r, ?_, hv⟩
    have : binOp op t (.string s1) (.string s2) = Op.stringOp op s1 s2 := by cases op <;> rfl
    simp [hg, this, hr]
  · simp only [VR] at hv hu; subst hv; subst hu
    split at hq
    · rename_i hc
      have hg : (eqGuard op t p q .nilIface .nilIface).run P w = .ok () w := by
        simp only [Bool.or_eq_true] at hc
        rcases hc with hc | hc
        · cases p <;> first | (simp [isNilConst] at hc; done) | (cases op <;> simp [eqGuard])
        · cases q <;> first | (simp [isNilConst] at hc; done) | (cases op <;> simp [eqGuard])
      split at hq
      · rename_i hd
        injection hq with hq; subst hq
        have he : ∀ d, (Op.equalIn (d + 1) t .nilIface .nilIface).run P w = .ok true w := fun d => by simp [Op.equalIn, run_und hT hd]
        refine ⟨.bool true, ?_, by simp only [VR]⟩
        rw [binOp_eql (by simp) (by simp) (by simp) (by simp)]
        simp [hg, Op.equal, Op.maxDepth, he 9999]
      · rename_i hd
        injection hq with hq; subst hq
        have he : ∀ d, (Op.equalIn (d + 1) t .nilIface .nilIface).run P w = .ok true w := fun d => by simp [Op.equalIn, run_und hT hd]
        refine ⟨.bool false, ?_, by simp only [VR]⟩
        rw [binOp_neq (by simp) (by simp) (by simp) (by simp)]
        simp [hg, Op.equal, Op.maxDepth, he 9999]
      · cases hq
    · cases hq
  · rename_i n1 n2 n3
    have hne : ∀ b, aEq T h 20 t x y = some b → (∀ k m, v ≠ .int k m) ∧ (∀ s, v ≠ .string s) ∧ (∀ k m, v ≠ .float k m) ∧ (∀ k m n, v ≠ .complex k m n) := by
      intro b hb
      refine ⟨fun k m e0 => ?_, fun s e0 => ?_, fun k m e0 => ?_, fun k m n e0 => ?_⟩
      · subst e0
        rcases VR_int hv with rfl | rfl
        · obtain ⟨k', m', rfl⟩ := aEq_int_other hb; exact n1 _ _ _ _ rfl rfl
        · rw [aEq_any_left] at hb; cases hb
      · subst e0
        rcases VR_str hv with rfl | rfl
        · obtain ⟨s', rfl⟩ := aEq_str_other hb; exact n2 _ _ rfl rfl
        · rw [aEq_any_left] at hb; cases hb
      · subst e0; rw [VR_ne_float hv, aEq_any_left] at hb; cases hb
      · subst e0; rw [VR_ne_complex hv, aEq_any_left] at hb; cases hb
    split at hq
    · simp only [Option.map_eq_some_iff] at hq
      obtain ⟨b, hb, rfl⟩ := hq
      obtain ⟨h1, h2, h3, h4⟩ := hne b hb
      have hg := aEq_guard (op := .eql) (p := p) (q := q) hT hv hu hb
      have he := aEq_sound hT hR 20 _ _ _ _ _ _ hv hu hb 9980
      refine ⟨.bool b, ?_, by simp only [VR]⟩
      rw [binOp_eql h1 h2 h3 h4]
      simp [hg, Op.equal, Op.maxDepth, he]
    · simp only [Option.map_eq_some_iff] at hq
      obtain ⟨b, hb, rfl⟩ := hq
      obtain ⟨h1, h2, h3, h4⟩ := hne b hb
      have hg := aEq_guard (op := .neq) (p := p) (q := q) hT hv hu hb
      have he := aEq_sound hT hR 20 _ _ _ _ _ _ hv hu hb 9980
      refine ⟨.bool !b, ?_, by simp only [VR]⟩
      rw [binOp_neq h1 h2 h3 h4]
      simp [hg, Op.equal, Op.maxDepth, he]
    · cases hq

theorem aUn_sound {op : UnOp} {x av : AV} {v : Value} (hv : VR σ Z w x v) (hq : aUn op x = some av) : ∃ r, (Op.unary op v).run P w = .ok r w ∧ VR σ Z w av r := by
  unfold aUn at hq
  split at hq <;> first
    | (injection hq with hq; subst hq
       simp only [VR] at hv ⊢; subst hv
       exact ⟨_, by simp [Op.unary, Op.intArith, Op.intBits], rfl⟩)
    | cases hq

/-! ### What an append or a copy reads -/

theorem srcCells_sound (hR : R σ Z h w) {es n : Nat} {x : AV} {v : Value} {l : List AV} (hv : VR σ Z w x v) (hq : srcCells h es x = some (n, l)) :
    (Builtin.lenOf v).run P w = .ok n w ∧ l.length = n * es ∧ ∃ us : Array Value, (∀ m, m ≤ n → (Builtin.firstCells es m v).run P w = .ok (us.toList.take (m * es)).toArray w) ∧ VRs σ Z w l us.toList ∧ ones us.toList := by
  unfold srcCells at hq
  split at hq
  · simp only [VR] at hv; subst hv
    injection hq with hq; injection hq with h1 h2; subst h1; subst h2
    exact ⟨rfl, by simp, #[], fun m hm => by simp [Builtin.firstCells], by simp [VRs], ones_nil⟩
  · rename_i id off es' len cm ex
    simp only [VR] at hv
    obtain ⟨p, ad, c, hp, rfl, g0, g1, g2, g3, g4, g5⟩ := hv
    split at hq
    · rename_i he; subst he
      split at hq
      · rename_i h0; subst h0
        injection hq with hq; injection hq with h1 h2; subst h1; subst h2
        refine ⟨rfl, by simp, #[], fun m hm => ?_, by simp [VRs], ones_nil⟩
        have : m = 0 := by omega
        subst this
        simp [Builtin.firstCells, loadCells, loadCellsFrom]
      · rename_i h0
        simp only [Option.bind_eq_some_iff, Option.map_eq_some_iff] at hq
        obtain ⟨cs, hrow, l', hl', heq⟩ := hq
        injection heq with h1 h2; subst h1; subst h2
        obtain ⟨q, vs, hq', k1, k2, k3⟩ := row_cells hR hrow
        rw [hp] at hq'; injection hq' with hq'; subst hq'
        obtain ⟨e1, e2, e3⟩ := Cs.read_eq hl'
        have := g4 (by omega); subst this
        refine ⟨rfl, e3, ((vs.drop off).take (len * es')).toArray, fun m hm => ?_, by rw [e1]; simpa using VRs.take _ (VRs.drop _ k1), by simpa using (k2.2.drop off).take (len * es')⟩
        have hk := ((k2.1.drop off).take (len * es')).take (m * es')
        have hlen : ((vs.drop off).take (len * es')).take (m * es') = (vs.drop off).take (m * es') := by
          rw [List.take_take]; congr 1
          exact Nat.min_eq_left (Nat.mul_le_mul_right _ hm)
        have hsz : (((vs.drop off).take (len * es')).take (m * es')).length = m * es' := by
          rw [hlen]
          have := VRs.length k1
          have h3 : m * es' ≤ len * es' := Nat.mul_le_mul_right _ hm
          simp; omega
        have hr := run_loadCells_list (P := P) (w := w) ⟨p.1, p.2 + off, none⟩ (((vs.drop off).take (len * es')).take (m * es')) (fun j u hj => by
          rw [add_eq]; exact hk j u hj)
        rw [hsz] at hr
        simpa [Builtin.firstCells] using hr
    · cases hq
  · rename_i len cs
    simp only [VR] at hv
    obtain ⟨b, o, c, vs, rfl, g1, g2, g3, g4, g6⟩ := hv
    split at hq
    · rename_i hle
      injection hq with hq; injection hq with h1 h2; subst h1; subst h2
      have hvl := VRs.length g3
      refine ⟨rfl, by simp; omega, (vs.take (len * es)).toArray, fun m hm => ?_, by simpa using VRs.take _ g3, by simpa using g6.take (len * es)⟩
      have h3 : m * es ≤ len * es := Nat.mul_le_mul_right _ hm
      have hsz : ((vs.take (len * es)).take (m * es)).length = m * es := by simp; omega
      have hr := run_loadCells_list (P := P) (w := w) ⟨b, o, none⟩ ((vs.take (len * es)).take (m * es)) (fun j u hj => by
        rw [add_eq]; exact ((g4.take _).take _) j u hj)
      rw [hsz] at hr
      simpa [Builtin.firstCells] using hr
    · cases hq
  · rename_i s
    split at hq
    · rename_i he; subst he
      injection hq with hq; injection hq with h1 h2; subst h1; subst h2
      simp only [VR] at hv; subst hv
      refine ⟨rfl, by rw [List.length_map, Nat.mul_one]; exact Array.length_toList, s.data.map fun b => .int .u8 b.toNat, fun m hm => ?_, ?_, ?_⟩
      · simp only [Builtin.firstCells, Sem.run_pure, Nat.mul_one]
        congr 1
        apply Array.ext'
        simp [ByteArray.data_extract, Array.toList_extract, List.extract]
      · simp only [Array.toList_map]
        refine VRs.of_get (by simp) fun i a v ha hv => ?_
        simp only [List.getElem?_map, Option.map_eq_some_iff] at ha hv
        obtain ⟨b1, hb1, rfl⟩ := ha
        obtain ⟨b2, hb2, rfl⟩ := hv
        rw [hb1] at hb2; injection hb2 with hb2; subst hb2
        simp only [VR]
      · intro v hv
        simp only [Array.toList_map, List.mem_map] at hv
        obtain ⟨b1, _, rfl⟩ := hv
        rfl
    · cases hq
  · cases hq

end
end Go.Ab
/-! Conversions, literals, maps that are read, and all quiet operations together. -/
namespace Go.Ab
section
variable {P : Program} {T : Tab} {σ : Sig} {Z : Nat → Prop} {h : Heap} {w : World} {e : List AV} {a : Act}

theorem bytesOf_spec : ∀ {l : List AV} {bs : List UInt8}, bytesOf l = some bs → ∃ ns : List Int, l = ns.map (.int .u8) ∧ bs = ns.map fun n => UInt8.ofNat n.toNat
  | [], bs, hq => by simp only [bytesOf] at hq; injection hq with hq; subst hq; exact ⟨[], rfl, rfl⟩
  | x :: l, bs, hq => by
    unfold bytesOf at hq
    split at hq
    · injection hq with hq; subst hq; exact ⟨[], by simp_all, rfl⟩
    · rename_i n r he
      injection he with h1 h2; subst h1; subst h2
      simp only [Option.map_eq_some_iff] at hq
      obtain ⟨b2, hb, rfl⟩ := hq
      obtain ⟨ns, rfl, rfl⟩ := bytesOf_spec hb
      exact ⟨n :: ns, rfl, rfl⟩
    · cases hq

theorem VRs_ints {k : IntKind} : ∀ {ns : List Int} {us : List Value}, VRs σ Z w (ns.map (AV.int k)) us → us = ns.map (Value.int k)
  | [], us, hv => by simpa [VRs] using hv
  | n :: ns, us, hv => by
    simp only [List.map_cons, VRs, VR] at hv
    obtain ⟨v, vs', rfl, rfl, hr⟩ := hv
    rw [VRs_ints hr]; rfl

theorem foldl_push : ∀ (ns : List Int) (s : ByteArray), (ns.foldl (fun r n => r.push (UInt8.ofNat n.toNat)) s) = ⟨s.data ++ (ns.map fun n => UInt8.ofNat n.toNat).toArray⟩
  | [], s => by simp
  | n :: ns, s => by
    rw [List.foldl_cons, foldl_push ns]
    simp only [ByteArray.push]
    congr 1
    apply Array.ext'
    simp

theorem convBytes_sound (hT : T.ok P) (hR : R σ Z h w) {src dst e0 : TypeId} {x av : AV} {v : Value} (hs : T.und src = some (.slice e0)) (hd : T.und dst = some .string) (hv : VR σ Z w x v) (hq : aConvBytes T h e0 x = some av) :
    ∃ r, (convert src dst v).run P w = .ok r w ∧ VR σ Z w av r := by
  unfold aConvBytes at hq
  split at hq
  · rename_i he
    have key : ∀ n l, srcCells h 1 x = some (n, l) → ∀ bs, bytesOf l = some bs → (∀ s, x ≠ .str s) → ∃ r, (convert src dst v).run P w = .ok r w ∧ VR σ Z w (.str ⟨bs.toArray⟩) r := by
      intro n l hs' bs hb hns
      obtain ⟨h1, h2, us, h3, h4, _⟩ := srcCells_sound (P := P) hR hv hs'
      obtain ⟨ns, rfl, rfl⟩ := bytesOf_spec hb
      have hus := VRs_ints h4
      have hfc := h3 n (Nat.le_refl _)
      have hsl : ∃ ad c, v = .slice ad n c := by
        unfold srcCells at hs'
        split at hs'
        · simp only [VR] at hv; injection hs' with hs'; injection hs' with e1 _; subst e1; exact ⟨_, _, hv⟩
        · simp only [VR] at hv
          obtain ⟨p, ad, c, _, rfl, _⟩ := hv
          split at hs'
          · split at hs'
            · rename_i h0; injection hs' with hs'; injection hs' with e1 _; subst e1; rw [h0]; exact ⟨_, _, rfl⟩
            · simp only [Option.bind_eq_some_iff, Option.map_eq_some_iff] at hs'
              obtain ⟨cs, _, l', _, heq⟩ := hs'
              injection heq with e1 _; subst e1; exact ⟨_, _, rfl⟩
          · cases hs'
        · simp only [VR] at hv
          obtain ⟨b, o, c, vs, rfl, _⟩ := hv
          split at hs'
          · injection hs' with hs'; injection hs' with e1 _; subst e1; exact ⟨_, _, rfl⟩
          · cases hs'
        · exact absurd rfl (hns _)
        · cases hs'
      obtain ⟨ad, c, rfl⟩ := hsl
      rw [run_convert_bytes_string w src dst e0 ad n c (hT.und _ _ hs) (hT.und _ _ he) (hT.und _ _ hd)]
      cases ad with
      | none =>
        refine ⟨.string .empty, by simp [Conv.bytesToString], ?_⟩
        have : (ns.map (Value.int .u8)) = [] ∨ True := .inr trivial
        simp only [Builtin.firstCells, Sem.run_pure, Result.ok.injEq, and_true] at hfc
        have h0 : us.toList.take (n * 1) = [] := by
          have := congrArg Array.toList hfc; simpa using this.symm
        have hn : us.toList.length = n := by rw [VRs.length h4, h2]; omega
        have : us.toList = [] := by
          rw [Nat.mul_one, List.take_of_length_le (by omega)] at h0; exact h0
        rw [this] at hus
        have : ns = [] := by simpa using hus.symm
        subst this
        simp only [VR]; rfl
      | some ad =>
        have hload : (loadCells ad n).run P w = .ok (ns.map (Value.int .u8)).toArray w := by
          simp only [Builtin.firstCells, Nat.mul_one] at hfc
          rw [hfc, hus]
          congr 1
          have hn : (ns.map (Value.int .u8)).length = n := by
            have := h2; simp at this; simp [this]
          rw [List.take_of_length_le (by omega)]
        refine ⟨_, run_bytesToString w ad n c ns hload, ?_⟩
        simp only [VR]
        rw [foldl_push]
        congr 2
        simp [ByteArray.empty, ByteArray.emptyWithCapacity]
        rfl
    split at hq
    · cases hq
    · rename_i hn1
      split at hq
      · rename_i n l hsc
        simp only [Option.map_eq_some_iff] at hq
        obtain ⟨bs, hb, rfl⟩ := hq
        exact key _ _ hsc _ hb (fun s e1 => hn1 s e1)
      · cases hq
  · cases hq

theorem convert_sound (hT : T.ok P) (hR : R σ Z h w) {src dst : TypeId} {x av : AV} {v : Value} (hv : VR σ Z w x v) (hq : aConvert T h src dst x = some av) :
    ∃ r, (convert src dst v).run P w = .ok r w ∧ VR σ Z w av r := by
  unfold aConvert at hq
  split at hq
  · rename_i d k k' n hs hd
    injection hq with hq; subst hq
    simp only [VR] at hv; subst hv
    exact ⟨.int k (k.wrap n), by simp [convert, run_und hT hs, run_und hT hd, Conv.intToInt], by simp only [VR]⟩
  · rename_i d s hs hd
    injection hq with hq; subst hq
    simp only [VR] at hv; subst hv
    exact ⟨.string s, by simp [convert, run_und hT hs, run_und hT hd], by simp only [VR]⟩
  · exact convBytes_sound hT hR (by assumption) (by assumption) hv hq
  · cases hq

theorem VR.cells {x : AV} {v : Value} {cs : List AV} (hv : VR σ Z w x v) (hc : x.cells = some cs) : VRs σ Z w cs v.cells.toList ∧ ones v.cells.toList := by
  cases x <;> simp only [AV.cells] at hc <;> first
    | (cases hc; done)
    | (injection hc with hc; subst hc
       simp only [VR] at hv
       first
         | (subst hv; exact ⟨by simp [Value.cells, VRs, VR], ones_one rfl⟩)
         | (obtain ⟨xs, rfl, _, hxs⟩ := hv; exact hxs)
         | (obtain ⟨p, hp, rfl⟩ := hv; refine ⟨?_, ones_one rfl⟩; simp only [Value.cells, VRs, VR]; exact ⟨_, _, rfl, ⟨p, hp, rfl⟩, rfl⟩)
         | (obtain ⟨p, ad, c, hp, rfl, hr⟩ := hv; refine ⟨?_, ones_one rfl⟩; simp only [Value.cells, VRs, VR]; exact ⟨_, _, rfl, ⟨p, ad, c, hp, rfl, hr⟩, rfl⟩)
         | (obtain ⟨b, o, vs, rfl, hr⟩ := hv; refine ⟨?_, ones_one rfl⟩; simp only [Value.cells, VRs, VR]; exact ⟨_, _, rfl, ⟨b, o, vs, rfl, hr⟩, rfl⟩)
         | (obtain ⟨b, o, c, vs, rfl, hr⟩ := hv; refine ⟨?_, ones_one rfl⟩; simp only [Value.cells, VRs, VR]; exact ⟨_, _, rfl, ⟨b, o, c, vs, rfl, hr⟩, rfl⟩)
         | (obtain ⟨xs, ys, rfl, hr⟩ := hv; refine ⟨?_, ones_one rfl⟩; simp only [Value.cells, VRs, VR]; exact ⟨_, _, rfl, ⟨xs, ys, rfl, hr⟩, rfl⟩)
         | (obtain ⟨y, rfl, hr⟩ := hv; refine ⟨?_, ones_one rfl⟩; simp only [Value.cells, VRs, VR]; exact ⟨_, _, rfl, ⟨y, rfl, hr⟩, rfl⟩))

theorem VR.width {x : AV} {v : Value} {cs : List AV} (hv : VR σ Z w x v) (hc : x.cells = some cs) : cs.length = x.width := by
  cases x <;> simp only [AV.cells] at hc <;> first
    | (cases hc; done)
    | (injection hc with hc; subst hc
       first
         | rfl
         | (simp only [VR] at hv
            obtain ⟨xs, rfl, hn, hxs, _⟩ := hv
            have := VRs.length hxs
            simp only [AV.width]
            simp at this; omega))

end
end Go.Ab
/-! Literals of structs and arrays, maps that are read, all quiet operations together. -/
namespace Go.Ab
section
variable {P : Program} {T : Tab} {σ : Sig} {Z : Nat → Prop} {h : Heap} {w : World} {e : List AV} {a : Act}

theorem foldl_sets : ∀ (vs : List Value) (k off : Nat) (cells : Array Value), off + k + vs.length ≤ cells.size →
    ((vs.zipIdx k).foldl (fun (cs : Array Value) (x : Value × Nat) => cs.setIfInBounds (off + x.2) x.1) cells).toList = cells.toList.take (off + k) ++ vs ++ cells.toList.drop (off + k + vs.length)
  | [], k, off, cells, _ => by simp
  | v :: vs, k, off, cells, hl => by
    simp only [List.zipIdx_cons, List.foldl_cons]
    rw [foldl_sets vs (k + 1) off _ (by simp at hl ⊢; omega)]
    simp only [Array.toList_setIfInBounds]
    have hk : off + k < cells.toList.length := by simp at hl ⊢; omega
    have e1 : (cells.toList.set (off + k) v).take (off + (k + 1)) = cells.toList.take (off + k) ++ [v] := by
      rw [← Nat.add_assoc, List.take_succ_eq_append_getElem (by simpa using hk)]
      congr 1
      · rw [List.take_set_of_le (Nat.le_refl _)]
      · simp
    have e2 : (cells.toList.set (off + k) v).drop (off + (k + 1) + vs.length) = cells.toList.drop (off + k + (v :: vs).length) := by
      rw [List.drop_set_of_lt (by omega)]
      congr 1
      simp; omega
    rw [e1, e2]
    simp

def PR (σ : Sig) (Z : Nat → Prop) (w : World) : List (Nat × AV) → List (Nat × Value) → Prop
  | [], ys => ys = []
  | x :: xs, ys => ∃ y ys', ys = y :: ys' ∧ x.1 = y.1 ∧ VR σ Z w x.2 y.2 ∧ PR σ Z w xs ys'

theorem aFill_sound {place : Nat → Option (Nat × Nat)} {n : Nat} : ∀ {parts : List (Nat × AV)} {vparts : List (Nat × Value)} {cells : List AV} {vcells : Array Value} {out : List AV},
    PR σ Z w parts vparts → VRs σ Z w cells vcells.toList → ones vcells.toList → cells.length = n → aFill place n parts cells = some out →
    ∃ vout : Array Value, Instr.fill place vcells vparts = some vout ∧ VRs σ Z w out vout.toList ∧ ones vout.toList ∧ out.length = n
  | [], vparts, cells, vcells, out, hp, hc, ho, hcn, hq => by
    simp only [PR] at hp; subst hp
    simp only [aFill] at hq; injection hq with hq; subst hq
    exact ⟨vcells, rfl, hc, ho, hcn⟩
  | (i, av) :: parts, vparts, cells, vcells, out, hp, hc, ho, hcn, hq => by
    simp only [PR] at hp
    obtain ⟨⟨j, v⟩, ys, rfl, h1a, h1b, h2⟩ := hp
    simp only at h1a h1b; subst h1a
    simp only [aFill] at hq
    split at hq
    · rename_i off size vs hpl hcs
      split at hq
      · rename_i hb
        obtain ⟨hvs, hv1⟩ := VR.cells h1b hcs
        have hwd := VR.width h1b hcs
        rw [← hwd] at hb
        have hlen := VRs.length hvs
        have hlc := VRs.length hc
        have hsz : v.cells.size = vs.length := by simpa using hlen
        have hcz : vcells.size = cells.length := by simpa using hlc
        have hset : (v.cells.zipIdx.foldl (fun (cs : Array Value) (x : Value × Nat) => cs.setIfInBounds (off + x.2) x.1) vcells).toList = vcells.toList.take off ++ v.cells.toList ++ vcells.toList.drop (off + size) := by
          rw [← Array.foldl_toList, Array.toList_zipIdx]
          rw [foldl_sets v.cells.toList 0 off vcells (by simp [hsz]; omega)]
          simp [hsz, hb.1]
        obtain ⟨vout, hw1, hw2⟩ := aFill_sound (place := place) (vcells := v.cells.zipIdx.foldl (fun (cs : Array Value) (x : Value × Nat) => cs.setIfInBounds (off + x.2) x.1) vcells) h2
          (by rw [hset]; exact VRs.append (VRs.append (VRs.take off hc) hvs) (VRs.drop (off + size) hc)) (by rw [hset]; exact ((ho.take off).append hv1).append (ho.drop (off + size))) (by simp; omega) hq
        refine ⟨vout, ?_, hw2⟩
        simp only [Instr.fill, hpl]
        rw [if_neg]
        · exact hw1
        · simp [hsz, hcz, hb.1]; omega
      · cases hq
    · cases hq

theorem aParts_sound (he : ER σ Z w e a) : ∀ {parts : List (Nat × Operand)} {aps : List (Nat × AV)}, aParts e parts = some aps →
    PR σ Z w aps (parts.map fun p => (p.1, a.eval p.2))
  | [], aps, hq => by simp only [aParts] at hq; injection hq with hq; subst hq; rfl
  | (i, x) :: parts, aps, hq => by
    simp only [aParts] at hq
    split at hq
    · rename_i v vs h1 h2
      injection hq with hq; subst hq
      exact ⟨_, _, rfl, rfl, opd_VR he h1, aParts_sound he h2⟩
    · cases hq

theorem places_sound {g : Field → Sem (Nat × Nat)} (hg : ∀ (f : Field) (n : Nat), T.size f.type = some n → (g f).run P w = .ok (f.offset, n) w) : ∀ {fs : List Field} {ps : List (Nat × Nat)}, aPlaces T fs = some ps →
    (fs.mapM g).run P w = .ok ps w
  | [], ps, hq => by simp only [aPlaces] at hq; injection hq with hq; subst hq; simp
  | f :: fs, ps, hq => by
    simp only [aPlaces] at hq
    split at hq
    · rename_i s r h1 h2
      injection hq with hq; subst hq
      simp [hg _ _ h1, places_sound hg h2]
    · cases hq

theorem zero_cells {t : TypeId} {n : Nat} {z : List AV} (h : T.zero t = some (.agg n z)) : (T.zero t).bind AV.cells = some z := by rw [h]; rfl

theorem zero_width (hT : T.ok P) {t : TypeId} {n : Nat} {z : List AV} (h : T.zero t = some (.agg n z)) : z.length = n := by
  obtain ⟨i, v, hi, hv, hr⟩ := hT.zero _ _ h
  exact VR.width (hr (fun _ => none) (fun _ => False) default) rfl

theorem run_zeroCells (hT : T.ok P) {t : TypeId} {z : List AV} (hz : (T.zero t).bind AV.cells = some z) : ∃ v, (∀ w', (zeroValue t).run P w' = .ok v w') ∧ (∀ σ Z w', VRs σ Z w' z v.cells.toList) ∧ ones v.cells.toList := by
  simp only [Option.bind_eq_some_iff] at hz
  obtain ⟨zv, h1, h2⟩ := hz
  obtain ⟨i, v, hi, hv, hr⟩ := hT.zero _ _ h1
  exact ⟨v, fun w' => by simp [zeroValue, typeInfo, hi, hv], fun σ Z w' => (VR.cells (hr σ Z w') h2).1, (VR.cells (hr (fun _ => none) (fun _ => False) default) h2).2⟩

theorem build_sound (hT : T.ok P) {t : TypeId} {aps : List (Nat × AV)} {vps : Array (Nat × Value)} {av : AV}
    (hp : PR σ Z w aps vps.toList) (hq : aBuild T t aps = some av) :
    ∃ r, (Instr.build t vps).run P w = .ok r w ∧ VR σ Z w av r := by
  unfold aBuild at hq
  split at hq
  · rename_i fields zn z hd hz'
    have hz := zero_cells hz'
    split at hq
    · rename_i ps hps
      simp only [Option.map_eq_some_iff] at hq
      obtain ⟨out, ho, rfl⟩ := hq
      obtain ⟨zv, hz1, hz2, hz3⟩ := run_zeroCells hT hz
      obtain ⟨vout, hv1, hv2, hv3, hv4⟩ := aFill_sound (vcells := zv.cells) hp (hz2 σ Z w) hz3 (zero_width hT hz') ho
      refine ⟨.agg vout, ?_, by simp only [VR]; exact ⟨_, rfl, by have := VRs.length hv2; simp at this; omega, hv2, hv3⟩⟩
      have hm := places_sound (P := P) (w := w) (g := fun f => do pure (f.offset, ← sizeOf f.type)) (fun f n hn => by simp [run_size hT hn]) hps
      have hpl : (fun i : Nat => ps.toArray[i]?) = fun i : Nat => ps[i]? := by funext i; simp
      simp only [Instr.build, Sem.run_bind, hz1, Result.andThen_ok, run_und hT hd, Array.mapM_eq_mapM_toList, Sem.run_map, hm, hpl, hv1, Sem.run_pure]
    · cases hq
  · rename_i n elem zn z hd hz'
    have hz := zero_cells hz'
    split at hq
    · rename_i size hsz
      simp only [Option.map_eq_some_iff] at hq
      obtain ⟨out, ho, rfl⟩ := hq
      obtain ⟨zv, hz1, hz2, hz3⟩ := run_zeroCells hT hz
      obtain ⟨vout, hv1, hv2, hv3, hv4⟩ := aFill_sound (vcells := zv.cells) hp (hz2 σ Z w) hz3 (zero_width hT hz') ho
      refine ⟨.agg vout, ?_, by simp only [VR]; exact ⟨_, rfl, by have := VRs.length hv2; simp at this; omega, hv2, hv3⟩⟩
      simp only [Instr.build, Sem.run_bind, hz1, Result.andThen_ok, run_und hT hd, run_size hT hsz, hv1, Sem.run_pure]
    · cases hq
  · cases hq

/-! ### Maps -/

theorem keyIs_sound {kd : TypeDesc} {k x : AV} {v u : Value} {b : Bool} (hf : keyFits kd k = true) (hv : VR σ Z w k v) (hu : VR σ Z w x u) (hk : keyIs k x = some b) : Instr.sameNow kd v u = some b := by
  unfold keyIs at hk
  split at hk
  · simp only [VR] at hv hu; subst hv; subst hu
    unfold keyFits at hf
    split at hf <;> simp_all [Instr.sameNow]
  · simp only [VR] at hv hu; subst hv; subst hu
    unfold keyFits at hf
    split at hf <;> simp_all [Instr.sameNow]
  · cases hk

theorem aFind_sound {kd : TypeDesc} {k : AV} {v : Value} (hf : keyFits kd k = true) (hv : VR σ Z w k v) : ∀ {es : List (AV × AV × Nat)} {ms : List MapEntry} {i : Nat} {r : Option (Nat × AV)}, MRs σ Z w es ms → aFind k es i = some r →
    (r = none ∧ Instr.findNow kd v ms i = some none) ∨ ∃ j x u, r = some (j, x) ∧ Instr.findNow kd v ms i = some (some (j, u)) ∧ VR σ Z w x u ∧ i ≤ j ∧ ∃ q m, es[j - i]? = some q ∧ ms[j - i]? = some m ∧ q.2.1 = x ∧ m.val = u ∧ VR σ Z w q.1 m.key ∧ keyIs k q.1 = some true
  | [], ms, i, r, hm, hq => by
    simp only [MRs] at hm; subst hm
    simp only [aFind] at hq; injection hq with hq
    exact .inl ⟨hq.symm, rfl⟩
  | e :: es, ms, i, r, hm, hq => by
    simp only [MRs] at hm
    obtain ⟨m, ms', rfl, h1, h2, h3, h4⟩ := hm
    simp only [aFind] at hq
    split at hq
    · rename_i hk
      injection hq with hq; subst hq
      have := keyIs_sound hf hv h1 hk
      exact .inr ⟨i, _, _, rfl, by simp [Instr.findNow, this], h2, Nat.le_refl _, e, m, by simp, by simp, rfl, rfl, h1, hk⟩
    · rename_i hk
      have := keyIs_sound hf hv h1 hk
      rcases aFind_sound hf hv h4 hq with ⟨hr, hn⟩ | ⟨j, x, u, hr, hn, hx, hij, q, m', g1, g2, g3⟩
      · exact .inl ⟨hr, by simp [Instr.findNow, this, hn]⟩
      · refine .inr ⟨j, x, u, hr, by simp [Instr.findNow, this, hn], hx, by omega, q, m', ?_, ?_, g3⟩
        · have : j - i = (j - (i + 1)) + 1 := by omega
          rw [this]; simpa using g1
        · have : j - i = (j - (i + 1)) + 1 := by omega
          rw [this]; simpa using g2
    · cases hq

theorem run_checkKey (hT : T.ok P) {t : TypeId} {kd : TypeDesc} {k : AV} {v : Value} {em : Bool} (hd : T.und t = some kd) (hf : keyFits kd k = true) (hv : VR σ Z w k v) : (Instr.checkKey em 10000 t v).run P w = .ok () w := by
  have key : ∀ n, (Instr.checkKey em (n + 1) t v).run P w = .ok () w := by
    intro n
    unfold keyFits at hf
    split at hf
    · simp only [VR] at hv; subst hv
      simp [Instr.checkKey, run_und hT hd]
    · simp only [VR] at hv; subst hv
      simp [Instr.checkKey, run_und hT hd]
    · cases hf
  exact key 9999

theorem mapOf_sound (hR : R σ Z h w) {x : AV} {v : Value} {es : List (AV × AV × Nat)} (hv : VR σ Z w x v) (hm : mapOf h x = some es) :
    (v = .map none ∧ es = []) ∨ ∃ b ents clock, v = .map (some b) ∧ w.heap[b]? = some (.map ents clock) ∧ MRs σ Z w es ents.toList := by
  unfold mapOf at hm
  split at hm
  · simp only [VR] at hv; injection hm with hm; exact .inl ⟨hv, hm.symm⟩
  · rename_i id
    split at hm
    · rename_i es' clock hg
      injection hm with hm; subst hm
      simp only [VR] at hv
      obtain ⟨p, hp, rfl⟩ := hv
      obtain ⟨q, hq, hb⟩ := hR.live _ _ hg
      rw [hp] at hq; injection hq with hq; subst hq
      obtain ⟨_, ents, g1, g2⟩ := hb
      exact .inr ⟨p.1, ents, clock, rfl, g1, g2⟩
    · cases hm
  · cases hm

theorem run_getMap {b : Nat} {ents : Array MapEntry} {clock : Nat} (hb : w.heap[b]? = some (.map ents clock)) : (getObj b).run P w = .ok (.map ents clock) w := by
  simp [getObj, Sem.run, hb]

theorem lookup_sound (hT : T.ok P) (hR : R σ Z h w) {t : TypeId} {x k av : AV} {v u : Value} {ok : Bool} (hv : VR σ Z w x v) (hu : VR σ Z w k u) (hq : aLookup T h t x k ok = some av) :
    ∃ r, (Instr.lookup t v u ok).run P w = .ok r w ∧ VR σ Z w av r := by
  unfold aLookup at hq
  split at hq
  · rename_i key elem hd
    split at hq
    · rename_i kd es hkd hm
      split at hq
      · rename_i hf
        obtain ⟨ents, hents, hval⟩ : ∃ ents : Array MapEntry, MRs σ Z w es ents.toList ∧ ((v = .map none ∧ ents = #[]) ∨ ∃ b clock, v = .map (some b) ∧ w.heap[b]? = some (.map ents clock)) := by
          rcases mapOf_sound hR hv hm with ⟨rfl, rfl⟩ | ⟨b, ents, clock, rfl, hb, hms⟩
          · exact ⟨#[], rfl, .inl ⟨rfl, rfl⟩⟩
          · exact ⟨ents, hms, .inr ⟨b, clock, rfl, hb⟩⟩
        have hck : ∀ em, (Instr.checkKey em 10000 key u).run P w = .ok () w := fun em => run_checkKey hT hkd hf hu
        split at hq
        · rename_i j x' hfind
          injection hq with hq; subst hq
          rcases aFind_sound hf hu hents hfind with ⟨hr, _⟩ | ⟨j', x2, u2, hr, hn, hx, _⟩
          · cases hr
          · injection hr with hr; injection hr with e1 e2; subst e1; subst e2
            refine ⟨if ok then .tuple #[u2, .bool true] else u2, ?_, ?_⟩
            · rcases hval with ⟨rfl, rfl⟩ | ⟨b, clock, rfl, hb⟩
              · simp [Instr.findNow] at hn
              · simp [Instr.lookup, run_und hT hd, run_getMap hb, hck, Instr.findKey, run_und hT hkd, hn]
            · cases ok
              · simpa using hx
              · simp only [if_true, VR]
                exact ⟨_, rfl, by simp [VRs, VR, hx]⟩
        · rename_i hfind
          simp only [Option.map_eq_some_iff] at hq
          obtain ⟨z, hz, rfl⟩ := hq
          obtain ⟨zv, hz1, hz2, _⟩ := run_zero hT hz σ Z w
          rcases aFind_sound hf hu hents hfind with ⟨_, hn⟩ | ⟨j', x2, u2, hr, _⟩
          · refine ⟨if ok then .tuple #[zv, .bool false] else zv, ?_, ?_⟩
            · rcases hval with ⟨rfl, rfl⟩ | ⟨b, clock, rfl, hb⟩
              · have hck' := hck true
                simp [Instr.lookup, run_und hT hd, hck', Instr.findKey, run_und hT hkd, Instr.findNow, hz1]
              · simp [Instr.lookup, run_und hT hd, run_getMap hb, hck, Instr.findKey, run_und hT hkd, hn, hz1]
            · cases ok
              · simpa using hz2
              · simp only [if_true, VR]
                exact ⟨_, rfl, by simp [VRs, VR, hz2]⟩
          · cases hr
        · cases hq
      · cases hq
    · cases hq
  · cases hq

end
end Go.Ab
/-! All quiet operations together. -/
namespace Go.Ab
section
variable {P : Program} {T : Tab} {σ : Sig} {Z : Nat → Prop} {h : Heap} {w : World} {e : List AV} {a : Act}

theorem assert_sound (hT : T.ok P) {x av : AV} {v : Value} {xt asserted : TypeId} {ok : Bool} (hv : VR σ Z w x v) (hq : aAssert T x asserted ok = some av) :
    ∃ r, (Instr.typeAssert v xt asserted ok).run P w = .ok r w ∧ VR σ Z w av r := by
  unfold aAssert at hq
  split at hq
  · cases hq
  · rename_i d t x1 hni hd
    simp only [VR] at hv
    obtain ⟨y, rfl, hy⟩ := hv
    have hi : ∀ ms, d ≠ .interface ms := by
      intro ms h0; subst h0; exact hni ms rfl
    split at hq
    · rename_i heq; subst heq
      injection hq with hq; subst hq
      refine ⟨if ok then .tuple #[y, .bool true] else y, ?_, ?_⟩
      · cases d <;> first
          | (exact absurd rfl (hi _))
          | (cases ok <;> simp [Instr.typeAssert, run_und hT hd])
      · cases ok
        · simpa using hy
        · simp only [if_true, VR]; exact ⟨_, rfl, by simp [VRs, VR, hy]⟩
    · rename_i hne
      split at hq
      · rename_i hok
        simp only [Option.map_eq_some_iff] at hq
        obtain ⟨z, hz, rfl⟩ := hq
        obtain ⟨zv, hz1, hz2, _⟩ := run_zero hT hz σ Z w
        refine ⟨.tuple #[zv, .bool false], ?_, by simp only [VR]; exact ⟨_, rfl, by simp [VRs, VR, hz2]⟩⟩
        cases d <;> first
          | (exact absurd rfl (hi _))
          | (simp [Instr.typeAssert, run_und hT hd, hok, hne, hz1])
      · cases hq
  · rename_i d hni hd
    simp only [VR] at hv; subst hv
    have hi : ∀ ms, d ≠ .interface ms := by
      intro ms h0; subst h0; exact hni ms rfl
    split at hq
    · rename_i hok
      simp only [Option.map_eq_some_iff] at hq
      obtain ⟨z, hz, rfl⟩ := hq
      obtain ⟨zv, hz1, hz2, _⟩ := run_zero hT hz σ Z w
      refine ⟨.tuple #[zv, .bool false], ?_, by simp only [VR]; exact ⟨_, rfl, by simp [VRs, VR, hz2]⟩⟩
      cases d <;> first
        | (exact absurd rfl (hi _))
        | (simp [Instr.typeAssert, run_und hT hd, hok, hz1])
    · cases hq
  · cases hq

theorem MRs.length : ∀ {xs : List (AV × AV × Nat)} {es : List MapEntry}, MRs σ Z w xs es → es.length = xs.length
  | [], es, h => by simp only [MRs] at h; simp [h]
  | x :: xs, es, h => by
    simp only [MRs] at h
    obtain ⟨e, es', rfl, _, _, _, h4⟩ := h
    simp [MRs.length h4]

theorem len_sound (hT : T.ok P) (hR : R σ Z h w) {t ty : TypeId} {ts : List TypeId} {x av : AV} {v : Value} {vs : List Value} (hv : VR σ Z w x v) (hq : aLen T h t x = some av) :
    ∃ r, (Builtin.len_ (t :: ts).toArray ty (v :: vs).toArray).run P w = .ok r w ∧ VR σ Z w av r := by
  unfold aLen at hq
  split at hq
  · rename_i s hd
    injection hq with hq; subst hq
    simp only [VR] at hv; subst hv
    exact ⟨.int .i64 s.size, by simp [Builtin.len_, run_und hT hd, goInt], by simp only [VR]⟩
  · rename_i n elem hd
    injection hq with hq; subst hq
    exact ⟨.int .i64 n, by simp [Builtin.len_, run_und hT hd, goInt], by simp only [VR]⟩
  · rename_i elem hd
    injection hq with hq; subst hq
    simp only [VR] at hv; subst hv
    exact ⟨.int .i64 0, by simp [Builtin.len_, run_und hT hd, goInt], by simp only [VR]⟩
  · rename_i elem id off es len cm ex hd
    injection hq with hq; subst hq
    simp only [VR] at hv
    obtain ⟨p, ad, c, hp, rfl, _⟩ := hv
    exact ⟨.int .i64 len, by simp [Builtin.len_, run_und hT hd, goInt], by simp only [VR]⟩
  · rename_i elem len cs hd
    injection hq with hq; subst hq
    simp only [VR] at hv
    obtain ⟨b, o, c, us, rfl, _⟩ := hv
    exact ⟨.int .i64 len, by simp [Builtin.len_, run_und hT hd, goInt], by simp only [VR]⟩
  · rename_i k elem hd
    simp only [Option.map_eq_some_iff] at hq
    obtain ⟨es, hm, rfl⟩ := hq
    rcases mapOf_sound hR hv hm with ⟨rfl, rfl⟩ | ⟨b, ents, clock, rfl, hb, hms⟩
    · exact ⟨.int .i64 0, by simp [Builtin.len_, run_und hT hd, goInt], by simp [VR]⟩
    · refine ⟨.int .i64 ents.size, by simp [Builtin.len_, run_und hT hd, goInt, run_getMap hb], ?_⟩
      have := hms.length
      simp only [VR]; simp at this; rw [this]
  · cases hq

theorem minmax_sound {mx : Bool} {ts : Array TypeId} {t : TypeId} {xs : List AV} {av : AV} {vs : List Value} (hv : VRs σ Z w xs vs) (hq : aMinMax mx xs = some av) :
    ∃ r, ((if mx then Builtin.max_ ts t vs.toArray else Builtin.min_ ts t vs.toArray)).run P w = .ok r w ∧ VR σ Z w av r := by
  unfold aMinMax at hq
  split at hq
  · rename_i k m k' n
    injection hq with hq; subst hq
    simp only [VRs, VR] at hv
    obtain ⟨_, _, rfl, rfl, _, _, rfl, rfl, rfl⟩ := hv
    refine ⟨_, ?_, by simp only [VR]; rfl⟩
    cases mx <;> simp [Builtin.max_, Builtin.min_, Builtin.max2, Builtin.min2]
  · rename_i s u
    injection hq with hq; subst hq
    simp only [VRs, VR] at hv
    obtain ⟨_, _, rfl, rfl, _, _, rfl, rfl, rfl⟩ := hv
    refine ⟨_, ?_, by simp only [VR]; rfl⟩
    cases mx <;> simp [Builtin.max_, Builtin.min_, Builtin.max2, Builtin.min2, Op.stringOp, asBool]
  · cases hq

theorem nil_sound {x av : AV} {p : Operand} {o : Oper} (ho : o.op = .nilCheck p) (hv : VR σ Z w x (a.eval p)) (hq : aNil x = some av) :
    ∃ r, (execOp a.eval o).run P w = .ok (.value r) w ∧ VR σ Z w av r := by
  refine ⟨a.eval p, ?_, ?_⟩
  · unfold aNil at hq
    simp only [execOp, ho]
    split at hq
    · simp only [VR] at hv; obtain ⟨q, _, hv⟩ := hv; rw [hv]; rfl
    · simp only [VR] at hv; obtain ⟨b, o, vs, hv, _⟩ := hv; rw [hv]; rfl
    · simp only [VR] at hv; obtain ⟨y, hv, _⟩ := hv; rw [hv]; rfl
    · simp only [VR] at hv; obtain ⟨xs, ys, hv, _⟩ := hv; rw [hv]; rfl
    · cases hq
  · unfold aNil at hq
    split at hq <;> first | (injection hq with hq; subst hq; exact hv) | cases hq

/-- The quiet operations. -/
theorem MRs.find {f : AV × AV × Nat → Bool} {g : MapEntry → Bool} (hfg : ∀ x e, e.born = x.2.2 → f x = g e) : ∀ {xs : List (AV × AV × Nat)} {es : List MapEntry} {x : AV × AV × Nat}, MRs σ Z w xs es → xs.find? f = some x → ∃ e, es.find? g = some e ∧ VR σ Z w x.1 e.key ∧ VR σ Z w x.2.1 e.val
  | [], _, _, _, hx => by simp at hx
  | y :: xs, es, x, h, hx => by
    simp only [MRs] at h
    obtain ⟨e, es', rfl, h1, h2, h3, h4⟩ := h
    have hy := hfg y e h3
    simp only [List.find?_cons] at hx ⊢
    rw [← hy]
    cases hf : f y with
    | true => simp only [hf] at hx ⊢; injection hx with hx; subst hx; exact ⟨e, rfl, h1, h2⟩
    | false => simp only [hf] at hx ⊢; exact MRs.find hfg h4 hx

theorem entry_sound (hR : R σ Z h w) {x av : AV} {v : Value} (hv : VR σ Z w x v) (hq : aEntry h x = some av) : ∃ r, (Instr.entry v).run P w = .ok r w ∧ VR σ Z w av r := by
  unfold aEntry at hq
  split at hq
  · rename_i r
    simp only [VR] at hv
    obtain ⟨p, hp, hv⟩ := hv
    split at hq
    · rename_i m since seen stepped hg
      split at hq
      · rename_i es clock hgm
        split at hq
        · rename_i s hs
          split at hq
          · rename_i hcl
            simp only [Option.map_eq_some_iff] at hq
            obtain ⟨y, hy, rfl⟩ := hq
            obtain ⟨q, hq', hbr⟩ := hR.live _ _ hg
            rw [hp] at hq'; injection hq' with hq'; subst hq'
            obtain ⟨h0, m', g1, qm, hqm, rfl⟩ := hbr
            obtain ⟨qm', hqm', hbm⟩ := hR.live _ _ hgm
            rw [hqm] at hqm'; injection hqm' with hqm'; subst hqm'
            obtain ⟨h0m, ents, k1, k2⟩ := hbm
            have hgo : (getObj p.1).run P w = .ok (.mapIter (some qm.1) since seen.toArray stepped) w := by simp [getObj, Sem.run, g1]
            have hgm' := run_getMap (P := P) k1
            obtain ⟨e1, he, hk1, hk2⟩ := MRs.find (f := fun x => x.2.2 == s) (g := fun e => e.born == s) (fun x e hb => by rw [hb]) k2 hy
            have hba : seen.toArray.back? = some s := by simpa using hs
            have hfa : ents.find? (fun e => e.born == s) = some e1 := by rw [← Array.find?_toList]; exact he
            refine ⟨.tuple #[e1.key, e1.val], ?_, by simp only [VR]; exact ⟨_, rfl, by simp only [VRs]; exact ⟨_, _, rfl, hk1, _, _, rfl, hk2, rfl⟩⟩⟩
            subst hv
            simp only [Instr.entry, h0, Nat.zero_add, Sem.run_bind, hgo, Result.andThen_ok, hba, hgm', hcl, bne_self_eq_false, Bool.false_eq_true, if_false, hfa, Sem.run_pure]
          · cases hq
        · cases hq
      · cases hq
    · cases hq
  · cases hq

theorem light_sound (hT : T.ok P) (hR : R σ Z h w) (he : ER σ Z w e a) {o : Oper} {av : AV} (hl : light T e h o.op = some av) :
    ∃ v, (execOp a.eval o).run P w = .ok (.value v) w ∧ VR σ Z w av v := by
  unfold light at hl
  split at hl
  · rename_i x ho
    exact ⟨_, by simp [execOp, ho], opd_VR he hl⟩
  · rename_i x ho
    exact ⟨_, by simp [execOp, ho], opd_VR he hl⟩
  · rename_i c x y ho
    split at hl
    · rename_i t hc
      have := opd_VR he hc
      simp only [VR] at this
      cases t
      · exact ⟨_, by simp [execOp, ho, this, asBool], opd_VR he hl⟩
      · exact ⟨_, by simp [execOp, ho, this, asBool], opd_VR he hl⟩
    · cases hl
  · rename_i t parts ho
    simp only [Option.bind_eq_some_iff] at hl
    obtain ⟨aps, h1, h2⟩ := hl
    have hp := aParts_sound he h1
    obtain ⟨r, hr, hv⟩ := build_sound (vps := parts.map fun (i, x) => (i, a.eval x)) hT (by simpa using hp) h2
    exact ⟨r, by simp [execOp, ho, hr], hv⟩
  · rename_i t x ho
    simp only [Option.bind_eq_some_iff] at hl
    obtain ⟨ax, h1, h2⟩ := hl
    obtain ⟨b, off, u, e1, hr, hv⟩ := loadVar_sound hT hR (opd_VR he h1) h2
    exact ⟨u, by simp [execOp, ho, Instr.loadAt, e1, Instr.sureAddr, hr], hv⟩
  · rename_i x ho
    simp only [Option.bind_eq_some_iff] at hl
    obtain ⟨ax, h1, h2⟩ := hl
    exact nil_sound ho (opd_VR he h1) h2
  · rename_i op t x y yt ho
    split at hl
    · rename_i ax ay h1 h2
      obtain ⟨r, hr, hv⟩ := aBin_sound (P := P) (op := op) (t := t) (p := x) (q := y) hT hR (opd_VR he h1) (opd_VR he h2) hl
      refine ⟨r, ?_, hv⟩
      simp only [Sem.run_bind] at hr
      simp only [execOp, ho, Sem.run_bind, hr, Result.andThen_ok, Sem.run_pure]
    · cases hl
  · rename_i op t x ho
    simp only [Option.bind_eq_some_iff] at hl
    obtain ⟨ax, h1, h2⟩ := hl
    obtain ⟨r, hr, hv⟩ := aUn_sound (P := P) (opd_VR he h1) h2
    exact ⟨r, by simp [execOp, ho, hr], hv⟩
  · rename_i src dst x ho
    simp only [Option.bind_eq_some_iff] at hl
    obtain ⟨ax, h1, h2⟩ := hl
    obtain ⟨r, hr, hv⟩ := convert_sound hT hR (opd_VR he h1) h2
    exact ⟨r, by simp [execOp, ho, hr], hv⟩
  · rename_i t x ho
    split at hl
    · cases hl
    · cases hl
    · rename_i d hni hd
      simp only [Option.map_eq_some_iff] at hl
      obtain ⟨ax, h1, rfl⟩ := hl
      refine ⟨.iface t (a.eval x), ?_, by simp only [VR]; exact ⟨_, rfl, opd_VR he h1⟩⟩
      have hr : (Instr.makeInterface t (a.eval x)).run P w = .ok (.iface t (a.eval x)) w := by
        unfold Instr.makeInterface
        simp only [Sem.run_bind, run_und hT hd, Result.andThen_ok]
        first | rfl | (split <;> simp_all)
      simp [execOp, ho, hr]
  · rename_i f first captured ho
    split at hl
    · rename_i as bs h1 h2
      injection hl with hl; subst hl
      refine ⟨.func f (first.map a.eval) (captured.map a.eval), by simp [execOp, ho, Instr.makeFunc], ?_⟩
      simp only [VR]
      exact ⟨_, _, rfl, by simpa using opds_VR he h1, by simpa using opds_VR he h2⟩
    · cases hl
  · rename_i t x lo hi mx ho
    split at hl
    · rename_i ax al au am h1 h2 h3 h4
      have O : ∀ {y : Option Operand} {ay : Option AV}, optd e y = some ay → OptVR σ Z w ay (y.map a.eval) := by
        intro y ay hy
        rcases optd_VR he hy with ⟨rfl, rfl⟩ | ⟨z, b, rfl, rfl, hb⟩
        · trivial
        · exact hb
      obtain ⟨r, hr, hv⟩ := slice_sound (P := P) hT hR (opd_VR he h1) (O h2) (O h3) (O h4) hl
      exact ⟨r, by simp [execOp, ho, hr], hv⟩
    · cases hl
  · rename_i s x f ho
    simp only [Option.bind_eq_some_iff] at hl
    obtain ⟨ax, h1, h2⟩ := hl
    obtain ⟨r, hr, hv⟩ := fieldAt_sound (P := P) hT (opd_VR he h1) h2
    exact ⟨r, by simp [execOp, ho, hr], hv⟩
  · rename_i s x f ho
    simp only [Option.bind_eq_some_iff] at hl
    obtain ⟨ax, h1, h2⟩ := hl
    obtain ⟨r, hr, hv⟩ := field_sound (P := P) hT (opd_VR he h1) h2
    exact ⟨r, by simp [execOp, ho, hr], hv⟩
  · rename_i t x i ho
    split at hl
    · rename_i ax ai h1 h2
      obtain ⟨r, hr, hv⟩ := indexAt_sound (P := P) hT (opd_VR he h1) (opd_VR he h2) hl
      exact ⟨r, by simp [execOp, ho, hr], hv⟩
    · cases hl
  · rename_i t x i ho
    split at hl
    · rename_i ax ai h1 h2
      obtain ⟨r, hr, hv⟩ := index_sound (P := P) hT (opd_VR he h1) (opd_VR he h2) hl
      exact ⟨r, by simp [execOp, ho, hr], hv⟩
    · cases hl
  · rename_i t x i ok ho
    split at hl
    · rename_i ax ai h1 h2
      obtain ⟨r, hr, hv⟩ := lookup_sound (P := P) hT hR (opd_VR he h1) (opd_VR he h2) hl
      exact ⟨r, by simp [execOp, ho, hr], hv⟩
    · cases hl
  · rename_i x xt asserted ok ho
    simp only [Option.bind_eq_some_iff] at hl
    obtain ⟨ax, h1, h2⟩ := hl
    obtain ⟨r, hr, hv⟩ := assert_sound (P := P) (xt := xt) hT (opd_VR he h1) h2
    exact ⟨r, by simp [execOp, ho, hr], hv⟩
  · rename_i x ho
    simp only [Option.bind_eq_some_iff] at hl
    obtain ⟨ax, h1, h2⟩ := hl
    obtain ⟨r, hr, hv⟩ := entry_sound (P := P) hR (opd_VR he h1) h2
    exact ⟨r, by simp [execOp, ho, hr], hv⟩
  · rename_i x i ho
    split at hl
    · rename_i vs h1
      have := opd_VR he h1
      simp only [VR] at this
      obtain ⟨xs, hx, hxs⟩ := this
      obtain ⟨u, hu, hr⟩ := VRs.get hxs hl
      have hu' : xs[i]? = some u := by simpa using hu
      exact ⟨u, by simp [execOp, ho, Instr.extract, hx, hu'], hr⟩
    · cases hl
  · rename_i args argTypes ho
    split at hl
    · rename_i ax rest t h1 h2
      have hvs := opds_VR he h1
      simp only [VRs] at hvs
      obtain ⟨v, vs', e1, hv, _⟩ := hvs
      obtain ⟨ts, hts⟩ : ∃ ts, argTypes = (t :: ts).toArray := by
        obtain ⟨l⟩ := argTypes
        cases l with
        | nil => simp at h2
        | cons b l => simp at h2; subst h2; exact ⟨l, rfl⟩
      obtain ⟨r, hr, hv⟩ := len_sound (P := P) (ty := o.type) (ts := ts) (vs := vs') hT hR hv hl
      refine ⟨r, ?_, hv⟩
      have harr : args.map a.eval = (v :: vs').toArray := by rw [← e1]; apply Array.ext'; simp
      simp [execOp, ho, resolve, invoke, builtin, harr, hts, hr]
    · cases hl
  · rename_i args argTypes ho
    simp only [Option.bind_eq_some_iff] at hl
    obtain ⟨as, h1, h2⟩ := hl
    obtain ⟨r, hr, hv⟩ := minmax_sound (P := P) (ts := argTypes) (t := o.type) (opds_VR he h1) h2
    refine ⟨r, ?_, hv⟩
    have harr : args.map a.eval = (args.toList.map a.eval).toArray := by apply Array.ext'; simp
    simp only [Bool.false_eq_true, if_false] at hr
    simp [execOp, ho, resolve, invoke, builtin, harr, hr]
  · rename_i args argTypes ho
    simp only [Option.bind_eq_some_iff] at hl
    obtain ⟨as, h1, h2⟩ := hl
    obtain ⟨r, hr, hv⟩ := minmax_sound (P := P) (ts := argTypes) (t := o.type) (opds_VR he h1) h2
    refine ⟨r, ?_, hv⟩
    have harr : args.map a.eval = (args.toList.map a.eval).toArray := by apply Array.ext'; simp
    simp only [if_true] at hr
    simp [execOp, ho, resolve, invoke, builtin, harr, hr]
  · cases hl

end
end Go.Ab
