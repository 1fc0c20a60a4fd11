/- The code of the loop of TxnNumbers in parts, and the state that it keeps. -/
import Derived.Test.YtejdoilocmoojaaGreatZH5
import Derived.Test.YtejdoilocmoojaaGreatZA7
set_option linter.unusedSimpArgs false
set_option linter.unusedVariables false
/-! TxnNumbers: the code of its loop in parts; what its loop keeps. -/
namespace Go.Ab.K
open Go.Proofs
set_option maxRecDepth 20000

noncomputable def bodyA : MX := (.seq (.reg 14 (.mv (.t .d0 .d0 .d0) (.t .d0 .d6 .d0)
 (.mv (.t .d0 .d0 .d7) (.t .d0 .d6 .d1)
 (.v0 (.iaddr 22 (.t .d0 .d6 .d0) (.t .d0 .d6 .d1)) (.t .d0 .d6 .d2)
 (.v1 (.load1 (.t .d0 .d6 .d2)) (.t .d0 .d6 .d3)
 (.mv (.t .d0 .d0 .d6) (.t .d0 .d6 .d4)
 (.v0 (.gen 142 (.call ⟨(.builtin .len), #[(.tmp 52)], #[29]⟩)) (.t .d0 .d6 .d5)
 (.v0 (.ibin .rem .rem 3 false (.t .d0 .d6 .d3) (.t .d0 .d6 .d5)) (.t .d0 .d6 .d6)
 (.mv (.t .d0 .d0 .d6) (.t .d0 .d6 .d7)
 (.v0 (.gen 142 (.call ⟨(.builtin .len), #[(.tmp 55)], #[29]⟩)) (.t .d0 .d7 .d0)
 (.v0 (.ibin .add .add 3 false (.t .d0 .d6 .d6) (.t .d0 .d7 .d0)) (.t .d0 .d7 .d1)
 (.mv (.t .d0 .d0 .d6) (.t .d0 .d7 .d2)
 (.v0 (.gen 142 (.call ⟨(.builtin .len), #[(.tmp 58)], #[29]⟩)) (.t .d0 .d7 .d3)
 (.v0 (.ibin .rem .rem 3 false (.t .d0 .d7 .d1) (.t .d0 .d7 .d3)) (.t .d0 .d7 .d4)
 (.mv (.t .d0 .d7 .d4) (.t .d0 .d1 .d0)
 .done))))))))))))))) (.seq (.reg 5 (.mv (.t .d0 .d0 .d6) (.t .d0 .d7 .d5)
 (.mv (.t .d0 .d1 .d0) (.t .d0 .d7 .d6)
 (.v0 (.iaddr 29 (.t .d0 .d7 .d5) (.t .d0 .d7 .d6)) (.t .d0 .d7 .d7)
 (.v1 (.load1 (.t .d0 .d7 .d7)) (.t .d1 .d0 .d0)
 (.mv (.t .d1 .d0 .d0) (.t .d0 .d1 .d1)
 .done)))))) (.seq (.reg 11 (.mv (.t .d0 .d0 .d6) (.t .d1 .d0 .d2)
 (.mv (.t .d0 .d1 .d0) (.t .d1 .d0 .d3)
 (.v0 (.slice 29 (.t .d1 .d0 .d2) none (some (.t .d1 .d0 .d3)) none) (.t .d1 .d0 .d4)
 (.mv (.t .d0 .d0 .d6) (.t .d1 .d0 .d6)
 (.mv (.t .d0 .d1 .d0) (.t .d1 .d0 .d7)
 (.v0 (.ibin .add .add 3 false (.t .d1 .d0 .d7) (.k (.int .i64 (.ofNat 1)))) (.t .d1 .d1 .d0)
 (.v0 (.slice 29 (.t .d1 .d0 .d6) (some (.t .d1 .d1 .d0)) none none) (.t .d1 .d1 .d1)
 (.mk 0 142 (.buildSlice 29 0 #[]) (.t .d1 .d0 .d1)
 (.app 4 29 29 (.t .d1 .d0 .d1) (.t .d1 .d0 .d4) (.t .d1 .d0 .d5)
 (.app 9 29 29 (.t .d1 .d0 .d5) (.t .d1 .d1 .d1) (.t .d1 .d1 .d2)
 (.mv (.t .d1 .d1 .d2) (.t .d0 .d0 .d6)
 .done)))))))))))) (.seq (.seq (.reg 15 (.mv (.t .d0 .d0 .d3) (.t .d1 .d1 .d3)
 (.mv (.t .d0 .d1 .d1) (.t .d1 .d1 .d4)
 (.cs 9 [(.t .d1 .d1 .d3), (.t .d1 .d1 .d4)] (.t .d1 .d1 .d5)
 (.v0 (.ibin .neq .neq 30 false (.t .d1 .d1 .d5) (.k (.int .i64 (.ofNat 0)))) (.t .d1 .d1 .d6)
 (.mv (.t .d1 .d1 .d6) (.t .d1 .d1 .d7)
 (.gd (.t .d1 .d1 .d7) false (.mv (.t .d0 .d0 .d3) (.t .d1 .d2 .d0)
 .done) (.t .d1 .d2 .d0)
 (.gd (.t .d1 .d1 .d7) false (.mv (.t .d0 .d1 .d1) (.t .d1 .d2 .d1)
 .done) (.t .d1 .d2 .d1)
 (.gd (.t .d1 .d1 .d7) false (.cs 10 [(.t .d1 .d2 .d0), (.t .d1 .d2 .d1)] (.t .d1 .d2 .d2)
 .done) (.t .d1 .d2 .d2)
 (.v0 (.pick (.t .d1 .d1 .d7) (.k (.bool true)) (.t .d1 .d2 .d2)) (.t .d1 .d2 .d3)
 (.mv (.t .d1 .d2 .d3) (.t .d1 .d2 .d4)
 (.gd (.t .d1 .d2 .d4) false (.mv (.t .d0 .d0 .d3) (.t .d1 .d2 .d5)
 .done) (.t .d1 .d2 .d5)
 (.gd (.t .d1 .d2 .d4) false (.mv (.t .d0 .d1 .d1) (.t .d1 .d2 .d6)
 .done) (.t .d1 .d2 .d6)
 (.gd (.t .d1 .d2 .d4) false (.cs 11 [(.t .d1 .d2 .d5), (.t .d1 .d2 .d6)] (.t .d1 .d2 .d7)
 .done) (.t .d1 .d2 .d7)
 (.gd (.t .d1 .d2 .d4) false (.v0 (.ibin .neq .neq 30 false (.t .d1 .d2 .d7) (.k (.int .i64 (.ofNat 5)))) (.t .d1 .d3 .d0)
 .done) (.t .d1 .d3 .d0)
 (.v0 (.pick (.t .d1 .d2 .d4) (.k (.bool true)) (.t .d1 .d3 .d0)) (.t .d1 .d3 .d1)
 .done)))))))))))))))) (.cond (.t .d1 .d3 .d1) (.seq (.reg 1 (.mv (.k (.bool false)) (.t .d0 .d0 .d2)
 .done)) .ret) .skip)) (.seq (.reg 10 (.mv (.t .d0 .d0 .d3) (.t .d1 .d3 .d3)
 (.mv (.t .d0 .d1 .d1) (.t .d1 .d3 .d4)
 (.cs 12 [(.t .d1 .d3 .d3), (.t .d1 .d3 .d4), (.k (.int .i64 (.ofNat 1))), (.k (.str ⟨#[97]⟩))] (.t .d1 .d3 .d5)
 (.mv (.t .d1 .d3 .d5) (.t .d1 .d3 .d2)
 (.v0 (.ext (.t .d1 .d3 .d2) 0) (.t .d1 .d3 .d6)
 (.v0 (.ext (.t .d1 .d3 .d2) 1) (.t .d1 .d3 .d7)
 (.v0 (.ext (.t .d1 .d3 .d2) 2) (.t .d1 .d4 .d0)
 (.mv (.t .d1 .d3 .d6) (.t .d0 .d1 .d2)
 (.mv (.t .d1 .d3 .d7) (.t .d0 .d1 .d3)
 (.mv (.t .d1 .d4 .d0) (.t .d0 .d1 .d4)
 .done))))))))))) (.seq (.seq (.reg 2 (.mv (.t .d0 .d1 .d4) (.t .d1 .d4 .d1)
 (.v0 (.ibin .neq .neq 30 false (.t .d1 .d4 .d1) (.k (.int .i64 (.ofNat 5)))) (.t .d1 .d4 .d2)
 .done))) (.cond (.t .d1 .d4 .d2) (.seq (.reg 1 (.mv (.k (.bool false)) (.t .d0 .d0 .d2)
 .done)) .ret) .skip)) (.exit 1)))))))
noncomputable def bodyB : MX := (.seq (.reg 7 (.mv (.t .d0 .d0 .d3) (.t .d1 .d4 .d4)
 (.cs 13 [(.t .d1 .d4 .d4)] (.t .d1 .d4 .d5)
 (.mv (.t .d1 .d4 .d5) (.t .d1 .d4 .d3)
 (.v0 (.ext (.t .d1 .d4 .d3) 0) (.t .d1 .d4 .d6)
 (.v0 (.ext (.t .d1 .d4 .d3) 1) (.t .d1 .d4 .d7)
 (.mv (.t .d1 .d4 .d6) (.t .d0 .d1 .d5)
 (.mv (.t .d1 .d4 .d7) (.t .d0 .d1 .d6)
 .done)))))))) (.seq (.seq (.reg 3 (.mv (.t .d0 .d0 .d6) (.t .d1 .d5 .d0)
 (.v0 (.gen 142 (.call ⟨(.builtin .len), #[(.tmp 104)], #[29]⟩)) (.t .d1 .d5 .d1)
 (.v0 (.ibin .eql .eql 3 false (.t .d1 .d5 .d1) (.k (.int .i64 (.ofNat 64)))) (.t .d1 .d5 .d2)
 .done)))) (.cond (.t .d1 .d5 .d2) (.seq (.seq (.reg 6 (.mv (.t .d0 .d1 .d5) (.t .d1 .d5 .d3)
 (.v0 (.ibin .neq .neq 28 false (.t .d1 .d5 .d3) (.k (.int .u64 (.ofNat 0)))) (.t .d1 .d5 .d4)
 (.mv (.t .d1 .d5 .d4) (.t .d1 .d5 .d5)
 (.gd (.t .d1 .d5 .d5) false (.mv (.t .d0 .d1 .d6) (.t .d1 .d5 .d6)
 .done) (.t .d1 .d5 .d6)
 (.gd (.t .d1 .d5 .d5) false (.v0 (.ibin .neq .neq 30 false (.t .d1 .d5 .d6) (.k (.int .i64 (.ofNat 3)))) (.t .d1 .d5 .d7)
 .done) (.t .d1 .d5 .d7)
 (.v0 (.pick (.t .d1 .d5 .d5) (.k (.bool true)) (.t .d1 .d5 .d7)) (.t .d1 .d6 .d0)
 .done))))))) (.cond (.t .d1 .d6 .d0) (.seq (.reg 1 (.mv (.k (.bool false)) (.t .d0 .d0 .d2)
 .done)) .ret) .skip)) (.exit 1)) .skip)) (.seq (.reg 3 (.mv (.t .d0 .d0 .d5) (.t .d1 .d6 .d1)
 (.v0 (.ibin .add .add 28 false (.t .d1 .d6 .d1) (.k (.int .u64 (.ofNat 1)))) (.t .d1 .d6 .d2)
 (.mv (.t .d1 .d6 .d2) (.t .d0 .d0 .d5)
 .done)))) (.seq (.seq (.reg 13 (.mv (.t .d0 .d1 .d5) (.t .d1 .d6 .d3)
 (.mv (.t .d0 .d0 .d5) (.t .d1 .d6 .d4)
 (.v0 (.ibin .neq .neq 28 false (.t .d1 .d6 .d3) (.t .d1 .d6 .d4)) (.t .d1 .d6 .d5)
 (.mv (.t .d1 .d6 .d5) (.t .d1 .d6 .d6)
 (.gd (.t .d1 .d6 .d6) false (.mv (.t .d0 .d1 .d6) (.t .d1 .d6 .d7)
 .done) (.t .d1 .d6 .d7)
 (.gd (.t .d1 .d6 .d6) false (.v0 (.ibin .neq .neq 30 false (.t .d1 .d6 .d7) (.k (.int .i64 (.ofNat 0)))) (.t .d1 .d7 .d0)
 .done) (.t .d1 .d7 .d0)
 (.v0 (.pick (.t .d1 .d6 .d6) (.k (.bool true)) (.t .d1 .d7 .d0)) (.t .d1 .d7 .d1)
 (.mv (.t .d1 .d7 .d1) (.t .d1 .d7 .d2)
 (.gd (.t .d1 .d7 .d2) false (.mv (.t .d0 .d0 .d3) (.t .d1 .d7 .d3)
 .done) (.t .d1 .d7 .d3)
 (.gd (.t .d1 .d7 .d2) false (.mv (.t .d0 .d1 .d5) (.t .d1 .d7 .d4)
 .done) (.t .d1 .d7 .d4)
 (.gd (.t .d1 .d7 .d2) false (.cs 10 [(.t .d1 .d7 .d3), (.t .d1 .d7 .d4)] (.t .d1 .d7 .d5)
 .done) (.t .d1 .d7 .d5)
 (.gd (.t .d1 .d7 .d2) false (.v0 (.un .not (.t .d1 .d7 .d5)) (.t .d1 .d7 .d6)
 .done) (.t .d1 .d7 .d6)
 (.v0 (.pick (.t .d1 .d7 .d2) (.k (.bool true)) (.t .d1 .d7 .d6)) (.t .d1 .d7 .d7)
 .done)))))))))))))) (.cond (.t .d1 .d7 .d7) (.seq (.reg 1 (.mv (.k (.bool false)) (.t .d0 .d0 .d2)
 .done)) .ret) .skip)) (.reg 5 (.mv (.t .d0 .d0 .d6) (.t .d2 .d0 .d0)
 (.mv (.t .d0 .d1 .d5) (.t .d2 .d0 .d1)
 (.mk 2 142 (.buildSlice 29 1 #[(0, (.tmp 129))]) (.t .d2 .d0 .d2)
 (.app 3 29 29 (.t .d2 .d0 .d0) (.t .d2 .d0 .d2) (.t .d2 .d0 .d3)
 (.mv (.t .d2 .d0 .d3) (.t .d0 .d0 .d6)
 .done))))))))))
noncomputable def body3 : MX := (.seq (.seq (.reg 8 (.mv (.t .d0 .d0 .d7) (.t .d0 .d3 .d3)
 (.mv (.t .d0 .d0 .d0) (.t .d0 .d3 .d4)
 (.v0 (.gen 142 (.call ⟨(.builtin .len), #[(.tmp 28)], #[22]⟩)) (.t .d0 .d3 .d5)
 (.v0 (.ibin .lss .lss 3 false (.t .d0 .d3 .d3) (.t .d0 .d3 .d5)) (.t .d0 .d3 .d6)
 (.mv (.t .d0 .d3 .d6) (.t .d0 .d3 .d7)
 (.gd (.t .d0 .d3 .d7) true (.mv (.t .d0 .d0 .d7) (.t .d0 .d4 .d0)
 .done) (.t .d0 .d4 .d0)
 (.gd (.t .d0 .d3 .d7) true (.v0 (.ibin .lss .lss 3 false (.t .d0 .d4 .d0) (.k (.int .i64 (.ofNat 150)))) (.t .d0 .d4 .d1)
 .done) (.t .d0 .d4 .d1)
 (.v0 (.pick (.t .d0 .d3 .d7) (.t .d0 .d4 .d1) (.k (.bool false))) (.t .d0 .d4 .d2)
 .done))))))))) (.cond (.t .d0 .d4 .d2) .skip (.exit 0))) (.seq (.block 1 (.seq (.seq (.reg 11 (.mv (.t .d0 .d0 .d0) (.t .d0 .d4 .d5)
 (.mv (.t .d0 .d0 .d7) (.t .d0 .d4 .d6)
 (.v0 (.iaddr 22 (.t .d0 .d4 .d5) (.t .d0 .d4 .d6)) (.t .d0 .d4 .d7)
 (.v1 (.load1 (.t .d0 .d4 .d7)) (.t .d0 .d5 .d0)
 (.v0 (.ibin .rem .rem 3 false (.t .d0 .d5 .d0) (.k (.int .i64 (.ofNat 3)))) (.t .d0 .d5 .d1)
 (.v0 (.ibin .eql .eql 3 false (.t .d0 .d5 .d1) (.k (.int .i64 (.ofNat 0)))) (.t .d0 .d5 .d2)
 (.mv (.t .d0 .d5 .d2) (.t .d0 .d5 .d3)
 (.gd (.t .d0 .d5 .d3) true (.mv (.t .d0 .d0 .d6) (.t .d0 .d5 .d4)
 .done) (.t .d0 .d5 .d4)
 (.gd (.t .d0 .d5 .d3) true (.v0 (.gen 142 (.call ⟨(.builtin .len), #[(.tmp 44)], #[29]⟩)) (.t .d0 .d5 .d5)
 .done) (.t .d0 .d5 .d5)
 (.gd (.t .d0 .d5 .d3) true (.v0 (.ibin .gtr .gtr 3 false (.t .d0 .d5 .d5) (.k (.int .i64 (.ofNat 0)))) (.t .d0 .d5 .d6)
 .done) (.t .d0 .d5 .d6)
 (.v0 (.pick (.t .d0 .d5 .d3) (.t .d0 .d5 .d6) (.k (.bool false))) (.t .d0 .d5 .d7)
 .done)))))))))))) (.cond (.t .d0 .d5 .d7) bodyA .skip)) bodyB)) (.reg 3 (.mv (.t .d0 .d0 .d7) (.t .d0 .d4 .d3)
 (.v0 (.ibin .add .add 3 false (.t .d0 .d4 .d3) (.k (.int .i64 (.ofNat 1)))) (.t .d0 .d4 .d4)
 (.mv (.t .d0 .d4 .d4) (.t .d0 .d0 .d7)
 .done))))))
theorem m3_eq : m3 = ⟨(.seq (.reg 1 (.mv (.k (.bool false)) (.t .d0 .d0 .d2)
 .done)) (.seq (.seq (.reg 2 (.cs 7 [] (.t .d0 .d1 .d7)
 (.v0 (.un .not (.t .d0 .d1 .d7)) (.t .d0 .d2 .d0)
 .done))) (.cond (.t .d0 .d2 .d0) (.seq (.reg 1 (.mv (.k (.bool false)) (.t .d0 .d0 .d2)
 .done)) .ret) .skip)) (.seq (.reg 6 (.cs 8 [(.k (.int .i64 (.ofNat 64)))] (.t .d0 .d2 .d2)
 (.mv (.t .d0 .d2 .d2) (.t .d0 .d2 .d1)
 (.v0 (.ext (.t .d0 .d2 .d1) 0) (.t .d0 .d2 .d3)
 (.v0 (.ext (.t .d0 .d2 .d1) 1) (.t .d0 .d2 .d4)
 (.mv (.t .d0 .d2 .d3) (.t .d0 .d0 .d3)
 (.mv (.t .d0 .d2 .d4) (.t .d0 .d0 .d4)
 .done))))))) (.seq (.seq (.reg 6 (.mv (.t .d0 .d0 .d3) (.t .d0 .d2 .d5)
 (.v1 (.bin .eql 24 false (.t .d0 .d2 .d5) (.k .nilp)) (.t .d0 .d2 .d6)
 (.mv (.t .d0 .d2 .d6) (.t .d0 .d2 .d7)
 (.gd (.t .d0 .d2 .d7) false (.mv (.t .d0 .d0 .d4) (.t .d0 .d3 .d0)
 .done) (.t .d0 .d3 .d0)
 (.gd (.t .d0 .d2 .d7) false (.v1 (.bin .eql 25 false (.t .d0 .d3 .d0) (.k .nilp)) (.t .d0 .d3 .d1)
 .done) (.t .d0 .d3 .d1)
 (.v0 (.pick (.t .d0 .d2 .d7) (.k (.bool true)) (.t .d0 .d3 .d1)) (.t .d0 .d3 .d2)
 .done))))))) (.cond (.t .d0 .d3 .d2) (.seq (.reg 1 (.mv (.k (.bool false)) (.t .d0 .d0 .d2)
 .done)) .ret) .skip)) (.seq (.reg 1 (.mv (.k (.int .u64 (.ofNat 0))) (.t .d0 .d0 .d5)
 .done)) (.seq (.reg 1 (.mv (.k .nils) (.t .d0 .d0 .d6)
 .done)) (.seq (.seq (.reg 1 (.mv (.k (.int .i64 (.ofNat 0))) (.t .d0 .d0 .d7)
 .done)) (.block 0 (.loop body3))) (.seq (.reg 11 (.mv (.t .d0 .d0 .d3) (.t .d2 .d0 .d4)
 (.cs 10 [(.t .d2 .d0 .d4), (.k (.int .u64 (.ofNat 0)))] (.t .d2 .d0 .d5)
 (.v0 (.un .not (.t .d2 .d0 .d5)) (.t .d2 .d0 .d6)
 (.mv (.t .d2 .d0 .d6) (.t .d2 .d0 .d7)
 (.gd (.t .d2 .d0 .d7) true (.mv (.t .d0 .d0 .d3) (.t .d2 .d1 .d0)
 .done) (.t .d2 .d1 .d0)
 (.gd (.t .d2 .d0 .d7) true (.mv (.t .d0 .d0 .d5) (.t .d2 .d1 .d1)
 .done) (.t .d2 .d1 .d1)
 (.gd (.t .d2 .d0 .d7) true (.v0 (.ibin .add .add 28 false (.t .d2 .d1 .d1) (.k (.int .u64 (.ofNat 1)))) (.t .d2 .d1 .d2)
 .done) (.t .d2 .d1 .d2)
 (.gd (.t .d2 .d0 .d7) true (.cs 10 [(.t .d2 .d1 .d0), (.t .d2 .d1 .d2)] (.t .d2 .d1 .d3)
 .done) (.t .d2 .d1 .d3)
 (.gd (.t .d2 .d0 .d7) true (.v0 (.un .not (.t .d2 .d1 .d3)) (.t .d2 .d1 .d4)
 .done) (.t .d2 .d1 .d4)
 (.v0 (.pick (.t .d2 .d0 .d7) (.t .d2 .d1 .d4) (.k (.bool false))) (.t .d2 .d1 .d5)
 (.mv (.t .d2 .d1 .d5) (.t .d0 .d0 .d2)
 .done)))))))))))) .ret)))))))),
 pts16, [(.tmp (.t .d0 .d0 .d2))]⟩ := rfl

theorem extOk : ∀ f n, ext f = some n → ∃ fn, Tryz.prog.funcs[f]? = some fn ∧ (fn.name == "runtime.NumGoroutine") = false ∧ fn.body.isNone = true ∧ Extern.findNext fn = none ∧
    ((n = 0 ∧ Extern.find fn = some Extern.MapsClone.clone) ∨ (n = 1 ∧ Extern.find fn = some Extern.BytealgCompare.compare)) := by
  intro f n h
  unfold ext at h
  split at h
  · rename_i hf; subst hf
    injection h with h; subst h
    exact ⟨(Tryz.prog.funcs[153]?).get (by kernel_rfl), by kernel_rfl, by kernel_rfl, by kernel_rfl, by kernel_rfl, .inl ⟨rfl, by kernel_rfl⟩⟩
  · split at h
    · rename_i hf; subst hf
      injection h with h; subst h
      exact ⟨(Tryz.prog.funcs[227]?).get (by kernel_rfl), by kernel_rfl, by kernel_rfl, by kernel_rfl, by kernel_rfl, .inr ⟨rfl, by kernel_rfl⟩⟩
    · cases h
theorem hT : T.ok Tryz.prog := tabOf_ok extOk

theorem CTG_eq {d : Nat} {f : FuncId} {args : List AV} {h h1 : Heap} {v : AV} {K : AV → Heap → Bool} (q : ∀ fuel k K, mcall T F fuel (k + d) f args h K = K v h1) (hk : K v h1 = true) : CTG Tryz.prog T f args h K = true :=
  CTG_of_mcall hT follows Fok ((q 0 0 K).trans hk)

/-- The slots that the loop keeps. -/
structure SL (E0 : E) (a m l o i : AV) : Prop where
  s0 : N8.get .d0 (N8.get .d0 (N8.get .d0 E0)) = a
  s3 : N8.get .d3 (N8.get .d0 (N8.get .d0 E0)) = m
  s5 : N8.get .d5 (N8.get .d0 (N8.get .d0 E0)) = l
  s6 : N8.get .d6 (N8.get .d0 (N8.get .d0 E0)) = o
  s7 : N8.get .d7 (N8.get .d0 (N8.get .d0 E0)) = i

def OP (h : Heap) (v : AV) (ks : List Nat) : Prop := (v = .nils ∧ ks = []) ∨ ∃ i ex sg, SP h v ks i ex sg ∧ 15000 ≤ i ∧ i < h.next

theorem OP.fr {h h' : Heap} {v : AV} {ks : List Nat} {S : List Nat} {k : Nat} (o : OP h v ks) (f : Fr S h h' k) (hS : ∀ i, i ∈ S → i < 15000) : OP h' v ks := by
  rcases o with o | ⟨i, ex, sg, ⟨o1, o2⟩, o3, o4⟩
  · exact .inl o
  · exact .inr ⟨i, ex, sg, ⟨o1, (f.same i o4 (fun hi => by have := hS i hi; omega)).trans o2⟩, o3, Nat.lt_of_lt_of_le o4 f.lo⟩

/-- The state of the loop: 'os': who is open, by the manager; 'ks': by the law. -/
structure ST (h : Heap) (v : AV) (n c : Nat) (os : List (Nat × Nat)) (ks : List Nat) : Prop where
  m : MH h n (ents os) c
  o : OP h v ks
  len : os.length = ks.length
  mem : ∀ t, t ∈ os.map (·.1) ↔ t ∈ ks
  nd1 : (os.map (·.1)).Nodup
  nd2 : ks.Nodup
  lo : ∀ t, t ∈ ks → 1 ≤ t ∧ t ≤ n
  cnt : ks.length ≤ 64

theorem mem_erase {α : Type} {t x : α} : ∀ {l : List α} {j : Nat}, l.Nodup → l[j]? = some t → (x ∈ l.eraseIdx j ↔ x ∈ l ∧ x ≠ t)
  | [], j, _, h => by simp at h
  | a :: l, 0, hn, h => by
    simp only [List.getElem?_cons_zero, Option.some.injEq] at h
    subst h
    simp only [List.eraseIdx_cons_zero, List.mem_cons]
    have := (List.nodup_cons.1 hn).1
    constructor
    · intro hx; exact ⟨.inr hx, fun e0 => this (e0 ▸ hx)⟩
    · rintro ⟨hx | hx, hne⟩
      · exact absurd hx hne
      · exact hx
  | a :: l, j + 1, hn, h => by
    simp only [List.getElem?_cons_succ] at h
    have hn' := List.nodup_cons.1 hn
    simp only [List.eraseIdx_cons_succ, List.mem_cons, mem_erase hn'.2 h]
    have ht : t ∈ l := List.mem_of_getElem? h
    constructor
    · rintro (hx | ⟨hx, hne⟩)
      · exact ⟨.inl hx, fun e0 => hn'.1 (by rw [← hx, e0]; exact ht)⟩
      · exact ⟨.inr hx, hne⟩
    · rintro ⟨hx | hx, hne⟩
      · exact .inl hx
      · exact .inr ⟨hx, hne⟩

/-- One ends. -/
theorem ST.drop {h h' : Heap} {v v' : AV} {n c : Nat} {os : List (Nat × Nat)} {ks : List Nat} {t j k : Nat} (s : ST h v n c os ks) (hj : (os.map (·.1))[j]? = some t) (hk : ks[k]? = some t)
    (m' : MH h' n (ents (os.eraseIdx j)) c) (o' : OP h' v' (ks.eraseIdx k)) : ST h' v' n c (os.eraseIdx j) (ks.eraseIdx k) := by
  have e1 : (os.eraseIdx j).map (·.1) = (os.map (·.1)).eraseIdx j := (map_erase _ _ _).symm
  have hjl : j < os.length := by
    have := (List.getElem?_eq_some_iff.1 hj).1; simpa using this
  have hkl : k < ks.length := (List.getElem?_eq_some_iff.1 hk).1
  refine ⟨m', o', ?_, fun x => ?_, ?_, s.nd2.sublist (List.eraseIdx_sublist _ _), fun x hx => s.lo x ((mem_erase s.nd2 hk).1 hx).1, ?_⟩
  · rw [List.length_eraseIdx_of_lt hjl, List.length_eraseIdx_of_lt hkl, s.len]
  · rw [e1, mem_erase s.nd1 hj, mem_erase s.nd2 hk, s.mem]
  · rw [e1]; exact s.nd1.sublist (List.eraseIdx_sublist _ _)
  · have := s.cnt
    rw [List.length_eraseIdx_of_lt hkl]; omega

/-- One begins. -/
theorem ST.add {h h' : Heap} {v v' : AV} {n c c' b : Nat} {os : List (Nat × Nat)} {ks : List Nat} (s : ST h v n c os ks) (hl : ks.length < 64)
    (m' : MH h' (n + 1) (ents (os ++ [(n + 1, b)])) c') (o' : OP h' v' (ks ++ [n + 1])) : ST h' v' (n + 1) c' (os ++ [(n + 1, b)]) (ks ++ [n + 1]) := by
  have hn : n + 1 ∉ ks := fun hx => by have := (s.lo _ hx).2; omega
  have hn1 : n + 1 ∉ os.map (·.1) := fun hx => hn ((s.mem _).1 hx)
  refine ⟨m', o', by simp [s.len], fun x => by simp only [List.map_append, List.mem_append, s.mem]; simp, ?_, ?_, fun x hx => ?_, by simp; omega⟩
  · simp only [List.map_append, List.map_cons, List.map_nil]
    exact List.nodup_append.2 ⟨s.nd1, by simp, fun a ha b hb => by simp at hb; subst hb; exact fun e0 => hn1 (e0 ▸ ha)⟩
  · exact List.nodup_append.2 ⟨s.nd2, by simp, fun a ha b hb => by simp at hb; subst hb; exact fun e0 => hn (e0 ▸ ha)⟩
  · rcases List.mem_append.1 hx with hx | hx
    · have := s.lo x hx; omega
    · simp at hx; omega
end Go.Ab.K
