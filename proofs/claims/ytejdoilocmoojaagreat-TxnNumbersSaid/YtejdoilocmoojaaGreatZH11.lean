/- TxnNumbers answers true over any slice that is only read. -/
import Derived.Test.YtejdoilocmoojaaGreatZH10
set_option linter.unusedSimpArgs false
set_option linter.unusedVariables false
/-! TxnNumbers: the whole function. -/
namespace Go.Ab.K
open Go.Proofs
set_option maxRecDepth 20000

noncomputable def tail3 : MX := (.reg 11 (.mv (.t .d0 .d0 .d3) (.t .d2 .d0 .d4)
 (.cs 10 [(.t .d2 .d0 .d4), (.k (.int .u64 (.ofNat 0)))] (.t .d2 .d0 .d5)
 (.v0 (.un .not (.t .d2 .d0 .d5)) (.t .d2 .d0 .d6)
 (.mv (.t .d2 .d0 .d6) (.t .d2 .d0 .d7)
 (.gd (.t .d2 .d0 .d7) true (.mv (.t .d0 .d0 .d3) (.t .d2 .d1 .d0)
 .done) (.t .d2 .d1 .d0)
 (.gd (.t .d2 .d0 .d7) true (.mv (.t .d0 .d0 .d5) (.t .d2 .d1 .d1)
 .done) (.t .d2 .d1 .d1)
 (.gd (.t .d2 .d0 .d7) true (.v0 (.ibin .add .add 28 false (.t .d2 .d1 .d1) (.k (.int .u64 (.ofNat 1)))) (.t .d2 .d1 .d2)
 .done) (.t .d2 .d1 .d2)
 (.gd (.t .d2 .d0 .d7) true (.cs 10 [(.t .d2 .d1 .d0), (.t .d2 .d1 .d2)] (.t .d2 .d1 .d3)
 .done) (.t .d2 .d1 .d3)
 (.gd (.t .d2 .d0 .d7) true (.v0 (.un .not (.t .d2 .d1 .d3)) (.t .d2 .d1 .d4)
 .done) (.t .d2 .d1 .d4)
 (.v0 (.pick (.t .d2 .d0 .d7) (.t .d2 .d1 .d4) (.k (.bool false))) (.t .d2 .d1 .d5)
 (.mv (.t .d2 .d1 .d5) (.t .d0 .d0 .d2)
 .done))))))))))))

theorem m3_eq' : m3 = ⟨(.seq (.reg 1 (.mv (.k (.bool false)) (.t .d0 .d0 .d2)
 .done)) (.seq (.seq (.reg 2 (.cs 7 [] (.t .d0 .d1 .d7)
 (.v0 (.un .not (.t .d0 .d1 .d7)) (.t .d0 .d2 .d0)
 .done))) (.cond (.t .d0 .d2 .d0) (.seq (.reg 1 (.mv (.k (.bool false)) (.t .d0 .d0 .d2)
 .done)) .ret) .skip)) (.seq (.reg 6 (.cs 8 [(.k (.int .i64 (.ofNat 64)))] (.t .d0 .d2 .d2)
 (.mv (.t .d0 .d2 .d2) (.t .d0 .d2 .d1)
 (.v0 (.ext (.t .d0 .d2 .d1) 0) (.t .d0 .d2 .d3)
 (.v0 (.ext (.t .d0 .d2 .d1) 1) (.t .d0 .d2 .d4)
 (.mv (.t .d0 .d2 .d3) (.t .d0 .d0 .d3)
 (.mv (.t .d0 .d2 .d4) (.t .d0 .d0 .d4)
 .done))))))) (.seq (.seq (.reg 6 (.mv (.t .d0 .d0 .d3) (.t .d0 .d2 .d5)
 (.v1 (.bin .eql 24 false (.t .d0 .d2 .d5) (.k .nilp)) (.t .d0 .d2 .d6)
 (.mv (.t .d0 .d2 .d6) (.t .d0 .d2 .d7)
 (.gd (.t .d0 .d2 .d7) false (.mv (.t .d0 .d0 .d4) (.t .d0 .d3 .d0)
 .done) (.t .d0 .d3 .d0)
 (.gd (.t .d0 .d2 .d7) false (.v1 (.bin .eql 25 false (.t .d0 .d3 .d0) (.k .nilp)) (.t .d0 .d3 .d1)
 .done) (.t .d0 .d3 .d1)
 (.v0 (.pick (.t .d0 .d2 .d7) (.k (.bool true)) (.t .d0 .d3 .d1)) (.t .d0 .d3 .d2)
 .done))))))) (.cond (.t .d0 .d3 .d2) (.seq (.reg 1 (.mv (.k (.bool false)) (.t .d0 .d0 .d2)
 .done)) .ret) .skip)) (.seq (.reg 1 (.mv (.k (.int .u64 (.ofNat 0))) (.t .d0 .d0 .d5)
 .done)) (.seq (.reg 1 (.mv (.k .nils) (.t .d0 .d0 .d6)
 .done)) (.seq (.seq (.reg 1 (.mv (.k (.int .i64 (.ofNat 0))) (.t .d0 .d0 .d7)
 .done)) (.block 0 (.loop body3))) (.seq tail3 .ret)))))))),
 pts16, [(.tmp (.t .d0 .d0 .d2))]⟩ := rfl
theorem loop_run {b : MX} {call : XCall} {fuel : Nat} {e : E} {ds : List Nat} {h : Heap} {K : MPost} : (MX.loop b).run T call fuel e ds h K = mxLoopGo (b.run T call fuel) fuel e ds h K := rfl

theorem tail3_true {a : AV} {fuel : Nat} {E0 : E} {h : Heap} (hf : Fin3 a E0 h) : (MX.seq tail3 .ret).run T (CTG Tryz.prog T) fuel E0 [] h (endM T [.tmp (.t .d0 .d0 .d2)] isTrue) = true := by
  obtain ⟨n, c, os, ks, v, i, s, st, hn, hb⟩ := hf
  have h0 : 0 ∉ os.map (·.1) := fun hx => by have := (st.lo _ ((st.mem _).1 hx)).1; omega
  have h1 : n + 1 ∉ os.map (·.1) := fun hx => by have := (st.lo _ ((st.mem _).1 hx)).2; omega
  obtain ⟨g1, q1, r1⟩ := c10 (st.m.bump 11) (by simp only [Heap.bump_next]; omega) 0
  simp only [decide_eq_false h0] at q1
  have b1 := r1.hi
  simp only [Heap.bump_next] at b1
  have m1 := (st.m.bump 11).fr r1
  obtain ⟨g2, q2, r2⟩ := c10 m1 (by omega) (n + 1)
  simp only [decide_eq_false h1] at q2
  obtain ⟨s0, s3, s5, s6, s7⟩ := s
  obtain ⟨⟨⟨e000, e001, e002, e003, e004, e005, e006, e007⟩, ⟨e010, e011, e012, e013, e014, e015, e016, e017⟩, ⟨e020, e021, e022, e023, e024, e025, e026, e027⟩, ⟨e030, e031, e032, e033, e034, e035, e036, e037⟩, ⟨e040, e041, e042, e043, e044, e045, e046, e047⟩, ⟨e050, e051, e052, e053, e054, e055, e056, e057⟩, ⟨e060, e061, e062, e063, e064, e065, e066, e067⟩, ⟨e070, e071, e072, e073, e074, e075, e076, e077⟩⟩, ⟨⟨e100, e101, e102, e103, e104, e105, e106, e107⟩, ⟨e110, e111, e112, e113, e114, e115, e116, e117⟩, ⟨e120, e121, e122, e123, e124, e125, e126, e127⟩, ⟨e130, e131, e132, e133, e134, e135, e136, e137⟩, ⟨e140, e141, e142, e143, e144, e145, e146, e147⟩, ⟨e150, e151, e152, e153, e154, e155, e156, e157⟩, ⟨e160, e161, e162, e163, e164, e165, e166, e167⟩, ⟨e170, e171, e172, e173, e174, e175, e176, e177⟩⟩, ⟨⟨e200, e201, e202, e203, e204, e205, e206, e207⟩, ⟨e210, e211, e212, e213, e214, e215, e216, e217⟩, g22, g23, g24, g25, g26, g27⟩, w3, w4, w5, w6, w7⟩ := E0
  simp only [get_mk0, get_mk3, get_mk5, get_mk6, get_mk7] at s0 s3 s5 s6 s7
  subst s0 s3 s5 s6 s7
  simp only [tail3]
  rw [seq_run, reg_call (by (try simp only [bump_bump, Heap.bump_next, Heap.set_next]); omega) (by simp only [MC.exec, optR_some, rd_t, rd_k, put_t, put_no, none_eq, get_all, get_mk0, get_mk1, get_mk2, get_mk3, get_mk4, get_mk5, get_mk6, get_mk7, set_mk0, set_mk1, set_mk2, set_mk3, set_mk4, set_mk5, set_mk6, set_mk7, set_all0, set_all1, set_all2, set_all3, set_all4, set_all5, set_all6, set_all7, rds_nil, rds_cons, val_mov, val_pick, val_load, val_nilc, val_ibin, val_bin, val_un, val_conv, val_slice, val_shift, val_iaddr, val_ext, val_len, load1_eq, rdO_none, rdO_some, onBool_t, onBool_f, onInt_int, onPtr_ptr, onTup_tup, wantB_tt, wantB_tf, wantB_ft, wantB_ff, wantB_u, bump_get, bump_bump, getN_zero, getN_succ, hRow_bump, nadd_eq, Heap.bump_next, Nat.reduceAdd, Nat.zero_add, kbeq, unNot_t, unNot_f]; rfl)]
  refine CTG_eq q1 ?_
  rw [run_call (by simp only [MC.exec, optR_some, rd_t, rd_k, put_t, put_no, none_eq, get_all, get_mk0, get_mk1, get_mk2, get_mk3, get_mk4, get_mk5, get_mk6, get_mk7, set_mk0, set_mk1, set_mk2, set_mk3, set_mk4, set_mk5, set_mk6, set_mk7, set_all0, set_all1, set_all2, set_all3, set_all4, set_all5, set_all6, set_all7, rds_nil, rds_cons, val_mov, val_pick, val_load, val_nilc, val_ibin, val_bin, val_un, val_conv, val_slice, val_shift, val_iaddr, val_ext, val_len, load1_eq, rdO_none, rdO_some, onBool_t, onBool_f, onInt_int, onPtr_ptr, onTup_tup, wantB_tt, wantB_tf, wantB_ft, wantB_ff, wantB_u, bump_get, bump_bump, getN_zero, getN_succ, hRow_bump, nadd_eq, Heap.bump_next, Nat.reduceAdd, Nat.zero_add, kbeq, unNot_t, unNot_f, add_u64 (show n + 1 ≤ 18446744073709551615 by omega)]; rfl)]
  refine CTG_eq q2 ?_
  rw [run_ok (by simp only [MC.exec, optR_some, rd_t, rd_k, put_t, put_no, none_eq, get_all, get_mk0, get_mk1, get_mk2, get_mk3, get_mk4, get_mk5, get_mk6, get_mk7, set_mk0, set_mk1, set_mk2, set_mk3, set_mk4, set_mk5, set_mk6, set_mk7, set_all0, set_all1, set_all2, set_all3, set_all4, set_all5, set_all6, set_all7, rds_nil, rds_cons, val_mov, val_pick, val_load, val_nilc, val_ibin, val_bin, val_un, val_conv, val_slice, val_shift, val_iaddr, val_ext, val_len, load1_eq, rdO_none, rdO_some, onBool_t, onBool_f, onInt_int, onPtr_ptr, onTup_tup, wantB_tt, wantB_tf, wantB_ft, wantB_ff, wantB_u, bump_get, bump_bump, getN_zero, getN_succ, hRow_bump, nadd_eq, Heap.bump_next, Nat.reduceAdd, Nat.zero_add, kbeq, unNot_t, unNot_f]; rfl)]
  simp only [ret_run, skip_run, exit_run, endM_ret, endM_nor, mres1, mres2, mres3, oB_s, packR1, packR2, packR3, onN_n, onN_r, onN_e, onE_n, onE_r, onE_e, bump_bump, Nat.reduceAdd, rd_t, rd_k, put_t, put_no, get_all, get_mk0, get_mk1, get_mk2, get_mk3, get_mk4, get_mk5, get_mk6, get_mk7, set_mk0, set_mk1, set_mk2, set_mk3, set_mk4, set_mk5, set_mk6, set_mk7, set_all0, set_all1, set_all2, set_all3, set_all4, set_all5, set_all6, set_all7]
  rfl

theorem go7 : T.go 7 = true := by kernel_rfl
theorem go8 : T.go 8 = true := by kernel_rfl

theorem mbody_eq {fuel : Nat} {call : XCall} {args : List AV} {h : Heap} {K : AV → Heap → Bool} {m : MFn} {e : E} (he : E.init m.params args E.none = some e) : mbody T fuel call args h K m = m.code.run T call fuel e [] h (endM T m.results K) := by
  show oB (fun e => m.code.run T call fuel e [] h (endM T m.results K)) (E.init m.params args E.none) = _
  rw [he]; rfl

theorem began64' : mcall T F 5000 200 8 [.int .i64 (.ofNat 64)] (Heap.empty.bump 9) good = true := by
  rw [show Heap.empty.bump 9 = ⟨9, .nil⟩ from rfl]; exact began64
theorem init3 (a : AV) : E.init m3.params [a] E.none = some (Pt.put (.t .d0 .d0 .d0) a E.none) := by
  rw [m3_eq']; simp only [pts16, init_cons, init_nil]
theorem t7 : CT Tryz.prog 7 [] Heap.empty fun v h' => isTrue v h' = true := CT_of_mcall hT follows Fok awakeT
theorem t7' (h : Heap) : CT Tryz.prog 7 [] h fun v h' => v = .bool true ∧ h' = h := CT_forget t7 (fun v h' hv => by
  cases v <;> first | (cases hv; done) | (rename_i b; cases b; cases hv; rfl)) h
theorem t8 : CT Tryz.prog 8 [.int .i64 (.ofNat 64)] (Heap.empty.bump 9) fun v h' => good v h' = true := CT_of_mcall hT follows Fok began64'

theorem body_true {a : AV} {xs : List Int} (ha : SArg a xs) : mbody T 200 (CTG Tryz.prog T) [a] Heap.empty isTrue m3 = true := by
  rw [mbody_eq (m := m3) (e := Pt.put (.t .d0 .d0 .d0) a E.none) (init3 a)]
  simp only [m3_eq']
  have z1 : Heap.empty.next = 0 := rfl
  rw [seq_reg (by rw [z1]; omega) (by simp only [MC.exec, optR_some, rd_t, rd_k, put_t, put_no, none_eq, get_all, get_mk0, get_mk1, get_mk2, get_mk3, get_mk4, get_mk5, get_mk6, get_mk7, set_mk0, set_mk1, set_mk2, set_mk3, set_mk4, set_mk5, set_mk6, set_mk7, set_all0, set_all1, set_all2, set_all3, set_all4, set_all5, set_all6, set_all7, rds_nil, rds_cons, val_mov, val_pick, val_load, val_nilc, val_ibin, val_bin, val_un, val_conv, val_slice, val_shift, val_iaddr, val_ext, val_len, load1_eq, rdO_none, rdO_some, onBool_t, onBool_f, onInt_int, onPtr_ptr, onTup_tup, wantB_tt, wantB_tf, wantB_ft, wantB_ff, wantB_u, bump_get, bump_bump, getN_zero, getN_succ, hRow_bump, nadd_eq, Heap.bump_next, Nat.reduceAdd, Nat.zero_add, kbeq, unNot_t, unNot_f]; rfl)]
  rw [seq_assoc, seq_run, reg_call (by simp only [bump_bump, Heap.bump_next, z1]; omega) (by simp only [MC.exec, optR_some, rd_t, rd_k, put_t, put_no, none_eq, get_all, get_mk0, get_mk1, get_mk2, get_mk3, get_mk4, get_mk5, get_mk6, get_mk7, set_mk0, set_mk1, set_mk2, set_mk3, set_mk4, set_mk5, set_mk6, set_mk7, set_all0, set_all1, set_all2, set_all3, set_all4, set_all5, set_all6, set_all7, rds_nil, rds_cons, val_mov, val_pick, val_load, val_nilc, val_ibin, val_bin, val_un, val_conv, val_slice, val_shift, val_iaddr, val_ext, val_len, load1_eq, rdO_none, rdO_some, onBool_t, onBool_f, onInt_int, onPtr_ptr, onTup_tup, wantB_tt, wantB_tf, wantB_ft, wantB_ff, wantB_u, bump_get, bump_bump, getN_zero, getN_succ, hRow_bump, nadd_eq, Heap.bump_next, Nat.reduceAdd, Nat.zero_add, kbeq, unNot_t, unNot_f]; rfl)]
  refine CTG_of go7 (t7' _) ?_
  rintro v h' ⟨rfl, rfl⟩
  rw [run_ok (by simp only [MC.exec, optR_some, rd_t, rd_k, put_t, put_no, none_eq, get_all, get_mk0, get_mk1, get_mk2, get_mk3, get_mk4, get_mk5, get_mk6, get_mk7, set_mk0, set_mk1, set_mk2, set_mk3, set_mk4, set_mk5, set_mk6, set_mk7, set_all0, set_all1, set_all2, set_all3, set_all4, set_all5, set_all6, set_all7, rds_nil, rds_cons, val_mov, val_pick, val_load, val_nilc, val_ibin, val_bin, val_un, val_conv, val_slice, val_shift, val_iaddr, val_ext, val_len, load1_eq, rdO_none, rdO_some, onBool_t, onBool_f, onInt_int, onPtr_ptr, onTup_tup, wantB_tt, wantB_tf, wantB_ft, wantB_ff, wantB_u, bump_get, bump_bump, getN_zero, getN_succ, hRow_bump, nadd_eq, Heap.bump_next, Nat.reduceAdd, Nat.zero_add, kbeq, unNot_t, unNot_f]; rfl)]
  simp only [onN_n]
  rw [seq_condF (by simp only [ret_run, skip_run, exit_run, endM_ret, endM_nor, mres1, mres2, mres3, oB_s, packR1, packR2, packR3, onN_n, onN_r, onN_e, onE_n, onE_r, onE_e, bump_bump, Nat.reduceAdd, rd_t, rd_k, put_t, put_no, get_all, get_mk0, get_mk1, get_mk2, get_mk3, get_mk4, get_mk5, get_mk6, get_mk7, set_mk0, set_mk1, set_mk2, set_mk3, set_mk4, set_mk5, set_mk6, set_mk7, set_all0, set_all1, set_all2, set_all3, set_all4, set_all5, set_all6, set_all7]), seq_skip]
  rw [seq_run, reg_call (by simp only [bump_bump, Heap.bump_next, z1]; omega) (by simp only [MC.exec, optR_some, rd_t, rd_k, put_t, put_no, none_eq, get_all, get_mk0, get_mk1, get_mk2, get_mk3, get_mk4, get_mk5, get_mk6, get_mk7, set_mk0, set_mk1, set_mk2, set_mk3, set_mk4, set_mk5, set_mk6, set_mk7, set_all0, set_all1, set_all2, set_all3, set_all4, set_all5, set_all6, set_all7, rds_nil, rds_cons, val_mov, val_pick, val_load, val_nilc, val_ibin, val_bin, val_un, val_conv, val_slice, val_shift, val_iaddr, val_ext, val_len, load1_eq, rdO_none, rdO_some, onBool_t, onBool_f, onInt_int, onPtr_ptr, onTup_tup, wantB_tt, wantB_tf, wantB_ft, wantB_ff, wantB_u, bump_get, bump_bump, getN_zero, getN_succ, hRow_bump, nadd_eq, Heap.bump_next, Nat.reduceAdd, Nat.zero_add, kbeq, unNot_t, unNot_f]; rfl)]
  refine CTG_of go8 t8 ?_
  intro v h' hg
  obtain ⟨rfl, m0, hn⟩ := good_spec hg
  rw [run_ok (by simp only [MC.exec, optR_some, rd_t, rd_k, put_t, put_no, none_eq, get_all, get_mk0, get_mk1, get_mk2, get_mk3, get_mk4, get_mk5, get_mk6, get_mk7, set_mk0, set_mk1, set_mk2, set_mk3, set_mk4, set_mk5, set_mk6, set_mk7, set_all0, set_all1, set_all2, set_all3, set_all4, set_all5, set_all6, set_all7, rds_nil, rds_cons, val_mov, val_pick, val_load, val_nilc, val_ibin, val_bin, val_un, val_conv, val_slice, val_shift, val_iaddr, val_ext, val_len, load1_eq, rdO_none, rdO_some, onBool_t, onBool_f, onInt_int, onPtr_ptr, onTup_tup, wantB_tt, wantB_tf, wantB_ft, wantB_ff, wantB_u, bump_get, bump_bump, getN_zero, getN_succ, hRow_bump, nadd_eq, Heap.bump_next, Nat.reduceAdd, Nat.zero_add, kbeq, unNot_t, unNot_f]; rfl)]
  simp only [onN_n]
  rw [seq_assoc, seq_reg (by (try simp only [bump_bump, Heap.bump_next, Heap.set_next]); omega) (by simp only [MC.exec, optR_some, rd_t, rd_k, put_t, put_no, none_eq, get_all, get_mk0, get_mk1, get_mk2, get_mk3, get_mk4, get_mk5, get_mk6, get_mk7, set_mk0, set_mk1, set_mk2, set_mk3, set_mk4, set_mk5, set_mk6, set_mk7, set_all0, set_all1, set_all2, set_all3, set_all4, set_all5, set_all6, set_all7, rds_nil, rds_cons, val_mov, val_pick, val_load, val_nilc, val_ibin, val_bin, val_un, val_conv, val_slice, val_shift, val_iaddr, val_ext, val_len, load1_eq, rdO_none, rdO_some, onBool_t, onBool_f, onInt_int, onPtr_ptr, onTup_tup, wantB_tt, wantB_tf, wantB_ft, wantB_ff, wantB_u, bump_get, bump_bump, getN_zero, getN_succ, hRow_bump, nadd_eq, Heap.bump_next, Nat.reduceAdd, Nat.zero_add, kbeq, unNot_t, unNot_f, eq24, eq25]; rfl)]
  rw [seq_condF (by simp only [ret_run, skip_run, exit_run, endM_ret, endM_nor, mres1, mres2, mres3, oB_s, packR1, packR2, packR3, onN_n, onN_r, onN_e, onE_n, onE_r, onE_e, bump_bump, Nat.reduceAdd, rd_t, rd_k, put_t, put_no, get_all, get_mk0, get_mk1, get_mk2, get_mk3, get_mk4, get_mk5, get_mk6, get_mk7, set_mk0, set_mk1, set_mk2, set_mk3, set_mk4, set_mk5, set_mk6, set_mk7, set_all0, set_all1, set_all2, set_all3, set_all4, set_all5, set_all6, set_all7]), seq_skip]
  rw [seq_reg (by (try simp only [bump_bump, Heap.bump_next, Heap.set_next]); omega) (by simp only [MC.exec, optR_some, rd_t, rd_k, put_t, put_no, none_eq, get_all, get_mk0, get_mk1, get_mk2, get_mk3, get_mk4, get_mk5, get_mk6, get_mk7, set_mk0, set_mk1, set_mk2, set_mk3, set_mk4, set_mk5, set_mk6, set_mk7, set_all0, set_all1, set_all2, set_all3, set_all4, set_all5, set_all6, set_all7, rds_nil, rds_cons, val_mov, val_pick, val_load, val_nilc, val_ibin, val_bin, val_un, val_conv, val_slice, val_shift, val_iaddr, val_ext, val_len, load1_eq, rdO_none, rdO_some, onBool_t, onBool_f, onInt_int, onPtr_ptr, onTup_tup, wantB_tt, wantB_tf, wantB_ft, wantB_ff, wantB_u, bump_get, bump_bump, getN_zero, getN_succ, hRow_bump, nadd_eq, Heap.bump_next, Nat.reduceAdd, Nat.zero_add, kbeq, unNot_t, unNot_f]; rfl)]
  rw [seq_reg (by (try simp only [bump_bump, Heap.bump_next, Heap.set_next]); omega) (by simp only [MC.exec, optR_some, rd_t, rd_k, put_t, put_no, none_eq, get_all, get_mk0, get_mk1, get_mk2, get_mk3, get_mk4, get_mk5, get_mk6, get_mk7, set_mk0, set_mk1, set_mk2, set_mk3, set_mk4, set_mk5, set_mk6, set_mk7, set_all0, set_all1, set_all2, set_all3, set_all4, set_all5, set_all6, set_all7, rds_nil, rds_cons, val_mov, val_pick, val_load, val_nilc, val_ibin, val_bin, val_un, val_conv, val_slice, val_shift, val_iaddr, val_ext, val_len, load1_eq, rdO_none, rdO_some, onBool_t, onBool_f, onInt_int, onPtr_ptr, onTup_tup, wantB_tt, wantB_tf, wantB_ft, wantB_ff, wantB_u, bump_get, bump_bump, getN_zero, getN_succ, hRow_bump, nadd_eq, Heap.bump_next, Nat.reduceAdd, Nat.zero_add, kbeq, unNot_t, unNot_f]; rfl)]
  rw [seq_assoc, seq_reg (by (try simp only [bump_bump, Heap.bump_next, Heap.set_next]); omega) (by simp only [MC.exec, optR_some, rd_t, rd_k, put_t, put_no, none_eq, get_all, get_mk0, get_mk1, get_mk2, get_mk3, get_mk4, get_mk5, get_mk6, get_mk7, set_mk0, set_mk1, set_mk2, set_mk3, set_mk4, set_mk5, set_mk6, set_mk7, set_all0, set_all1, set_all2, set_all3, set_all4, set_all5, set_all6, set_all7, rds_nil, rds_cons, val_mov, val_pick, val_load, val_nilc, val_ibin, val_bin, val_un, val_conv, val_slice, val_shift, val_iaddr, val_ext, val_len, load1_eq, rdO_none, rdO_some, onBool_t, onBool_f, onInt_int, onPtr_ptr, onTup_tup, wantB_tt, wantB_tf, wantB_ft, wantB_ff, wantB_u, bump_get, bump_bump, getN_zero, getN_succ, hRow_bump, nadd_eq, Heap.bump_next, Nat.reduceAdd, Nat.zero_add, kbeq, unNot_t, unNot_f]; rfl)]
  rw [seq_run, block_run, loop_run]
  refine loop3 (xs := xs) ha (fun E' h' hf => ?_) 200 0 _ _ (by omega) ⟨0, 0, [], [], .nils, ⟨?_, ?_, ?_, ?_, ?_⟩, ⟨?_, .inl ⟨rfl, rfl⟩, rfl, by simp, by simp, by simp, by simp, by simp⟩, by omega, by omega, by simp only [bump_bump, Heap.bump_next]; omega⟩
  · exact tail3_true (fuel := 200) hf
  · simp only [ret_run, skip_run, exit_run, endM_ret, endM_nor, mres1, mres2, mres3, oB_s, packR1, packR2, packR3, onN_n, onN_r, onN_e, onE_n, onE_r, onE_e, bump_bump, Nat.reduceAdd, rd_t, rd_k, put_t, put_no, get_all, get_mk0, get_mk1, get_mk2, get_mk3, get_mk4, get_mk5, get_mk6, get_mk7, set_mk0, set_mk1, set_mk2, set_mk3, set_mk4, set_mk5, set_mk6, set_mk7, set_all0, set_all1, set_all2, set_all3, set_all4, set_all5, set_all6, set_all7]
  · simp only [ret_run, skip_run, exit_run, endM_ret, endM_nor, mres1, mres2, mres3, oB_s, packR1, packR2, packR3, onN_n, onN_r, onN_e, onE_n, onE_r, onE_e, bump_bump, Nat.reduceAdd, rd_t, rd_k, put_t, put_no, get_all, get_mk0, get_mk1, get_mk2, get_mk3, get_mk4, get_mk5, get_mk6, get_mk7, set_mk0, set_mk1, set_mk2, set_mk3, set_mk4, set_mk5, set_mk6, set_mk7, set_all0, set_all1, set_all2, set_all3, set_all4, set_all5, set_all6, set_all7]
  · simp only [ret_run, skip_run, exit_run, endM_ret, endM_nor, mres1, mres2, mres3, oB_s, packR1, packR2, packR3, onN_n, onN_r, onN_e, onE_n, onE_r, onE_e, bump_bump, Nat.reduceAdd, rd_t, rd_k, put_t, put_no, get_all, get_mk0, get_mk1, get_mk2, get_mk3, get_mk4, get_mk5, get_mk6, get_mk7, set_mk0, set_mk1, set_mk2, set_mk3, set_mk4, set_mk5, set_mk6, set_mk7, set_all0, set_all1, set_all2, set_all3, set_all4, set_all5, set_all6, set_all7]
  · simp only [ret_run, skip_run, exit_run, endM_ret, endM_nor, mres1, mres2, mres3, oB_s, packR1, packR2, packR3, onN_n, onN_r, onN_e, onE_n, onE_r, onE_e, bump_bump, Nat.reduceAdd, rd_t, rd_k, put_t, put_no, get_all, get_mk0, get_mk1, get_mk2, get_mk3, get_mk4, get_mk5, get_mk6, get_mk7, set_mk0, set_mk1, set_mk2, set_mk3, set_mk4, set_mk5, set_mk6, set_mk7, set_all0, set_all1, set_all2, set_all3, set_all4, set_all5, set_all6, set_all7]
  · simp only [ret_run, skip_run, exit_run, endM_ret, endM_nor, mres1, mres2, mres3, oB_s, packR1, packR2, packR3, onN_n, onN_r, onN_e, onE_n, onE_r, onE_e, bump_bump, Nat.reduceAdd, rd_t, rd_k, put_t, put_no, get_all, get_mk0, get_mk1, get_mk2, get_mk3, get_mk4, get_mk5, get_mk6, get_mk7, set_mk0, set_mk1, set_mk2, set_mk3, set_mk4, set_mk5, set_mk6, set_mk7, set_all0, set_all1, set_all2, set_all3, set_all4, set_all5, set_all6, set_all7]
  · first | exact m0.bump _ | exact (m0.bump _).bump _ | exact ((m0.bump _).bump _).bump _ | exact (((m0.bump _).bump _).bump _).bump _

/-- The contract of TxnNumbers. -/
theorem CT3 {a : AV} {xs : List Int} (ha : SArg a xs) : CT Tryz.prog 3 [a] Heap.empty fun v h' => isTrue v h' = true := CT_of_code hT follows 200 e3 (body_true ha)
end Go.Ab.K
