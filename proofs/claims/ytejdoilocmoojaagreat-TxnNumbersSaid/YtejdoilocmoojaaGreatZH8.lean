/- A round of the loop of TxnNumbers that ends a transaction, from a state that it keeps. -/
import Derived.Test.YtejdoilocmoojaaGreatZH7
set_option linter.unusedSimpArgs false
set_option linter.unusedVariables false
/-! TxnNumbers: a round of its loop that ends a transaction. -/
namespace Go.Ab.K
open Go.Proofs
set_option maxRecDepth 20000

theorem MH.low {h h' : Heap} {n c : Nat} {es : List (AV × AV × Nat)} (m : MH h n es c) (g : ∀ i, i < 15000 → h'.get i = h.get i) (b : 15000 ≤ h'.next) : MH h' n es c :=
  ⟨(g _ (by omega)).trans m.mgr, (g _ (by omega)).trans m.live, (g _ (by omega)).trans m.lck, (g _ (by omega)).trans m.held, (g _ (by omega)).trans m.frs, (g _ (by omega)).trans m.txns, (g _ (by omega)).trans m.dsk, b⟩

theorem take_drop_erase {α : Type} : ∀ (l : List α) (k : Nat), l.take k ++ l.drop (k + 1) = l.eraseIdx k
  | [], k => by simp
  | a :: l, 0 => by simp
  | a :: l, k + 1 => by simp [take_drop_erase l k]

theorem runA {a : AV} {xs : List Int} (ha : SArg a xs) {E0 : E} {h : Heap} {n c i fuel : Nat} {os : List (Nat × Nat)} {ks : List Nat} {v : AV} {x : Int} {K : MPost}
    (s : SL E0 a (.ptr 14477 0) (.int .u64 (.ofNat n)) v (.int .i64 (.ofNat i)))
    (hx : xs[i]? = some x) (st : ST h v n c os ks) (h0 : 0 < ks.length) (hb : h.next < 800000000)
    (hK : ∀ E' h' v' os' ks', SL E' a (.ptr 14477 0) (.int .u64 (.ofNat n)) v' (.int .i64 (.ofNat i)) → ST h' v' n c os' ks' → h'.next ≤ h.next + 1000 → K (.exit 1) E' [] h' = true) :
    bodyA.run T (CTG Tryz.prog T) fuel E0 [] h K = true := by
  have hi : i < xs.length := (List.getElem?_eq_some_iff.1 hx).1
  obtain ⟨hv, hk0⟩ | ⟨i0, ex, sg, ⟨rfl, hg⟩, h15, hi0⟩ := st.o
  · subst hk0; simp at h0
  have hL : ks.length ≤ 64 := st.cnt
  obtain ⟨y, mm, kk, hkk, f1, f2, f3⟩ := idx x h0 hL
  obtain ⟨t, ht⟩ : ∃ t, ks[kk]? = some t := ⟨ks[kk], List.getElem?_eq_getElem hkk⟩
  have htm : t ∈ ks := List.mem_of_getElem? ht
  have ht0 : t ≠ 0 := by have := (st.lo t htm).1; omega
  have hto : t ∈ os.map (·.1) := (st.mem t).2 htm
  have ldk : Ld h i0 kk (.int .u64 (.ofNat t)) := Ld_of hg (csk ht)
  -- the two appends
  have hgb : ((h.bump 30).set (h.next + 19) (some (.row false (.lst 0 [])))).get i0 = some (some (.row sg (.lst ks.length (ks.map iv)))) := by
    rw [Heap.get_set_ne _ _ (by omega)]; exact hg
  have sp1 : SP ((h.bump 30).set (h.next + 19) (some (.row false (.lst 0 [])))) (.sl (h.next + 19) 0 1 0 0 true) [] (h.next + 19) true false := ⟨rfl, Heap.get_set_eq _ _ (by omega)⟩
  obtain ⟨v1, g1, i1, ex1, sg1, happ1, sp1', hi1, hn1, hs1⟩ := app_sp (id := h.next + 19 + 4) sp1 (src_part (ex := ex) (l := kk) (o := 0) rfl hgb (by omega) ks.length) (by simp; omega) (by omega) (by omega)
  have hgb1 : g1.get i0 = some (some (.row sg (.lst ks.length (ks.map iv)))) := (hs1 i0 (by omega) (by omega)).trans hgb
  obtain ⟨v2, g2, i2, ex2, sg2, happ2, sp2, hi2, hn2, hs2⟩ := app_sp (id := h.next + 19 + 9) sp1' (src_part (ex := ex) (l := ks.length - (kk + 1)) (o := kk + 1) rfl hgb1 (by omega) (ks.length - (kk + 1))) (by simp; omega) (by rcases hi1 with e | e <;> omega) (by omega)
  have hA : [] ++ List.take kk (List.drop 0 ks) ++ List.take (ks.length - (kk + 1)) (List.drop (kk + 1) ks) = ks.eraseIdx kk := by
    rw [← take_drop_erase, List.nil_append, List.drop_zero, List.take_of_length_le (l := List.drop (kk + 1) ks) (by simp)]
  rw [hA] at sp2
  have hnx : g2.next = h.next + 30 := by rw [hn2, hn1]; rfl
  have mg2 : MH g2 n (ents os) c := by
    refine st.m.low (fun j hj => ?_) (by rw [hnx]; have := st.m.big; omega)
    have := st.m.big
    rw [hs2 j (by rcases hi1 with e | e <;> omega) (by omega), hs1 j (by omega) (by omega), Heap.get_set_ne _ _ (by omega)]; rfl
  have o2 : OP g2 v2 (ks.eraseIdx kk) := .inr ⟨i2, ex2, sg2, sp2, by have := st.m.big; rcases hi1 with e1 | e1 <;> rcases hi2 with e2 | e2 <;> omega, by rcases hi1 with e1 | e1 <;> rcases hi2 with e2 | e2 <;> omega⟩
  -- the calls
  obtain ⟨h3, j, q3, r3, hj, m3'⟩ := c9 (mg2.bump 15) (by simp only [Heap.bump_next]; omega) hto
  have b3 := r3.hi
  simp only [Heap.bump_next] at b3
  have o3 : OP h3 v2 (ks.eraseIdx kk) := (o2.fr (Fr.bump [] g2 15) (by simp)).fr r3 (by simp)
  have st3 := st.drop hj ht m3' o3
  have hno : t ∉ (os.eraseIdx j).map (·.1) := fun hx => ((mem_erase st.nd2 ht).1 ((st3.mem t).1 hx)).2 rfl
  obtain ⟨h4, q4, r4⟩ := c10 m3' (by omega) t
  simp only [decide_eq_false hno] at q4
  have b4 := r4.hi
  have m4 := m3'.fr r4
  obtain ⟨h5, q5, r5⟩ := c11 m4 (by omega) hno
  have b5 := r5.hi
  have m5 := m4.fr r5
  obtain ⟨h6, q6, r6⟩ := c12 (m5.bump 10) (by simp only [Heap.bump_next]; omega) hno ht0 (.int .i64 (.ofNat 1)) (.str ⟨#[97]⟩)
  have b6 := r6.hi
  simp only [Heap.bump_next] at b6
  have m6 := (m5.bump 10).fr r6
  have o6 : OP h6 v2 (ks.eraseIdx kk) := ((((o3.fr r4 (by simp)).fr r5 (by simp)).fr (Fr.bump [] h5 10) (by simp))).fr r6 (by simp)
  have st6 := st.drop hj ht (m6.bump 2) (o6.fr (Fr.bump [] h6 2) (by simp))
  -- the run
  obtain ⟨s0, s3, s5, s6, s7⟩ := s
  obtain ⟨⟨⟨e000, e001, e002, e003, e004, e005, e006, e007⟩, ⟨e010, e011, e012, e013, e014, e015, e016, e017⟩, ⟨e020, e021, e022, e023, e024, e025, e026, e027⟩, ⟨e030, e031, e032, e033, e034, e035, e036, e037⟩, ⟨e040, e041, e042, e043, e044, e045, e046, e047⟩, ⟨e050, e051, e052, e053, e054, e055, e056, e057⟩, ⟨e060, e061, e062, e063, e064, e065, e066, e067⟩, ⟨e070, e071, e072, e073, e074, e075, e076, e077⟩⟩, ⟨⟨e100, e101, e102, e103, e104, e105, e106, e107⟩, ⟨e110, e111, e112, e113, e114, e115, e116, e117⟩, ⟨e120, e121, e122, e123, e124, e125, e126, e127⟩, ⟨e130, e131, e132, e133, e134, e135, e136, e137⟩, ⟨e140, e141, e142, e143, e144, e145, e146, e147⟩, ⟨e150, e151, e152, e153, e154, e155, e156, e157⟩, ⟨e160, e161, e162, e163, e164, e165, e166, e167⟩, ⟨e170, e171, e172, e173, e174, e175, e176, e177⟩⟩, ⟨⟨e200, e201, e202, e203, e204, e205, e206, e207⟩, ⟨e210, e211, e212, e213, e214, e215, e216, e217⟩, g22, g23, g24, g25, g26, g27⟩, w3, w4, w5, w6, w7⟩ := E0
  simp only [get_mk0, get_mk3, get_mk5, get_mk6, get_mk7] at s0 s3 s5 s6 s7
  subst s0 s3 s5 s6 s7
  simp only [bodyA]
  rw [seq_reg (by (try simp only [bump_bump, Heap.bump_next, Heap.set_next]); omega) (by simp only [MC.exec, optR_some, rd_t, rd_k, put_t, put_no, none_eq, get_all, get_mk0, get_mk1, get_mk2, get_mk3, get_mk4, get_mk5, get_mk6, get_mk7, set_mk0, set_mk1, set_mk2, set_mk3, set_mk4, set_mk5, set_mk6, set_mk7, set_all0, set_all1, set_all2, set_all3, set_all4, set_all5, set_all6, set_all7, rds_nil, rds_cons, val_mov, val_pick, val_load, val_nilc, val_ibin, val_bin, val_un, val_conv, val_slice, val_shift, val_iaddr, val_ext, val_len, load1_eq, rdO_none, rdO_some, onBool_t, onBool_f, onInt_int, onPtr_ptr, onTup_tup, wantB_tt, wantB_tf, wantB_ft, wantB_ff, wantB_u, bump_get, bump_bump, getN_zero, getN_succ, hRow_bump, nadd_eq, Heap.bump_next, Nat.reduceAdd, Nat.zero_add, kbeq, unNot_t, unNot_f, val_lenC (show 52 < 142 by omega), val_lenC (show 55 < 142 by omega), val_lenC (show 58 < 142 by omega), at_eq, dig, Nat.reduceDiv, Nat.reduceMod, ha.idx _ hi, onPtr_rp, cellOf_rp, head_drop hx, len29, f1, f2, f3]; rfl)]
  rw [seq_reg (by (try simp only [bump_bump, Heap.bump_next, Heap.set_next]); omega) (by simp only [MC.exec, optR_some, rd_t, rd_k, put_t, put_no, none_eq, get_all, get_mk0, get_mk1, get_mk2, get_mk3, get_mk4, get_mk5, get_mk6, get_mk7, set_mk0, set_mk1, set_mk2, set_mk3, set_mk4, set_mk5, set_mk6, set_mk7, set_all0, set_all1, set_all2, set_all3, set_all4, set_all5, set_all6, set_all7, rds_nil, rds_cons, val_mov, val_pick, val_load, val_nilc, val_ibin, val_bin, val_un, val_conv, val_slice, val_shift, val_iaddr, val_ext, val_len, load1_eq, rdO_none, rdO_some, onBool_t, onBool_f, onInt_int, onPtr_ptr, onTup_tup, wantB_tt, wantB_tf, wantB_ft, wantB_ff, wantB_u, bump_get, bump_bump, getN_zero, getN_succ, hRow_bump, nadd_eq, Heap.bump_next, Nat.reduceAdd, Nat.zero_add, kbeq, unNot_t, unNot_f, ia29 hkk, ldk]; rfl)]
  rw [seq_reg (by (try simp only [bump_bump, Heap.bump_next, Heap.set_next]); omega) (by simp only [MC.exec, optR_some, rd_t, rd_k, put_t, put_no, none_eq, get_all, get_mk0, get_mk1, get_mk2, get_mk3, get_mk4, get_mk5, get_mk6, get_mk7, set_mk0, set_mk1, set_mk2, set_mk3, set_mk4, set_mk5, set_mk6, set_mk7, set_all0, set_all1, set_all2, set_all3, set_all4, set_all5, set_all6, set_all7, rds_nil, rds_cons, val_mov, val_pick, val_load, val_nilc, val_ibin, val_bin, val_un, val_conv, val_slice, val_shift, val_iaddr, val_ext, val_len, load1_eq, rdO_none, rdO_some, onBool_t, onBool_f, onInt_int, onPtr_ptr, onTup_tup, wantB_tt, wantB_tf, wantB_ft, wantB_ff, wantB_u, bump_get, bump_bump, getN_zero, getN_succ, hRow_bump, nadd_eq, Heap.bump_next, Nat.reduceAdd, Nat.zero_add, kbeq, unNot_t, unNot_f, slLo (show kk ≤ ks.length by omega), slHi (show kk + 1 ≤ ks.length by omega) (Nat.le_refl _), add_i64 (show kk + 1 ≤ 9223372036854775807 by omega), mk29, Nat.add_zero, happ1, happ2]; rfl)]
  rw [seq_assoc, seq_run, reg_call (by (try simp only [bump_bump, Heap.bump_next, Heap.set_next]); omega) (by simp only [MC.exec, optR_some, rd_t, rd_k, put_t, put_no, none_eq, get_all, get_mk0, get_mk1, get_mk2, get_mk3, get_mk4, get_mk5, get_mk6, get_mk7, set_mk0, set_mk1, set_mk2, set_mk3, set_mk4, set_mk5, set_mk6, set_mk7, set_all0, set_all1, set_all2, set_all3, set_all4, set_all5, set_all6, set_all7, rds_nil, rds_cons, val_mov, val_pick, val_load, val_nilc, val_ibin, val_bin, val_un, val_conv, val_slice, val_shift, val_iaddr, val_ext, val_len, load1_eq, rdO_none, rdO_some, onBool_t, onBool_f, onInt_int, onPtr_ptr, onTup_tup, wantB_tt, wantB_tf, wantB_ft, wantB_ff, wantB_u, bump_get, bump_bump, getN_zero, getN_succ, hRow_bump, nadd_eq, Heap.bump_next, Nat.reduceAdd, Nat.zero_add, kbeq, unNot_t, unNot_f]; rfl)]
  refine CTG_eq q3 ?_
  rw [run_call (by simp only [MC.exec, optR_some, rd_t, rd_k, put_t, put_no, none_eq, get_all, get_mk0, get_mk1, get_mk2, get_mk3, get_mk4, get_mk5, get_mk6, get_mk7, set_mk0, set_mk1, set_mk2, set_mk3, set_mk4, set_mk5, set_mk6, set_mk7, set_all0, set_all1, set_all2, set_all3, set_all4, set_all5, set_all6, set_all7, rds_nil, rds_cons, val_mov, val_pick, val_load, val_nilc, val_ibin, val_bin, val_un, val_conv, val_slice, val_shift, val_iaddr, val_ext, val_len, load1_eq, rdO_none, rdO_some, onBool_t, onBool_f, onInt_int, onPtr_ptr, onTup_tup, wantB_tt, wantB_tf, wantB_ft, wantB_ff, wantB_u, bump_get, bump_bump, getN_zero, getN_succ, hRow_bump, nadd_eq, Heap.bump_next, Nat.reduceAdd, Nat.zero_add, kbeq, unNot_t, unNot_f, neq00]; rfl)]
  refine CTG_eq q4 ?_
  rw [run_call (by simp only [MC.exec, optR_some, rd_t, rd_k, put_t, put_no, none_eq, get_all, get_mk0, get_mk1, get_mk2, get_mk3, get_mk4, get_mk5, get_mk6, get_mk7, set_mk0, set_mk1, set_mk2, set_mk3, set_mk4, set_mk5, set_mk6, set_mk7, set_all0, set_all1, set_all2, set_all3, set_all4, set_all5, set_all6, set_all7, rds_nil, rds_cons, val_mov, val_pick, val_load, val_nilc, val_ibin, val_bin, val_un, val_conv, val_slice, val_shift, val_iaddr, val_ext, val_len, load1_eq, rdO_none, rdO_some, onBool_t, onBool_f, onInt_int, onPtr_ptr, onTup_tup, wantB_tt, wantB_tf, wantB_ft, wantB_ff, wantB_u, bump_get, bump_bump, getN_zero, getN_succ, hRow_bump, nadd_eq, Heap.bump_next, Nat.reduceAdd, Nat.zero_add, kbeq, unNot_t, unNot_f]; rfl)]
  refine CTG_eq q5 ?_
  rw [run_ok (by simp only [MC.exec, optR_some, rd_t, rd_k, put_t, put_no, none_eq, get_all, get_mk0, get_mk1, get_mk2, get_mk3, get_mk4, get_mk5, get_mk6, get_mk7, set_mk0, set_mk1, set_mk2, set_mk3, set_mk4, set_mk5, set_mk6, set_mk7, set_all0, set_all1, set_all2, set_all3, set_all4, set_all5, set_all6, set_all7, rds_nil, rds_cons, val_mov, val_pick, val_load, val_nilc, val_ibin, val_bin, val_un, val_conv, val_slice, val_shift, val_iaddr, val_ext, val_len, load1_eq, rdO_none, rdO_some, onBool_t, onBool_f, onInt_int, onPtr_ptr, onTup_tup, wantB_tt, wantB_tf, wantB_ft, wantB_ff, wantB_u, bump_get, bump_bump, getN_zero, getN_succ, hRow_bump, nadd_eq, Heap.bump_next, Nat.reduceAdd, Nat.zero_add, kbeq, unNot_t, unNot_f, neq55]; rfl)]
  simp only [onN_n]
  rw [seq_condF (by simp only [ret_run, skip_run, exit_run, endM_ret, endM_nor, mres1, mres2, mres3, oB_s, packR1, packR2, packR3, onN_n, onN_r, onN_e, onE_n, onE_r, onE_e, bump_bump, Nat.reduceAdd, rd_t, rd_k, put_t, put_no, get_all, get_mk0, get_mk1, get_mk2, get_mk3, get_mk4, get_mk5, get_mk6, get_mk7, set_mk0, set_mk1, set_mk2, set_mk3, set_mk4, set_mk5, set_mk6, set_mk7, set_all0, set_all1, set_all2, set_all3, set_all4, set_all5, set_all6, set_all7]), seq_skip]
  rw [seq_run, reg_call (by (try simp only [bump_bump, Heap.bump_next, Heap.set_next]); omega) (by simp only [MC.exec, optR_some, rd_t, rd_k, put_t, put_no, none_eq, get_all, get_mk0, get_mk1, get_mk2, get_mk3, get_mk4, get_mk5, get_mk6, get_mk7, set_mk0, set_mk1, set_mk2, set_mk3, set_mk4, set_mk5, set_mk6, set_mk7, set_all0, set_all1, set_all2, set_all3, set_all4, set_all5, set_all6, set_all7, rds_nil, rds_cons, val_mov, val_pick, val_load, val_nilc, val_ibin, val_bin, val_un, val_conv, val_slice, val_shift, val_iaddr, val_ext, val_len, load1_eq, rdO_none, rdO_some, onBool_t, onBool_f, onInt_int, onPtr_ptr, onTup_tup, wantB_tt, wantB_tf, wantB_ft, wantB_ff, wantB_u, bump_get, bump_bump, getN_zero, getN_succ, hRow_bump, nadd_eq, Heap.bump_next, Nat.reduceAdd, Nat.zero_add, kbeq, unNot_t, unNot_f]; rfl)]
  refine CTG_eq q6 ?_
  rw [run_ok (by simp only [MC.exec, optR_some, rd_t, rd_k, put_t, put_no, none_eq, get_all, get_mk0, get_mk1, get_mk2, get_mk3, get_mk4, get_mk5, get_mk6, get_mk7, set_mk0, set_mk1, set_mk2, set_mk3, set_mk4, set_mk5, set_mk6, set_mk7, set_all0, set_all1, set_all2, set_all3, set_all4, set_all5, set_all6, set_all7, rds_nil, rds_cons, val_mov, val_pick, val_load, val_nilc, val_ibin, val_bin, val_un, val_conv, val_slice, val_shift, val_iaddr, val_ext, val_len, load1_eq, rdO_none, rdO_some, onBool_t, onBool_f, onInt_int, onPtr_ptr, onTup_tup, wantB_tt, wantB_tf, wantB_ft, wantB_ff, wantB_u, bump_get, bump_bump, getN_zero, getN_succ, hRow_bump, nadd_eq, Heap.bump_next, Nat.reduceAdd, Nat.zero_add, kbeq, unNot_t, unNot_f]; rfl)]
  simp only [onN_n]
  rw [seq_assoc, seq_reg (by (try simp only [bump_bump, Heap.bump_next, Heap.set_next]); omega) (by simp only [MC.exec, optR_some, rd_t, rd_k, put_t, put_no, none_eq, get_all, get_mk0, get_mk1, get_mk2, get_mk3, get_mk4, get_mk5, get_mk6, get_mk7, set_mk0, set_mk1, set_mk2, set_mk3, set_mk4, set_mk5, set_mk6, set_mk7, set_all0, set_all1, set_all2, set_all3, set_all4, set_all5, set_all6, set_all7, rds_nil, rds_cons, val_mov, val_pick, val_load, val_nilc, val_ibin, val_bin, val_un, val_conv, val_slice, val_shift, val_iaddr, val_ext, val_len, load1_eq, rdO_none, rdO_some, onBool_t, onBool_f, onInt_int, onPtr_ptr, onTup_tup, wantB_tt, wantB_tf, wantB_ft, wantB_ff, wantB_u, bump_get, bump_bump, getN_zero, getN_succ, hRow_bump, nadd_eq, Heap.bump_next, Nat.reduceAdd, Nat.zero_add, kbeq, unNot_t, unNot_f, neq55]; rfl)]
  rw [seq_condF (by simp only [ret_run, skip_run, exit_run, endM_ret, endM_nor, mres1, mres2, mres3, oB_s, packR1, packR2, packR3, onN_n, onN_r, onN_e, onE_n, onE_r, onE_e, bump_bump, Nat.reduceAdd, rd_t, rd_k, put_t, put_no, get_all, get_mk0, get_mk1, get_mk2, get_mk3, get_mk4, get_mk5, get_mk6, get_mk7, set_mk0, set_mk1, set_mk2, set_mk3, set_mk4, set_mk5, set_mk6, set_mk7, set_all0, set_all1, set_all2, set_all3, set_all4, set_all5, set_all6, set_all7]), seq_skip, exit_run]
  refine hK _ _ v2 _ _ ⟨?_, ?_, ?_, ?_, ?_⟩ st6 (by simp only [Heap.bump_next]; omega)
  all_goals simp only [ret_run, skip_run, exit_run, endM_ret, endM_nor, mres1, mres2, mres3, oB_s, packR1, packR2, packR3, onN_n, onN_r, onN_e, onE_n, onE_r, onE_e, bump_bump, Nat.reduceAdd, rd_t, rd_k, put_t, put_no, get_all, get_mk0, get_mk1, get_mk2, get_mk3, get_mk4, get_mk5, get_mk6, get_mk7, set_mk0, set_mk1, set_mk2, set_mk3, set_mk4, set_mk5, set_mk6, set_mk7, set_all0, set_all1, set_all2, set_all3, set_all4, set_all5, set_all6, set_all7]
end Go.Ab.K
