/- Rules for running turned code by hand; a call that is forgotten; contracts out of turned code. -/
import Derived.Test.YtejdoilocmoojaaGreatZA6
set_option linter.unusedSimpArgs false
set_option linter.unusedVariables false
/-! Running by hand, on what is known of a heap by its facts. -/
namespace Go.Ab

inductive Res where
  | ok (e : E) (h : Heap)
  | call (f : FuncId) (args : List AV) (d : Pt) (r : MC) (e : E) (h : Heap)
  | bad

noncomputable def optR {α : Type} (f : α → Res) : Option α → Res
  | none => .bad
  | some x => f x

/-- Without a continuation, as far as the next call. -/
noncomputable def MC.exec (T : Tab) (base : Nat) : MC → E → Heap → Res
  | .done, e, h => .ok e h
  | .mv x d r, e, h => r.exec T base (d.put (x.rd e) e) h
  | .v0 m d r, e, h => optR (fun v => r.exec T base (d.put v e) h) (m.val T e Heap.empty)
  | .v1 m d r, e, h => optR (fun v => r.exec T base (d.put v e) h) (m.val T e h)
  | .mk i n op d r, e, h => optR (fun q => r.exec T base (d.put (q.2 (Nat.add base i)) e) (h.set (Nat.add base i) (some q.1))) (mkOp T (e.toL n 0) Heap.empty op)
  | .mk6 i n op d r, e, h => optR (fun q => r.exec T base (d.put (q.2 (Nat.add base i)) e) (h.set (Nat.add base i) (some q.1))) (mkOp T (e.toL n 0) h op)
  | .st1 t x v d r, e, h => optR (fun h' => r.exec T base (d.put (.tup []) e) h') (vStore1 T t h (x.rd e) (v.rd e))
  | .st t x v d r, e, h => optR (fun h' => r.exec T base (d.put (.tup []) e) h') (wrStore T h t (x.rd e) (v.rd e))
  | .app i sty xt s x d r, e, h => optR (fun q => r.exec T base (d.put q.1 e) q.2) (wrAppend T h (Nat.add base i) sty xt (s.rd e) (x.rd e))
  | .wr i n op d r, e, h => optR (fun q => r.exec T base (d.put q.1 e) q.2) (wrOp T (e.toL n 0) h (Nat.add base i) op)
  | .nx _ _ _ _, _, _ => .bad
  | .cs f xs d r, e, h => .call f (Rd.rds xs e) d r e h
  | .cd _ n op d r, e, h => optR (fun q => .call q.1 q.2 d r e h) (calleeOf T (e.toL n 0) h op)
  | .gd s want one d r, e, h => wantB .bad (match one.exec T base e h with
      | .ok e' h' => r.exec T base e' h'
      | .call f args d' .done e' h' => .call f args d' r e' h'
      | _ => .bad) (r.exec T base (d.put (.tup []) e) h) want (s.rd e)
  | .rc l r, e, h => if l.all (MLk.ok T e h) then r.exec T base e h else .bad

section
variable {T : Tab} {call : XCall} {base : Nat} {K : E → Heap → Bool}

theorem optR_ne {α : Type} {f : α → Res} {x : Option α} {q : Res} (h : optR f x = q) (hq : q ≠ .bad) : ∃ v, x = some v ∧ f v = q := by
  cases x with
  | none => exact absurd h.symm hq
  | some v => exact ⟨v, rfl, h⟩

/-- What a result goes on to. -/
noncomputable def Res.go (T : Tab) (call : XCall) (base : Nat) (K : E → Heap → Bool) : Res → Bool
  | .ok e h => K e h
  | .call f args d r e h => call f args h fun v h' => r.run T call base (d.put v e) h' K
  | .bad => false

theorem exec_run : ∀ (m : MC) (e : E) (h : Heap), m.exec T base e h ≠ .bad → m.run T call base e h K = (m.exec T base e h).go T call base K := by
  intro m
  induction m generalizing K with
  | done => intro e h _; rfl
  | mv x d r ih => intro e h hn; exact ih _ _ (by simpa only [MC.exec] using hn)
  | v0 m d r ih =>
    intro e h hn
    simp only [MC.exec] at hn ⊢
    obtain ⟨v, h1, h2⟩ := optR_ne rfl hn
    rw [← h2] at hn ⊢
    show oB (fun v => r.run T call base (Pt.put d v e) h K) (m.val T e Heap.empty) = _
    rw [h1]; exact ih _ _ hn
  | v1 m d r ih =>
    intro e h hn
    simp only [MC.exec] at hn ⊢
    obtain ⟨v, h1, h2⟩ := optR_ne rfl hn
    rw [← h2] at hn ⊢
    show oB (fun v => r.run T call base (Pt.put d v e) h K) (m.val T e h) = _
    rw [h1]; exact ih _ _ hn
  | mk i n op d r ih =>
    intro e h hn
    simp only [MC.exec] at hn ⊢
    obtain ⟨v, h1, h2⟩ := optR_ne rfl hn
    rw [← h2] at hn ⊢
    show oB (fun q => r.run T call base (Pt.put d (q.2 (Nat.add base i)) e) (h.set (Nat.add base i) (some q.1)) K) (mkOp T (e.toL n 0) Heap.empty op) = _
    rw [h1]; exact ih _ _ hn
  | mk6 i n op d r ih =>
    intro e h hn
    simp only [MC.exec] at hn ⊢
    obtain ⟨v, h1, h2⟩ := optR_ne rfl hn
    rw [← h2] at hn ⊢
    show oB (fun q => r.run T call base (Pt.put d (q.2 (Nat.add base i)) e) (h.set (Nat.add base i) (some q.1)) K) (mkOp T (e.toL n 0) h op) = _
    rw [h1]; exact ih _ _ hn
  | st1 t x v d r ih =>
    intro e h hn
    simp only [MC.exec] at hn ⊢
    obtain ⟨h', h1, h2⟩ := optR_ne rfl hn
    rw [← h2] at hn ⊢
    show oB (fun h' => r.run T call base (Pt.put d (.tup []) e) h' K) (vStore1 T t h (x.rd e) (v.rd e)) = _
    rw [h1]; exact ih _ _ hn
  | st t x v d r ih =>
    intro e h hn
    simp only [MC.exec] at hn ⊢
    obtain ⟨h', h1, h2⟩ := optR_ne rfl hn
    rw [← h2] at hn ⊢
    show oB (fun h' => r.run T call base (Pt.put d (.tup []) e) h' K) (wrStore T h t (x.rd e) (v.rd e)) = _
    rw [h1]; exact ih _ _ hn
  | app i st xt s x d r ih =>
    intro e h hn
    simp only [MC.exec] at hn ⊢
    obtain ⟨q, h1, h2⟩ := optR_ne rfl hn
    rw [← h2] at hn ⊢
    show oB (rPair d (r.run T call) base e K) (wrAppend T h (Nat.add base i) st xt (s.rd e) (x.rd e)) = _
    rw [h1]; exact ih _ _ hn
  | wr i n op d r ih =>
    intro e h hn
    simp only [MC.exec] at hn ⊢
    obtain ⟨q, h1, h2⟩ := optR_ne rfl hn
    rw [← h2] at hn ⊢
    show oB (rPair d (r.run T call) base e K) (wrOp T (e.toL n 0) h (Nat.add base i) op) = _
    rw [h1]; exact ih _ _ hn
  | nx n op d r ih => intro e h hn; exact absurd rfl hn
  | cs f xs d r ih => intro e h hn; rfl
  | cd i n op d r ih =>
    intro e h hn
    simp only [MC.exec] at hn ⊢
    obtain ⟨q, h1, h2⟩ := optR_ne rfl hn
    rw [← h2] at hn ⊢
    show Option.rec (motive := fun _ => Bool) (oB (rPair d (r.run T call) base e K) (wrOp T (e.toL n 0) h (Nat.add base i) op))
      (fun q => call q.1 q.2 h fun v h' => r.run T call base (Pt.put d v e) h' K) (calleeOf T (e.toL n 0) h op) = _
    rw [h1]; rfl
  | gd s want one d r iho ih =>
    intro e h hn
    simp only [MC.exec] at hn ⊢
    show wantB false (one.run T call base e h fun e' h' => r.run T call base e' h' K) (r.run T call base (Pt.put d (.tup []) e) h K) want (s.rd e) = _
    have Y : (match one.exec T base e h with
      | .ok e' h' => r.exec T base e' h'
      | .call f args d' .done e' h' => .call f args d' r e' h'
      | _ => Res.bad) ≠ .bad → one.run T call base e h (fun e' h' => r.run T call base e' h' K) = Res.go T call base K (match one.exec T base e h with
      | .ok e' h' => r.exec T base e' h'
      | .call f args d' .done e' h' => .call f args d' r e' h'
      | _ => Res.bad) := by
      intro hy
      have hone : one.exec T base e h ≠ .bad := by
        intro e0; rw [e0] at hy; exact hy rfl
      rw [iho (K := fun e' h' => r.run T call base e' h' K) e h hone]
      split at hy
      · rename_i e' h' e1
        simp only [e1, Res.go]
        exact ih _ _ hy
      · rename_i f args d' e' h' e1
        simp only [e1, Res.go]; rfl
      · exact absurd rfl hy
    cases hv : s.rd e with
    | bool b =>
      rw [hv] at hn
      cases b <;> cases want <;> first | exact ih _ _ hn | exact Y hn
    | tup vs =>
      rw [hv] at hn
      cases vs with
      | nil => exact ih _ _ hn
      | cons => exact absurd rfl hn
    | _ => rw [hv] at hn; exact absurd rfl hn
  | rc l r ih =>
    intro e h hn
    simp only [MC.exec] at hn ⊢
    show (l.all (MLk.ok T e h) && r.run T call base e h K) = _
    split at hn
    · rename_i hl
      rw [if_pos hl, hl, Bool.true_and]; exact ih _ _ hn
    · exact absurd rfl hn

end

/-! ### Code -/
section
variable {T : Tab} {call : XCall} {fuel : Nat} {e e' : E} {ds : List Nat} {h h' : Heap} {K : MPost}

theorem reg_run {m : Nat} {c : MC} (hb : h.next + m < 1000000000000) : (MX.reg m c).run T call fuel e ds h K = c.run T call h.next e (h.bump m) fun e h => K .normal e ds h := by
  show Bool.rec (motive := fun _ => Bool) false (c.run T call h.next e (h.bump m) fun e h => K .normal e ds h) (Nat.ble (Nat.succ (Nat.add h.next m)) 1000000000000) = _
  rw [show Nat.ble (Nat.succ (Nat.add h.next m)) 1000000000000 = true from Nat.ble_eq_true_of_le hb]

theorem reg_ok {m : Nat} {c : MC} (hb : h.next + m < 1000000000000) (hx : c.exec T h.next e (h.bump m) = .ok e' h') : (MX.reg m c).run T call fuel e ds h K = K .normal e' ds h' := by
  rw [reg_run hb, exec_run _ _ _ (by rw [hx]; exact fun e0 => Res.noConfusion e0), hx]; rfl

theorem seq_run (a b : MX) : (MX.seq a b).run T call fuel e ds h K = a.run T call fuel e ds h fun x e ds h => onN (b.run T call fuel e ds h K) (K x e ds h) x := rfl

theorem run_cong {c : MX} {K K' : MPost} (hk : K = K') : c.run T call fuel e ds h K = c.run T call fuel e ds h K' := by rw [hk]

theorem seq_assoc (a b c : MX) : (MX.seq (.seq a b) c).run T call fuel e ds h K = (MX.seq a (.seq b c)).run T call fuel e ds h K := by
  show a.run T call fuel e ds h _ = a.run T call fuel e ds h _
  congr 1
  funext x e ds h
  cases x <;> rfl

theorem seq_reg {m : Nat} {c : MC} {b : MX} (hb : h.next + m < 1000000000000) (hx : c.exec T h.next e (h.bump m) = .ok e' h') : (MX.seq (.reg m c) b).run T call fuel e ds h K = b.run T call fuel e' ds h' K := by
  rw [seq_run, reg_ok hb hx]; rfl
theorem seq_skip {b : MX} : (MX.seq .skip b).run T call fuel e ds h K = b.run T call fuel e ds h K := rfl
theorem seq_ret {b : MX} : (MX.seq .ret b).run T call fuel e ds h K = K .ret e ds h := rfl
theorem seq_exit {i : Nat} {b : MX} : (MX.seq (.exit i) b).run T call fuel e ds h K = K (.exit i) e ds h := rfl
theorem seq_condT {c : Rd} {a b d : MX} (hc : c.rd e = .bool true) : (MX.seq (.cond c a b) d).run T call fuel e ds h K = (MX.seq a d).run T call fuel e ds h K := by
  show AV.onBool false (a.run T call fuel e ds h _) (b.run T call fuel e ds h _) (c.rd e) = _
  rw [hc]; rfl
theorem seq_condF {c : Rd} {a b d : MX} (hc : c.rd e = .bool false) : (MX.seq (.cond c a b) d).run T call fuel e ds h K = (MX.seq b d).run T call fuel e ds h K := by
  show AV.onBool false (a.run T call fuel e ds h _) (b.run T call fuel e ds h _) (c.rd e) = _
  rw [hc]; rfl
theorem condT {c : Rd} {a b : MX} (hc : c.rd e = .bool true) : (MX.cond c a b).run T call fuel e ds h K = a.run T call fuel e ds h K := by
  show AV.onBool false (a.run T call fuel e ds h _) (b.run T call fuel e ds h _) (c.rd e) = _
  rw [hc]; rfl
theorem condF {c : Rd} {a b : MX} (hc : c.rd e = .bool false) : (MX.cond c a b).run T call fuel e ds h K = b.run T call fuel e ds h K := by
  show AV.onBool false (a.run T call fuel e ds h _) (b.run T call fuel e ds h _) (c.rd e) = _
  rw [hc]; rfl

/-- A region that comes to a call. -/
theorem reg_call {m : Nat} {c : MC} {f : FuncId} {args : List AV} {d : Pt} {r : MC} (hb : h.next + m < 1000000000000) (hx : c.exec T h.next e (h.bump m) = .call f args d r e' h') :
    (MX.reg m c).run T call fuel e ds h K = call f args h' fun v h2 => r.run T call h.next (d.put v e') h2 fun e h => K .normal e ds h := by
  rw [reg_run hb, exec_run _ _ _ (by rw [hx]; exact fun e0 => Res.noConfusion e0), hx]; rfl

theorem run_ok {c : MC} {base : Nat} {K : E → Heap → Bool} (hx : c.exec T base e h = .ok e' h') : c.run T call base e h K = K e' h' := by
  rw [exec_run _ _ _ (by rw [hx]; exact fun e0 => Res.noConfusion e0), hx]; rfl
theorem run_call {c : MC} {base : Nat} {K : E → Heap → Bool} {f : FuncId} {args : List AV} {d : Pt} {r : MC} (hx : c.exec T base e h = .call f args d r e' h') : c.run T call base e h K = call f args h' fun v h2 => r.run T call base (d.put v e') h2 K := by
  rw [exec_run _ _ _ (by rw [hx]; exact fun e0 => Res.noConfusion e0), hx]; rfl
end
end Go.Ab
/-! Rules for running by hand. -/
namespace Go.Ab
section
variable {α : Type}
theorem get_mk0 (a b c d e f g h : α) : N8.get .d0 (.mk a b c d e f g h) = a := rfl
theorem get_mk1 (a b c d e f g h : α) : N8.get .d1 (.mk a b c d e f g h) = b := rfl
theorem get_mk2 (a b c d e f g h : α) : N8.get .d2 (.mk a b c d e f g h) = c := rfl
theorem get_mk3 (a b c d e f g h : α) : N8.get .d3 (.mk a b c d e f g h) = d := rfl
theorem get_mk4 (a b c d e f g h : α) : N8.get .d4 (.mk a b c d e f g h) = e := rfl
theorem get_mk5 (a b c d e f g h : α) : N8.get .d5 (.mk a b c d e f g h) = f := rfl
theorem get_mk6 (a b c d e f g h : α) : N8.get .d6 (.mk a b c d e f g h) = g := rfl
theorem get_mk7 (a b c d e f g h : α) : N8.get .d7 (.mk a b c d e f g h) = h := rfl
theorem get_all (i : D8) (x : α) : N8.get i (N8.all x) = x := by cases i <;> rfl
theorem set_mk0 (v a b c d e f g h : α) : N8.set .d0 v (.mk a b c d e f g h) = .mk v b c d e f g h := rfl
theorem set_mk1 (v a b c d e f g h : α) : N8.set .d1 v (.mk a b c d e f g h) = .mk a v c d e f g h := rfl
theorem set_mk2 (v a b c d e f g h : α) : N8.set .d2 v (.mk a b c d e f g h) = .mk a b v d e f g h := rfl
theorem set_mk3 (v a b c d e f g h : α) : N8.set .d3 v (.mk a b c d e f g h) = .mk a b c v e f g h := rfl
theorem set_mk4 (v a b c d e f g h : α) : N8.set .d4 v (.mk a b c d e f g h) = .mk a b c d v f g h := rfl
theorem set_mk5 (v a b c d e f g h : α) : N8.set .d5 v (.mk a b c d e f g h) = .mk a b c d e v g h := rfl
theorem set_mk6 (v a b c d e f g h : α) : N8.set .d6 v (.mk a b c d e f g h) = .mk a b c d e f v h := rfl
theorem set_mk7 (v a b c d e f g h : α) : N8.set .d7 v (.mk a b c d e f g h) = .mk a b c d e f g v := rfl
theorem set_all0 (v x : α) : N8.set .d0 v (N8.all x) = .mk v x x x x x x x := rfl
theorem set_all1 (v x : α) : N8.set .d1 v (N8.all x) = .mk x v x x x x x x := rfl
theorem set_all2 (v x : α) : N8.set .d2 v (N8.all x) = .mk x x v x x x x x := rfl
theorem set_all3 (v x : α) : N8.set .d3 v (N8.all x) = .mk x x x v x x x x := rfl
theorem set_all4 (v x : α) : N8.set .d4 v (N8.all x) = .mk x x x x v x x x := rfl
theorem set_all5 (v x : α) : N8.set .d5 v (N8.all x) = .mk x x x x x v x x := rfl
theorem set_all6 (v x : α) : N8.set .d6 v (N8.all x) = .mk x x x x x x v x := rfl
theorem set_all7 (v x : α) : N8.set .d7 v (N8.all x) = .mk x x x x x x x v := rfl
end
theorem rd_t (a b c : D8) (e : E) : Rd.rd (.t a b c) e = N8.get c (N8.get b (N8.get a e)) := rfl
theorem rd_k (v : AV) (e : E) : Rd.rd (.k v) e = v := rfl
theorem put_no (v : AV) (e : E) : Pt.put .no v e = e := rfl
theorem put_t (a b c : D8) (v : AV) (e : E) : Pt.put (.t a b c) v e = N8.set a (N8.set b (N8.set c v (N8.get b (N8.get a e))) (N8.get a e)) e := rfl
theorem none_eq : E.none = N8.all (N8.all (N8.all (.tup []))) := rfl
theorem init_nil (p : Pt) (ps : List Pt) (e : E) : E.init (p :: ps) [] e = some e := rfl
theorem init_cons (p : Pt) (ps : List Pt) (a : AV) (as : List AV) (e : E) : E.init (p :: ps) (a :: as) e = E.init ps as (p.put a e) := rfl
theorem rds_nil (e : E) : Rd.rds [] e = [] := rfl
theorem rds_cons (x : Rd) (xs : List Rd) (e : E) : Rd.rds (x :: xs) e = x.rd e :: Rd.rds xs e := rfl
theorem optR_some {α : Type} (f : α → Res) (x : α) : optR f (some x) = f x := rfl

section
variable (T : Tab) (e : E) (h : Heap)
theorem val_mov (x : Rd) : (MV.mov x).val T e h = some (x.rd e) := rfl
theorem val_pick (c a b : Rd) : (MV.pick c a b).val T e h = AV.onBool none (some (a.rd e)) (some (b.rd e)) (c.rd e) := rfl
theorem val_load (t : TypeId) (x : Rd) : (MV.load t x).val T e h = aLoad T h t (x.rd e) := rfl
theorem val_nilc (x : Rd) : (MV.nilc x).val T e h = AV.onPtr (aNil (x.rd e)) (fun id o => some (.ptr id o)) (x.rd e) := rfl
theorem val_ibin (o : IB) (op : BinOp) (t : TypeId) (cst : Bool) (x y : Rd) : (MV.ibin o op t cst x y).val T e h =
  AV.onInt (aBin T h op t cst (x.rd e) (y.rd e)) (fun k a => AV.onInt none (fun k' b => Bool.rec (motive := fun _ => Option AV) none (o.run k a b) (Nat.beq (knum k) (knum k'))) (y.rd e)) (x.rd e) := rfl
theorem val_bin (op : BinOp) (t : TypeId) (cst : Bool) (x y : Rd) : (MV.bin op t cst x y).val T e h = aBin T h op t cst (x.rd e) (y.rd e) := rfl
theorem val_un (op : UnOp) (x : Rd) : (MV.un op x).val T e h = aUn op (x.rd e) := rfl
theorem val_conv (s d : TypeId) (x : Rd) : (MV.conv s d x).val T e h = aConvert T h s d (x.rd e) := rfl
theorem val_slice (t : TypeId) (x : Rd) (lo hi mx : Option Rd) : (MV.slice t x lo hi mx).val T e h = aSlice T h t (x.rd e) (rdO lo e) (rdO hi e) (rdO mx e) := rfl
theorem val_shift (off : Nat) (x : Rd) : (MV.shift off x).val T e h = AV.onPtr ((x.rd e).shift off) (fun id o => some (.ptr id (Nat.add o off))) (x.rd e) := rfl
theorem val_iaddr (t : TypeId) (x i : Rd) : (MV.iaddr t x i).val T e h = aIndexAddr T t (x.rd e) (i.rd e) := rfl
theorem val_ext (x : Rd) (i : Nat) : (MV.ext x i).val T e h = AV.onTup none (fun vs => getN vs i) (x.rd e) := rfl
theorem val_len (t : TypeId) (x : Rd) : (MV.len t x).val T e h = aLen T h t (x.rd e) := rfl
theorem val_gen (n : Nat) (op : Op) : (MV.gen n op).val T e h = light T (e.toL n 0) h op := rfl
theorem rdO_none : rdO none e = none := rfl
theorem rdO_some (x : Rd) : rdO (some x) e = some (x.rd e) := rfl
end
/-- A load from a row that is known. -/
theorem val_load1 {T : Tab} {e : E} {h : Heap} {x : Rd} {id off : Nat} {s : Bool} {n : Nat} {xs : List AV} (hx : x.rd e = .ptr id off) (hg : h.get id = some (some (.row s (.lst n xs)))) : (MV.load1 x).val T e h = csGet (.lst n xs) off := by
  show AV.onPtr (cellOf h (x.rd e)) (fun id off => hRow none (fun _ cs => csGet cs off) h id) (x.rd e) = _
  rw [hx]
  show Option.rec (motive := fun _ => Option AV) none (fun x => Option.rec (motive := fun _ => Option AV) none (aoRow none fun _ cs => csGet cs off) x) (h.get id) = _
  rw [hg]; rfl

theorem load1_eq (T : Tab) (e : E) (h : Heap) (x : Rd) : (MV.load1 x).val T e h = AV.onPtr (cellOf h (x.rd e)) (fun id off => hRow none (fun _ cs => csGet cs off) h id) (x.rd e) := rfl
theorem hRow_get {β : Type} (z : β) (f : Bool → Cs → β) {h : Heap} {id : Nat} {s : Bool} {cs : Cs} (hg : h.get id = some (some (.row s cs))) : hRow z f h id = f s cs := by
  show Option.rec (motive := fun _ => β) z (fun x => Option.rec (motive := fun _ => β) z (aoRow z f) x) (h.get id) = _
  rw [hg]; rfl

section
variable {β : Type} (z : β)
theorem onBool_t (x y : β) : AV.onBool z x y (.bool true) = x := rfl
theorem onBool_f (x y : β) : AV.onBool z x y (.bool false) = y := rfl
theorem onInt_int (f : IntKind → Int → β) (k : IntKind) (n : Int) : AV.onInt z f (.int k n) = f k n := rfl
theorem onPtr_ptr (f : Nat → Nat → β) (i o : Nat) : AV.onPtr z f (.ptr i o) = f i o := rfl
theorem onTup_tup (f : List AV → β) (vs : List AV) : AV.onTup z f (.tup vs) = f vs := rfl
theorem wantB_tt (y n : β) : wantB z y n true (.bool true) = y := rfl
theorem wantB_tf (y n : β) : wantB z y n true (.bool false) = n := rfl
theorem wantB_ft (y n : β) : wantB z y n false (.bool true) = n := rfl
theorem wantB_ff (y n : β) : wantB z y n false (.bool false) = y := rfl
theorem wantB_u (y n : β) (w : Bool) : wantB z y n w (.tup []) = n := rfl
end

theorem bump_get (h : Heap) (m i : Nat) : (h.bump m).get i = h.get i := rfl
theorem bump_bump (h : Heap) (a b : Nat) : (h.bump a).bump b = h.bump (a + b) := by
  cases h; show Heap.mk _ _ = Heap.mk _ _
  congr 1; exact Nat.add_assoc _ _ _
theorem getN_zero {α : Type} (x : α) (xs : List α) : getN (x :: xs) 0 = some x := rfl
theorem getN_succ {α : Type} (x : α) (xs : List α) (i : Nat) : getN (x :: xs) (i + 1) = getN xs i := rfl

/-- From one heap to a later one: all but 'S' of what there was is as it was. -/
structure Fr (S : List Nat) (h h' : Heap) (k : Nat) : Prop where
  same : ∀ i, i < h.next → i ∉ S → h'.get i = h.get i
  lo : h.next ≤ h'.next
  hi : h'.next ≤ h.next + k

theorem Fr.refl (S : List Nat) (h : Heap) : Fr S h h 0 := ⟨fun _ _ _ => rfl, Nat.le_refl _, Nat.le_refl _⟩
theorem Fr.trans {S : List Nat} {h h1 h2 : Heap} {k m : Nat} (a : Fr S h h1 k) (b : Fr S h1 h2 m) : Fr S h h2 (k + m) :=
  ⟨fun i hi hn => (b.same i (Nat.lt_of_lt_of_le hi a.lo) hn).trans (a.same i hi hn), Nat.le_trans a.lo b.lo, by have := a.hi; have := b.hi; omega⟩
theorem Fr.more {S S' : List Nat} {h h1 : Heap} {k m : Nat} (a : Fr S h h1 k) (hS : ∀ i, i ∈ S → i ∈ S') (hm : k ≤ m) : Fr S' h h1 m :=
  ⟨fun i hi hn => a.same i hi fun h => hn (hS i h), a.lo, by have := a.hi; omega⟩
theorem Fr.bump (S : List Nat) (h : Heap) (m : Nat) : Fr S h (h.bump m) m := ⟨fun _ _ _ => rfl, Nat.le_add_right _ _, Nat.le_refl _⟩
theorem Fr.set {S : List Nat} {h h1 : Heap} {k : Nat} (a : Fr S h h1 k) {i : Nat} (o : Option AO) (hi : i ∈ S ∨ h.next ≤ i) : Fr S h (h1.set i o) k :=
  ⟨fun j hj hn => by
    rw [Heap.get_set_ne]
    · exact a.same j hj hn
    · intro e0; subst e0
      rcases hi with h2 | h2
      · exact hn h2
      · omega, a.lo, a.hi⟩
/-- A thing is set to what it was. -/
theorem Fr.reset {S : List Nat} {h h1 : Heap} {k : Nat} (a : Fr S h h1 k) {i : Nat} {o : Option AO} (hi : h1.get i = some o) (hl : i < 1000000000000) : Fr S h (h1.set i o) k :=
  ⟨fun j hj hn => by
    by_cases hij : i = j
    · subst hij; rw [Heap.get_set_eq _ _ hl, ← a.same i hj hn, hi]
    · rw [Heap.get_set_ne _ _ hij]; exact a.same j hj hn, a.lo, a.hi⟩

section
variable {T : Tab} {call : XCall} {fuel : Nat} {e : E} {ds : List Nat} {h : Heap}
theorem ret_run {K : MPost} : MX.ret.run T call fuel e ds h K = K .ret e ds h := rfl
theorem skip_run {K : MPost} : MX.skip.run T call fuel e ds h K = K .normal e ds h := rfl
theorem exit_run {i : Nat} {K : MPost} : (MX.exit i).run T call fuel e ds h K = K (.exit i) e ds h := rfl
theorem endM_ret (rs : List MRes) (K : AV → Heap → Bool) : endM T rs K .ret e [] h = oB (fun vs => K (packR vs) h) (mres T e h rs) := rfl
theorem endM_nor (rs : List MRes) (K : AV → Heap → Bool) : endM T rs K .normal e [] h = oB (fun vs => K (packR vs) h) (mres T e h rs) := rfl
theorem mres1 (a : Rd) : mres T e h [.tmp a] = some [a.rd e] := rfl
theorem mres2 (a b : Rd) : mres T e h [.tmp a, .tmp b] = some [a.rd e, b.rd e] := rfl
theorem mres3 (a b c : Rd) : mres T e h [.tmp a, .tmp b, .tmp c] = some [a.rd e, b.rd e, c.rd e] := rfl
theorem oB_s {α : Type} (f : α → Bool) (x : α) : oB f (some x) = f x := rfl
theorem packR1 (a : AV) : packR [a] = a := rfl
theorem packR2 (a b : AV) : packR [a, b] = .tup [a, b] := rfl
theorem packR3 (a b c : AV) : packR [a, b, c] = .tup [a, b, c] := rfl
theorem block_run {i : Nat} {b : MX} {K : MPost} : (MX.block i b).run T call fuel e ds h K = b.run T call fuel e ds h fun x e ds h =>
  onE (fun id' => Bool.rec (motive := fun _ => Bool) (K x e ds h) (K .normal e ds h) (Nat.beq id' i)) (K x e ds h) x := rfl
theorem onN_n (y z : Bool) : onN y z .normal = y := rfl
theorem onN_r (y z : Bool) : onN y z .ret = z := rfl
theorem onN_e (y z : Bool) (i : Nat) : onN y z (.exit i) = z := rfl
theorem onE_n (f : Nat → Bool) (z : Bool) : onE f z .normal = z := rfl
theorem onE_r (f : Nat → Bool) (z : Bool) : onE f z .ret = z := rfl
theorem onE_e (f : Nat → Bool) (z : Bool) (i : Nat) : onE f z (.exit i) = f i := rfl
end
theorem hRow_bump {β : Type} (z : β) (f : Bool → Cs → β) (h : Heap) (m id : Nat) : hRow z f (h.bump m) id = hRow z f h id := rfl
/-- What a cell of a row is. -/
abbrev Ld (h : Heap) (id off : Nat) (v : AV) : Prop := hRow none (fun _ cs => csGet cs off) h id = some v
theorem Ld_of {h : Heap} {id off : Nat} {s : Bool} {n : Nat} {xs : List AV} {v : AV} (hg : h.get id = some (some (.row s (.lst n xs)))) (hv : csGet (.lst n xs) off = some v) : Ld h id off v :=
  (hRow_get none _ hg).trans hv
theorem nadd_eq (a b : Nat) : Nat.add a b = a + b := rfl
theorem kbeq (k : IntKind) (x : Option AV) : Bool.rec (motive := fun _ => Option AV) none x (Nat.beq (knum k) (knum k)) = x := by cases k <;> rfl
theorem unNot_t : aUn .not (.bool true) = some (.bool false) := rfl
theorem unNot_f : aUn .not (.bool false) = some (.bool true) := rfl

/-- A store of one cell into a row that is known. -/
theorem vStore1_row {T : Tab} {t : TypeId} {h : Heap} {i off n : Nat} {s : Bool} {xs : List AV} {v : AV} {c : Cs} (hg : h.get i = some (some (.row s (.lst n xs)))) (hv : v.one = true) (hs : csSet v (.lst n xs) off = some c) :
    vStore1 T t h (.ptr i off) v = some (h.set i (some (.row s c))) := by
  unfold vStore1
  rw [hv]
  show hRow none (fun s cs => Option.rec (motive := fun _ => Option Heap) none (fun c => some (h.set i (some (.row s c)))) (csSet v cs off)) h i = _
  rw [hRow_get none _ hg, hs]

theorem opd_toL {e : E} {n t : Nat} (ht : t < n) : opd (e.toL n 0) (.tmp t) = some (e.at t) := by
  show (e.toL n 0)[t]? = _
  rw [E.toL_get _ _ _ _ ht, Nat.zero_add]
theorem at_eq (e : E) (t : Nat) : e.at t = N8.get (dig t) (N8.get (dig (t / 8)) (N8.get (dig (t / 64)) e)) := rfl

theorem val_lookup {T : Tab} {e : E} {h : Heap} {n a b : Nat} {t : TypeId} {ok : Bool} (ha : a < n) (hb : b < n) : (MV.gen n (.lookup t (.tmp a) (.tmp b) ok)).val T e h = aLookup T h t (e.at a) (e.at b) ok := by
  show light T (e.toL n 0) h (.lookup t (.tmp a) (.tmp b) ok) = _
  simp only [light, opd_toL ha, opd_toL hb]
theorem val_lenC {T : Tab} {e : E} {h : Heap} {n a : Nat} {t : TypeId} (ha : a < n) : (MV.gen n (.call ⟨.builtin .len, #[.tmp a], #[t]⟩)).val T e h = aLen T h t (e.at a) := by
  show light T (e.toL n 0) h (.call ⟨.builtin .len, #[.tmp a], #[t]⟩) = _
  simp only [light, opds, opd_toL ha]; rfl

theorem aLookup_not {T : Tab} {h : Heap} {t key elem : TypeId} {m c : Nat} {es : List (AV × AV × Nat)} {x : Nat} {z : AV} (hu : T.und t = some (.map key elem)) (hk : T.und key = some (.int .u64)) (hz : T.zero elem = some z)
    (hg : h.get m = some (some (.map es c))) (hf : aFind (.int .u64 (.ofNat x)) es 0 = some none) (ok : Bool) :
    aLookup T h t (.mp m) (.int .u64 (.ofNat x)) ok = some (if ok then .tup [z, .bool false] else z) := by
  simp only [aLookup, hu, hk, mapOf, hg, hf, keyFits, decide_true, if_true, hz, Option.map_some]
theorem aLookup_yes {T : Tab} {h : Heap} {t key elem : TypeId} {m c j : Nat} {es : List (AV × AV × Nat)} {x : Nat} {v : AV} (hu : T.und t = some (.map key elem)) (hk : T.und key = some (.int .u64))
    (hg : h.get m = some (some (.map es c))) (hf : aFind (.int .u64 (.ofNat x)) es 0 = some (some (j, v))) (ok : Bool) :
    aLookup T h t (.mp m) (.int .u64 (.ofNat x)) ok = some (if ok then .tup [v, .bool true] else v) := by
  simp only [aLookup, hu, hk, mapOf, hg, hf, keyFits, decide_true, if_true]
theorem aLen_map {T : Tab} {h : Heap} {t key elem : TypeId} {m c : Nat} {es : List (AV × AV × Nat)} (hu : T.und t = some (.map key elem)) (hg : h.get m = some (some (.map es c))) :
    aLen T h t (.mp m) = some (.int .i64 (.ofNat es.length)) := by
  simp only [aLen, hu, mapOf, hg, Option.map_some]; rfl
end Go.Ab
/-! Rules for running by hand: maps, calls, things made. -/
namespace Go.Ab
section
variable {T : Tab} {e : E} {h : Heap} {n : Nat}

theorem opds_toL : ∀ {ts : List Nat}, (∀ t, t ∈ ts → t < n) → opds (e.toL n 0) (ts.map .tmp) = some (ts.map e.at)
  | [], _ => rfl
  | t :: ts, hl => by
    simp only [List.map_cons, opds, opd_toL (hl t List.mem_cons_self), opds_toL (fun u hu => hl u (List.mem_cons_of_mem _ hu))]

theorem wr_mapUpdate {id a b c : Nat} {t : TypeId} (ha : a < n) (hb : b < n) (hc : c < n) : wrOp T (e.toL n 0) h id (.mapUpdate t (.tmp a) (.tmp b) (.tmp c)) = (wrMapUpdate T h t (e.at a) (e.at b) (e.at c)).map fun h' => (.tup [], h') := by
  simp only [wrOp, opd_toL ha, opd_toL hb, opd_toL hc]
theorem wr_delete {id a b : Nat} {t u : TypeId} (ha : a < n) (hb : b < n) : wrOp T (e.toL n 0) h id (.call ⟨.builtin .delete, #[.tmp a, .tmp b], #[t, u]⟩) = (wrDelete T h t (e.at a) (e.at b)).map fun h' => (.tup [], h') := by
  have := opds_toL (e := e) (n := n) (ts := [a, b]) (by simp [ha, hb])
  simp only [List.map_cons, List.map_nil] at this
  simp only [wrOp, this]
theorem callee_val {f a b x : Nat} {t u : TypeId} (hx : x < n) (ha : a < n) (hb : b < n) (hf : e.at x = .fn (.func f) [] []) (hg : T.go f = true) : calleeOf T (e.toL n 0) h (.call ⟨.value (.tmp x), #[.tmp a, .tmp b], #[t, u]⟩) = some (f, [e.at a, e.at b]) := by
  have := opds_toL (e := e) (n := n) (ts := [a, b]) (by simp [ha, hb])
  simp only [List.map_cons, List.map_nil] at this
  simp only [calleeOf, this, opd_toL hx, hf, hg, if_true]; rfl

theorem add_u64 {a b : Nat} (hl : a + b ≤ 18446744073709551615) : IB.add.run .u64 (.ofNat a) (.ofNat b) = some (.int .u64 (.ofNat (a + b))) := by
  show some (AV.int .u64 (wrapN .u64 (a + b))) = _
  rw [wrapN_eq, wrapN_small .u64 (a + b) hl]; rfl
theorem add_i64 {a b : Nat} (hl : a + b ≤ 9223372036854775807) : IB.add.run .i64 (.ofNat a) (.ofNat b) = some (.int .i64 (.ofNat (a + b))) := by
  show some (AV.int .i64 (wrapN .i64 (a + b))) = _
  rw [wrapN_eq, wrapN_small .i64 (a + b) hl]; rfl
theorem lss_run (k : IntKind) (a b : Nat) : IB.lss.run k (.ofNat a) (.ofNat b) = some (.bool (decide (a < b))) := by
  show some (AV.bool (Nat.ble (Nat.succ a) b)) = _
  rw [show Nat.ble (Nat.succ a) b = decide (a < b) by rw [Bool.eq_iff_iff]; simp [Nat.ble_eq, Nat.succ_le_iff]]
theorem geq_run (k : IntKind) (a b : Nat) : IB.geq.run k (.ofNat a) (.ofNat b) = some (.bool (decide (b ≤ a))) := by
  show some (AV.bool (Nat.ble b a)) = _
  rw [show Nat.ble b a = decide (b ≤ a) by rw [Bool.eq_iff_iff]; simp [Nat.ble_eq]]
theorem gtr_run (k : IntKind) (a b : Nat) : IB.gtr.run k (.ofNat a) (.ofNat b) = some (.bool (decide (b < a))) := by
  show some (AV.bool (Nat.ble (Nat.succ b) a)) = _
  rw [show Nat.ble (Nat.succ b) a = decide (b < a) by rw [Bool.eq_iff_iff]; simp [Nat.ble_eq, Nat.succ_le_iff]]
theorem eql_run (k : IntKind) (a b : Nat) : IB.eql.run k (.ofNat a) (.ofNat b) = some (.bool (decide (a = b))) := by
  show some (AV.bool (Nat.beq a b)) = _
  rw [show Nat.beq a b = decide (a = b) by rw [Bool.eq_iff_iff]; simp [Nat.beq_eq]]
theorem neq_run (k : IntKind) (a b : Nat) : IB.neq.run k (.ofNat a) (.ofNat b) = some (.bool (!decide (a = b))) := by
  show some (AV.bool (Bool.rec (motive := fun _ => Bool) true false (Nat.beq a b))) = _
  rw [show Nat.beq a b = decide (a = b) by rw [Bool.eq_iff_iff]; simp [Nat.beq_eq]]
  cases decide (a = b) <;> rfl

end

/-! ### A set of numbers as a map -/
/-- 'os': the number, and when it came. -/
def ents (os : List (Nat × Nat)) : List (AV × AV × Nat) := os.map fun p => (.int .u64 (.ofNat p.1), .agg 0 [], p.2)

theorem find_not {t : Nat} : ∀ {os : List (Nat × Nat)} {i : Nat}, t ∉ os.map (·.1) → aFind (.int .u64 (.ofNat t)) (ents os) i = some none
  | [], _, _ => rfl
  | p :: os, i, h => by
    simp only [List.map_cons, List.mem_cons, not_or] at h
    have hk : keyIs (.int .u64 (.ofNat t)) (.int .u64 (.ofNat p.1)) = some false := by
      have : ((Int.ofNat t : Int) == Int.ofNat p.1) = false := by simp; omega
      simp only [keyIs, this, if_true]
    show (match keyIs (.int .u64 (.ofNat t)) (.int .u64 (.ofNat p.1)) with
      | some true => some (some (i, AV.agg 0 []))
      | some false => aFind (.int .u64 (.ofNat t)) (ents os) (i + 1)
      | none => none) = _
    rw [hk]; exact find_not h.2

theorem find_yes {t : Nat} : ∀ {os : List (Nat × Nat)} {i : Nat}, t ∈ os.map (·.1) → ∃ j, (os.map (·.1))[j]? = some t ∧ aFind (.int .u64 (.ofNat t)) (ents os) i = some (some (i + j, .agg 0 []))
  | [], _, h => by simp at h
  | p :: os, i, h => by
    by_cases hp : p.1 = t
    · refine ⟨0, by simp [hp], ?_⟩
      have hk : keyIs (.int .u64 (.ofNat t)) (.int .u64 (.ofNat p.1)) = some true := by
        have : ((Int.ofNat t : Int) == Int.ofNat p.1) = true := by simp; omega
        simp only [keyIs, this, if_true]
      show (match keyIs (.int .u64 (.ofNat t)) (.int .u64 (.ofNat p.1)) with
        | some true => some (some (i, AV.agg 0 []))
        | some false => aFind (.int .u64 (.ofNat t)) (ents os) (i + 1)
        | none => none) = _
      rw [hk]; rfl
    · have h' : t ∈ os.map (·.1) := by
        simp only [List.map_cons, List.mem_cons] at h
        rcases h with h | h
        · exact absurd h.symm hp
        · exact h
      obtain ⟨j, h1, h2⟩ := find_yes (i := i + 1) h'
      refine ⟨j + 1, by simpa using h1, ?_⟩
      have hk : keyIs (.int .u64 (.ofNat t)) (.int .u64 (.ofNat p.1)) = some false := by
        have : ((Int.ofNat t : Int) == Int.ofNat p.1) = false := by simp; omega
        simp only [keyIs, this, if_true]
      show (match keyIs (.int .u64 (.ofNat t)) (.int .u64 (.ofNat p.1)) with
        | some true => some (some (i, AV.agg 0 []))
        | some false => aFind (.int .u64 (.ofNat t)) (ents os) (i + 1)
        | none => none) = _
      rw [hk]
      simp only
      rw [h2, show i + 1 + j = i + (j + 1) by omega]

theorem map_erase {α β : Type} (f : α → β) : ∀ (l : List α) (j : Nat), (l.map f).eraseIdx j = (l.eraseIdx j).map f
  | [], _ => rfl
  | _ :: _, 0 => rfl
  | x :: l, j + 1 => by simp [map_erase f l j]
theorem ents_erase (os : List (Nat × Nat)) (j : Nat) : (ents os).eraseIdx j = ents (os.eraseIdx j) := map_erase _ _ _

theorem mapUpdate_new {T : Tab} {h : Heap} {t key elem : TypeId} {m c : Nat} {es : List (AV × AV × Nat)} {x : Nat} {v : AV} (hu : T.und t = some (.map key elem)) (hk : T.und key = some (.int .u64))
    (hg : h.get m = some (some (.map es c))) (hf : aFind (.int .u64 (.ofNat x)) es 0 = some none) :
    wrMapUpdate T h t (.mp m) (.int .u64 (.ofNat x)) v = some (h.set m (some (.map (es ++ [(.int .u64 (.ofNat x), v, c)]) (c + 1)))) := by
  simp only [wrMapUpdate, hu, hk, hg, hf, keyFits, decide_true, if_true]
theorem delete_yes {T : Tab} {h : Heap} {t key elem : TypeId} {m c j : Nat} {es : List (AV × AV × Nat)} {x : Nat} {v : AV} (hu : T.und t = some (.map key elem)) (hk : T.und key = some (.int .u64))
    (hg : h.get m = some (some (.map es c))) (hf : aFind (.int .u64 (.ofNat x)) es 0 = some (some (j, v))) :
    wrDelete T h t (.mp m) (.int .u64 (.ofNat x)) = some (h.set m (some (.map (es.eraseIdx j) c))) := by
  simp only [wrDelete, hu, hk, hg, hf, keyFits, decide_true, if_true]

/-- What a function value enters. -/
def calV (T : Tab) (v : AV) (as : List AV) : Option (FuncId × List AV) :=
  match v with
  | .fn (.func f) first captured => if T.go f then some (f, first ++ as ++ captured) else none
  | _ => none
theorem calV_fn (T : Tab) (f : FuncId) (as : List AV) (hg : T.go f = true) : calV T (.fn (.func f) [] []) as = some (f, as) := by
  simp only [calV, hg, if_true, List.nil_append, List.append_nil]
theorem callee_calV {T : Tab} {e : E} {h : Heap} {k a b x : Nat} {t u : TypeId} (hx : x < k) (ha : a < k) (hb : b < k) : calleeOf T (e.toL k 0) h (.call ⟨.value (.tmp x), #[.tmp a, .tmp b], #[t, u]⟩) = calV T (e.at x) [e.at a, e.at b] := by
  have := opds_toL (e := e) (n := k) (ts := [a, b]) (by simp [ha, hb])
  simp only [List.map_cons, List.map_nil] at this
  simp only [calleeOf, this, opd_toL hx, calV]
  cases e.at x with
  | fn g first cap => cases g <;> rfl
  | _ => rfl

end Go.Ab
/-! Calls that are told as contracts; forgetting what a call made. -/
namespace Go.Ab
section
variable {P : Program} {T : Tab}

theorem R_none {σ : Sig} {Z : Nat → Prop} {h : Heap} {w : World} (hR : R σ Z h w) : R (fun _ => none) Z Heap.empty w where
  nofresh _ _ := rfl
  top _ _ := rfl
  live id o h := by cases h
  inj i j oi oj p q h1 := by cases h1
  own id o p h1 := by cases h1
  zlt := hR.zlt
  lim := by show (0 : Nat) < _; omega

/-- A call that is run from nothing, and whose things nobody keeps. -/
theorem CT_forget {f : FuncId} {b : Bool} {K : AV → Heap → Prop} (hc : CT P f [] Heap.empty K) (hb : ∀ v h', K v h' → v = .bool b) (h : Heap) : CT P f [] h fun v h' => v = .bool b ∧ h' = h := by
  intro σ Z w vs hR hv
  have hv0 : VRs (fun _ => none) Z w [] vs.toList := by
    simp only [VRs] at hv ⊢; exact hv
  refine (hc _ _ _ vs (R_none hR) hv0).mono fun e w' hp => ?_
  cases e with
  | returned v =>
    obtain ⟨σ', Z', av, h', k, r, x, hvr⟩ := hp
    have hav := hb _ _ k
    subst hav
    have nown : ∀ b, ¬ Owns (fun _ => none) Heap.empty b := fun b ⟨id, o, p, h1, _⟩ => by cases h1
    have same : ∀ b, b < w.heap.size → w'.heap[b]? = w.heap[b]? := fun b hb => x.same b hb (nown b)
    have g : Grow σ Z w σ Z w' := ⟨fun _ _ h => h, fun _ h => h, fun b hb => same b (hR.zlt b hb), x.csz⟩
    have hR' : R σ Z h w' := by
      refine ⟨hR.nofresh, hR.top, fun id o hi => ?_, hR.inj, hR.own, fun b hb => Nat.lt_of_lt_of_le (hR.zlt b hb) x.size, hR.lim⟩
      obtain ⟨p, hp, hbr⟩ := hR.live id o hi
      exact ⟨p, hp, hbr.grow g (same _ hbr.lt)⟩
    refine ⟨σ, Z, .bool b, h, ⟨rfl, rfl⟩, hR', ⟨fun _ _ h => h, fun _ h => h, fun _ h => .inl h, fun _ h => .inr h, fun b hb _ => same b hb, x.size, x.csz, fun _ _ h => h, Nat.le_refl _, x.os, x.tape, x.output⟩, ?_⟩
    simp only [VR] at hvr ⊢; exact hvr
  | panicked c => exact hp.elim
  | outgrown => exact hp.elim

/-- A call whose contract holds, of a function that has a body. -/
noncomputable def CTG (P : Program) (T : Tab) : XCall := fun f args h K => @decide (T.go f = true ∧ CT P f args h fun v h' => K v h' = true) (Classical.propDecidable _)
theorem CTG_ok : CallOk P (CTG P T) := fun f args h K hq => by
  unfold CTG at hq
  exact (@of_decide_eq_true _ (Classical.propDecidable _) hq).2
theorem CTG_go : ∀ g vs h K, CTG P T g vs h K = true → T.go g = true := fun g vs h K hq => by
  unfold CTG at hq
  exact (@of_decide_eq_true _ (Classical.propDecidable _) hq).1
theorem CTG_of {f : FuncId} {args : List AV} {h : Heap} {Q : AV → Heap → Prop} {K : AV → Heap → Bool} (hg : T.go f = true) (hc : CT P f args h Q) (hk : ∀ v h', Q v h' → K v h' = true) : CTG P T f args h K = true := by
  unfold CTG
  exact @decide_eq_true _ (Classical.propDecidable _) ⟨hg, hc.mono hk⟩
theorem CTG_of_mcall (hT : T.ok P) (hm : P.follows .mixedOrders = true) {F : FuncId → Option MFn} (hF : MOk P T F) {fuel n : Nat} {f : FuncId} {args : List AV} {h : Heap} {K : AV → Heap → Bool} (hq : mcall T F fuel n f args h K = true) : CTG P T f args h K = true := by
  have := mcall_sound hT hm hF fuel n
  exact CTG_of (this.2 _ _ _ _ hq) (this.1 _ _ _ _ hq) fun v h' k => k

/-- A function's contract from its turned code, the calls told as contracts. -/
theorem CT_of_code (hT : T.ok P) (hm : P.follows .mixedOrders = true) (fuel : Nat) {f : FuncId} {x : MFn} (hx : mfnOf T P f = some x) {args : List AV} {h : Heap} {K : AV → Heap → Bool} (hq : mbody T fuel (CTG P T) args h K x = true) : CT P f args h fun v h' => K v h' = true := by
  unfold mfnOf at hx
  split at hx
  · rename_i fn hf
    split at hx
    · rename_i c hb
      split at hx
      · rename_i hg
        simp only [Bool.and_eq_true] at hg
        split at hx
        · rename_i m ps rs k1 k2 k3
          injection hx with hx; subst hx
          have hn : fn.ntmps ≤ 512 := Nat.le_of_ble_eq_true hg.2
          obtain ⟨E1, g1, g2⟩ := oB_some (show oB (fun e => m.run T (CTG P T) fuel e [] h (endM T rs K)) (E.init ps args E.none) = true from hq)
          have hR := init_sound (n := fn.ntmps) hn (pre := []) k2 rfl (by simpa using Rel.none fn.ntmps) g1
          simp only [List.nil_append, Nat.zero_add] at hR
          refine CT_of_body hT hf hb (mx_sound hT hm hn CTG_ok CTG_go fuel c k1 hR (Nat.le_refl _) (fun x E2 e2 ds h' hR2 hk => ?_) g2)
          change Bool.rec (motive := fun _ => Bool) false (List.rec (motive := fun _ => Bool) (oB (fun vs => K (packR vs) h') (mres T E2 h' rs))
            (fun _ _ _ => dsOkB ds h' && oB (fun vs => K (packR vs) (dsCut ds h')) (mres T E2 (dsCut ds h') rs)) ds) (isEnd x) = true at hk
          have hx : isEnd x = true := by
            cases hx : isEnd x with
            | true => rfl
            | false => rw [hx] at hk; cases hk
          rw [hx] at hk
          have hk' : (dsOkB ds h' && oB (fun vs => K (packR vs) (dsCut ds h')) (mres T E2 (dsCut ds h') rs)) = true := by
            cases ds with
            | nil => exact hk
            | cons => exact hk
          simp only [Bool.and_eq_true] at hk'
          obtain ⟨vs, q1, q2⟩ := oB_some hk'.2
          refine ⟨?_, dsOkB_ok hk'.1, vs, mres_sound hR2 k3 q1, q2⟩
          cases x <;> first | exact Or.inl rfl | exact Or.inr rfl | cases hx
        · cases hx
      · cases hx
    · cases hx
  · cases hx

end
end Go.Ab
