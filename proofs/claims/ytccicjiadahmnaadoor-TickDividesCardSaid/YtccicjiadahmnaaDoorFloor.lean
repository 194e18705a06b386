/- Quotients of digits, bit by bit: the plain law. -/
import Derived.Test.YtccicjiadahmnaaDoorDigV
namespace Go.Proofs.YtccicjiadahmnaaDoor.Dig
open Go.RowKit Go.Proofs.YtccicjiadahmnaaDoor Go.Proofs.YtccicjiadahmnaaDoor.V Go.Proofs.YtccicjiadahmnaaDoorW.PrintWords Go.Proofs.YtccicjiadahmnaaDoorW.PrintLast Go.Proofs.YtccicjiadahmnaaDoorW.PrintMore
set_option linter.unusedVariables false

theorem plus_ev2 (a b : List Int) (ha : Dg a) (hb : Dg b) (L : Nat) (hL : L ≤ 1000) (hla : a.length ≤ L) (hlb : b.length ≤ L) : ∃ r, Ev (fun k => tocsinref02_plus.f k a b) r ∧ Dg r ∧ r.length ≤ L + 1 ∧ V r = V a + V b := by
  obtain ⟨r, h1, h2, h3, h4⟩ := plus_loop a b ha hb L hL hla hlb (L + 1) 0 [] 0 rfl (by omega) (by omega) (by omega) (by omega) Dg.nil
  refine ⟨r, h1, h2, h3, ?_⟩
  rw [h4]
  simp [V_nil, B0]
theorem trim_len {l l' : List Int} (h : Dg l) (h' : Dg l') (hz : Nz l') (hv : V l' = V l) : l'.length ≤ l.length := Nz_len h' hz l.length (by rw [hv]; exact (V_range h).2)
theorem one_dg : Dg [1] := Dg.cons (by decide) Dg.nil
theorem one_V : V [1] = 1 := by rw [V_cons, V_nil]; decide
/-- A quotient so far: what was read is P. -/
structure Q (q rest c : List Int) (P : Int) (L : Nat) : Prop where
  dq : Dg q
  dr : Dg rest
  lq : q.length ≤ L
  lr : rest.length ≤ L
  eq : V q * V c + V rest = P
  lt : V rest < V c
theorem minus_ev2 (a b : List Int) (ha : Dg a) (hb : Dg b) (hla : a.length ≤ 1000) (hlb : b.length ≤ a.length) (hv : V b ≤ V a) : ∃ r, Ev (fun k => tocsinref02_minus.f k a b) r ∧ Dg r ∧ r.length = a.length ∧ V r = V a - V b := by
  obtain ⟨r, c, h1, h2, h3, h4, h5⟩ := minus_loop a b ha hb hla a.length 0 [] 0 rfl (by omega) (by omega) Dg.nil
  refine ⟨r, h1, h2, h3, ?_⟩
  rw [List.drop_of_length_le hlb] at h5
  simp only [List.drop_zero, B0, V_nil] at h5
  have hr := V_range h2
  rw [h3] at hr
  have hP := Bpos a.length
  rcases (show c = 0 ∨ c = 1 by omega) with rfl | rfl
  · simp at h5; omega
  · simp at h5; omega
theorem grow (x y : Int) : (2 * x + 1) * y = 2 * (x * y) + y := by rw [Int.add_mul, Int.one_mul, Int.mul_assoc]
/-- The join behind a bit: the quotient is doubled, and grows where the divisor fits. -/
theorem j2_step (a c : List Int) (na nc : Bool) (dc : Dg c) (zc : Nz c) (i kk : Int) (q rest : List Int) (T : Int) (L : Nat) (hL : L ≤ 900) (dq : Dg q) (dr : Dg rest) (lq : q.length ≤ L) (lr : rest.length ≤ L + 2) (lc : c.length ≤ 900) (hT : V rest < 2 * V c) (hP : 2 * (V q * V c) + V rest = T) :
    ∃ q' rest', Q q' rest' c T (L + 2) ∧ ∀ res, Ev (fun k => tocsinref02_Floor.l1 k q' rest' i (wrap64 (kk - 1)) a na c nc) res → Ev (fun k => tocsinref02_Floor.j2 k q rest i kk a na c nc) res := by
  obtain ⟨q2, p1, p2, p3, p4⟩ := plus_ev2 q q dq dq L (by omega) lq lq
  obtain ⟨rt, t1, t2, t3, t4⟩ := trim_ev rest false (by omega) dr
  have lt := trim_len dr t2 t3 t4
  obtain ⟨cm, c1, c2⟩ := cmp_ev rt c t2 dc t3 zc (by omega) (by omega)
  rw [t4] at c2
  have e2 : V q2 = 2 * V q := by rw [p4]; omega
  by_cases hc : V c ≤ V rest
  · have hlen : c.length ≤ rest.length := Nz_len dc zc rest.length (Int.lt_of_le_of_lt hc (V_range dr).2)
    obtain ⟨rm, m1, m2, m3, m4⟩ := minus_ev2 rest c dr dc (by omega) hlen hc
    obtain ⟨r3, s1, s2, s3, s4⟩ := trim_ev rm false (by omega) m2
    have l3 := trim_len m2 s2 s3 s4
    obtain ⟨q3, o1, o2, o3, o4⟩ := plus_ev2 q2 [1] p2 one_dg (L + 1) (by omega) p3 (by simp)
    refine ⟨q3, r3, ⟨o2, s2, o3, by omega, ?_, by rw [s4, m4]; omega⟩, fun res h => Ev.step (fun k => by rw [tocsinref02_Floor.j2]) (Ev.bind p1 (Ev.bind t1 (Ev.bind c1 ?_)))⟩
    · rw [o4, e2, one_V, grow, s4, m4]; omega
    · simp only [if_pos (c2.2 hc)]
      exact Ev.bind m1 (Ev.bind s1 (Ev.bind o1 h))
  · refine ⟨q2, rest, ⟨p2, dr, by omega, by omega, ?_, by omega⟩, fun res h => Ev.step (fun k => by rw [tocsinref02_Floor.j2]) (Ev.bind p1 (Ev.bind t1 (Ev.bind c1 ?_)))⟩
    · rw [e2, Int.mul_assoc]; exact hP
    · simp only [if_neg (fun h => hc (c2.1 h))]
      exact h
/-- What was read before bit e of the digit D, behind the higher digits H. -/
def Pn (H D : Int) (e : Nat) : Int := H * 2 ^ (16 - e) + D / 2 ^ e
theorem Pn_step (H D : Int) (e : Nat) (he : e < 16) : Pn H D e = 2 * Pn H D (e + 1) + (D / 2 ^ e) % 2 := by
  unfold Pn
  rw [show 16 - e = (16 - (e + 1)) + 1 by omega, Int.pow_succ, Int.pow_succ (n := e), ← Int.ediv_ediv_of_nonneg (Int.le_of_lt (Int.pow_pos (by decide))), ← Int.mul_assoc]
  generalize H * 2 ^ (16 - (e + 1)) = u
  generalize D / 2 ^ e = v
  omega
theorem Pn_top (H D : Int) (h0 : 0 ≤ D) (h1 : D < 65536) : Pn H D 16 = H := by
  unfold Pn
  rw [show (2 : Int) ^ 16 = 65536 by decide, show (2 : Int) ^ (16 - 16) = 1 by decide]
  omega
theorem Pn_low (H D : Int) : Pn H D 0 = D + 65536 * H := by
  unfold Pn
  rw [show (2 : Int) ^ (16 - 0) = 65536 by decide, show (2 : Int) ^ 0 = 1 by decide]
  omega
theorem bit_is (D : Int) (e : Nat) (he : e < 16) (h0 : 0 ≤ D) : Int.tmod (shr .u32 D (IntKind.u64.wrap (e : Int))) 2 = (D / 2 ^ e) % 2 := by
  have h1 : IntKind.u64.wrap (e : Int) = (e : Int) := u64_in (by omega)
  have hd : 0 ≤ D / 2 ^ e := Int.ediv_nonneg h0 (Int.le_of_lt (Int.pow_pos (by decide)))
  unfold shr
  rw [h1, Int.toNat_natCast, Nat.min_eq_left (by simp [IntKind.bits]; omega), Int.tmod_eq_emod_of_nonneg hd]
/-- The bits of one digit. -/
theorem l1_loop (a c : List Int) (na nc : Bool) (da : Dg a) (dc : Dg c) (zc : Nz c) (i : Nat) (hi : i < a.length) (lc : c.length ≤ 900) (H : Int) (e : Nat) : e ≤ 16 → ∀ (q rest : List Int) (L : Nat), L + 2 * e ≤ 880 → Q q rest c (Pn H (a.getD i 0) e) L →
    ∃ q' rest', Q q' rest' c (a.getD i 0 + 65536 * H) (L + 2 * e) ∧ ∀ res, Ev (fun k => tocsinref02_Floor.l0 k q' rest' (wrap64 ((i : Int) - 1)) a na c nc) res → Ev (fun k => tocsinref02_Floor.l1 k q rest (i : Int) ((e : Int) - 1) a na c nc) res := by
  induction e with
  | zero =>
    intro _ q rest L hL hq
    rw [Pn_low] at hq
    refine ⟨q, rest, hq, fun res h => Ev.step (fun k => ?_) h⟩
    rw [tocsinref02_Floor.l1, if_neg (by omega)]
  | succ e ih =>
    intro he q rest L hL hq
    have hD := da.getD i
    obtain ⟨r2, p1, p2, p3, p4⟩ := plus_ev2 rest rest hq.dr hq.dr L (by omega) hq.lr hq.lr
    obtain ⟨r3, t1, t2, t3, t4⟩ := trim_ev r2 false (by omega) p2
    have l3 := trim_len p2 t2 t3 t4
    have hlt := hq.lt
    have heq := hq.eq
    have hstep := Pn_step H (a.getD i 0) e (by omega)
    have hbit := bit_is (a.getD i 0) e (by omega) hD.1
    have ei : ((e + 1 : Nat) : Int) - 1 = (e : Int) := by omega
    have eu : 0 ≤ IntKind.u64.wrap (e : Int) := by rw [u64_in (by omega)]; omega
    have g1 : (i : Int) < (a.length : Int) := by omega
    have fin : ∀ r4 : List Int, Dg r4 → r4.length ≤ L + 2 → V r4 = 2 * V rest + (a.getD i 0 / 2 ^ e) % 2 →
        ∃ q' rest', Q q' rest' c (a.getD i 0 + 65536 * H) (L + 2 * (e + 1)) ∧ ∀ res, Ev (fun k => tocsinref02_Floor.l0 k q' rest' (wrap64 ((i : Int) - 1)) a na c nc) res → Ev (fun k => tocsinref02_Floor.j2 k q r4 (i : Int) (e : Int) a na c nc) res := by
      intro r4 d4 l4 v4
      obtain ⟨q5, r5, h5, h6⟩ := j2_step a c na nc dc zc (i : Int) (e : Int) q r4 (Pn H (a.getD i 0) e) L (by omega) hq.dq d4 hq.lq l4 lc (by omega) (by rw [hstep, v4, ← heq]; omega)
      obtain ⟨q6, r6, h7, h8⟩ := ih (by omega) q5 r5 (L + 2) (by omega) h5
      rw [wrapN (by omega)] at h6
      exact ⟨q6, r6, by rw [show L + 2 * (e + 1) = L + 2 + 2 * e by omega]; exact h7, fun res h => h6 res (h8 res h)⟩
    by_cases hb : (a.getD i 0 / 2 ^ e) % 2 = 1
    · obtain ⟨r4, o1, o2, o3, o4⟩ := plus_ev2 r3 [1] t2 one_dg (L + 1) (by omega) (by omega) (by simp)
      obtain ⟨q', rest', h1, h2⟩ := fin r4 o2 o3 (by rw [o4, t4, p4, one_V]; omega)
      refine ⟨q', rest', h1, fun res h => Ev.step (fun k => by rw [ei, tocsinref02_Floor.l1, if_pos (by omega)]) (Ev.bind p1 (Ev.bind t1 ?_))⟩
      simp only [if_pos (show (0 : Int) ≤ (i : Int) by omega), if_pos g1, if_pos eu, rd_at, hbit, if_pos hb]
      exact Ev.bind o1 (h2 res h)
    · obtain ⟨q', rest', h1, h2⟩ := fin r3 t2 (by omega) (by rw [t4, p4]; omega)
      refine ⟨q', rest', h1, fun res h => Ev.step (fun k => by rw [ei, tocsinref02_Floor.l1, if_pos (by omega)]) (Ev.bind p1 (Ev.bind t1 ?_))⟩
      simp only [if_pos (show (0 : Int) ≤ (i : Int) by omega), if_pos g1, if_pos eu, rd_at, hbit, if_neg hb]
      exact h2 res h
/-- All digits. -/
theorem l0_loop (a c : List Int) (na nc : Bool) (da : Dg a) (dc : Dg c) (zc : Nz c) (lc : c.length ≤ 900) (i : Nat) : i ≤ a.length → ∀ (q rest : List Int) (L : Nat), L + 32 * i ≤ 880 → Q q rest c (V (a.drop i)) L →
    ∃ q' rest', Q q' rest' c (V a) (L + 32 * i) ∧ ∀ res, Ev (fun k => tocsinref02_Floor.l0 k q' rest' (-1) a na c nc) res → Ev (fun k => tocsinref02_Floor.l0 k q rest ((i : Int) - 1) a na c nc) res := by
  induction i with
  | zero =>
    intro _ q rest L hL hq
    rw [List.drop_zero] at hq
    exact ⟨q, rest, hq, fun res h => h⟩
  | succ i ih =>
    intro hi q rest L hL hq
    have hD := da.getD i
    rw [← Pn_top (V (a.drop (i + 1))) (a.getD i 0) hD.1 hD.2] at hq
    obtain ⟨q1, r1, h1, h2⟩ := l1_loop a c na nc da dc zc i (by omega) lc (V (a.drop (i + 1))) 16 (by omega) q rest L (by omega) hq
    rw [← V_drop a i] at h1
    obtain ⟨q2, r2, h3, h4⟩ := ih (by omega) q1 r1 (L + 32) (by omega) h1
    rw [wrapN (by omega)] at h2
    have ei : ((i + 1 : Nat) : Int) - 1 = (i : Int) := by omega
    refine ⟨q2, r2, by rw [show L + 32 * (i + 1) = L + 32 + 32 * i by omega]; exact h3, fun res h => Ev.step (fun k => ?_) (h2 res (h4 res h))⟩
    rw [ei, tocsinref02_Floor.l0, if_pos (by omega)]
    rfl
theorem quot_eq (v q r c : Int) (h : q * c + r = v) (h0 : 0 ≤ r) (h1 : r < c) : v / c = q ∧ v % c = r := by
  have hc : c ≠ 0 := by omega
  have e : v = r + q * c := by omega
  subst e
  rw [Int.add_mul_ediv_right _ _ hc, Int.add_mul_emod_self_right, Int.ediv_eq_zero_of_lt h0 h1, Int.emod_eq_of_lt h0 h1]
  exact ⟨by omega, rfl⟩
theorem floor_ev {a c : List Int} {na nc : Bool} {x y : Int} (wa : W a na x) (wc : W c nc y) (hy : 0 < y) (hla : a.length ≤ 20) (hlc : c.length ≤ 20) : ∃ l, Ev (fun k => tocsinref02_Floor.f k a na c nc) (l, decide (x / y < 0)) ∧ W l (decide (x / y < 0)) (x / y) := by
  obtain ⟨da, za, va, sa⟩ := wa
  obtain ⟨dc, zc, vc, sc⟩ := wc
  have hVc : V c = y := by rw [vc]; omega
  have hstart : Q [] [] c (V (a.drop a.length)) 0 := ⟨Dg.nil, Dg.nil, by simp, by simp, by rw [List.drop_length, V_nil]; simp, by rw [V_nil, hVc]; exact hy⟩
  obtain ⟨q, rest, hq, hrun⟩ := l0_loop a c na nc da dc zc (by omega) a.length (Nat.le_refl _) [] [] 0 (by omega) hstart
  obtain ⟨dq, dr, lq, lr, heq, hlt⟩ := hq
  rw [hVc] at heq hlt
  obtain ⟨l1, t1, t2, t3, t4⟩ := trim_ev q false (by omega) dq
  obtain ⟨l2, u1, u2, u3, u4⟩ := trim_ev rest false (by omega) dr
  have hq0 := V_range dq
  have hr0 := V_range dr
  have w1 : W l1 false (V q) := ⟨t2, t3, by rw [t4]; omega, (decide_eq_false (by omega)).symm⟩
  have t1' : Ev (fun k => tocsinref02_trim.f k q false) (l1, false) := by
    have e : (if V q = 0 then false else false) = false := by split <;> rfl
    rw [e] at t1; exact t1
  have n1 := trim_len dq t2 t3 t4
  have hend : ∃ l, Ev (fun k => tocsinref02_Floor.l0 k q rest (-1) a na c nc) (l, decide (x / y < 0)) ∧ W l (decide (x / y < 0)) (x / y) := by
    by_cases hx : x < 0
    · have hna : na = true := by rw [sa]; exact decide_eq_true hx
      have hxq : V q * y + V rest = -x := by rw [heq, va]; omega
      by_cases hr : V rest = 0
      · have e2 : l2 = [] := (Nz_zero u2 u3).2 (by rw [u4]; exact hr)
        obtain ⟨l3, v1, v2⟩ := turn_ev w1 (by omega)
        have ex : x / y = -V q := (quot_eq x (-V q) 0 y (by rw [Int.neg_mul]; omega) (by omega) hy).1
        rw [ex]
        refine ⟨l3, Ev.step (fun k => by rw [tocsinref02_Floor.l0, if_neg (by omega)]) (Ev.bind t1' ?_), v2⟩
        simp only [if_pos hna]
        refine Ev.bind u1 ?_
        have g : ¬ (l2.length : Int) > 0 := by rw [e2]; simp
        simp only [if_neg g]
        exact Ev.bind v1 (Ev.now _)
      · have e2 : l2 ≠ [] := fun e => hr (by rw [← u4]; exact (Nz_zero u2 u3).1 e)
        obtain ⟨lo, o1, o2⟩ := of_ev 1 (by decide)
        have no := o2.len 4 (by rw [B4]; decide)
        obtain ⟨ls, s1, s2⟩ := add_ev w1 o2 (by omega) (by omega)
        have ns : ls.length ≤ 1000 := by
          have := s2.len 700 (by
            have h1 := Bmono (show q.length ≤ 699 by omega)
            have h2 := Bpos 699
            rw [show (700 : Nat) = 699 + 1 from rfl, Bs]
            omega)
          omega
        obtain ⟨l3, v1, v2⟩ := turn_ev s2 ns
        have ex : x / y = -(V q + 1) := (quot_eq x (-(V q + 1)) (y - V rest) y (by rw [Int.neg_mul, Int.add_mul]; omega) (by omega) (by omega)).1
        rw [ex]
        refine ⟨l3, Ev.step (fun k => by rw [tocsinref02_Floor.l0, if_neg (by omega)]) (Ev.bind t1' ?_), v2⟩
        simp only [if_pos hna]
        refine Ev.bind u1 ?_
        have g : (l2.length : Int) > 0 := by have := List.length_pos_iff.2 e2; omega
        simp only [if_pos g]
        exact Ev.bind o1 (Ev.bind s1 (Ev.bind v1 (Ev.now _)))
    · have hna : na = false := by rw [sa]; exact decide_eq_false hx
      have ex : x / y = V q := (quot_eq x (V q) (V rest) y (by rw [heq, va]; omega) (by omega) hlt).1
      rw [ex, decide_eq_false (by omega)]
      refine ⟨l1, Ev.step (fun k => by rw [tocsinref02_Floor.l0, if_neg (by omega)]) (Ev.bind t1' ?_), w1⟩
      simp only [if_neg (show ¬ na = true by rw [hna]; decide)]
      exact Ev.now _
  obtain ⟨l, f1, f2⟩ := hend
  refine ⟨l, Ev.congr (fun k => ?_) (hrun _ f1), f2⟩
  unfold tocsinref02_Floor.f
  rw [wrapN (by omega)]
theorem mul_bound {a b : Int} (ha : Hd.inR a) (hb : Hd.inR b) : ((a * b).natAbs : Int) < B 9 := by
  obtain ⟨a0, a1⟩ := ha
  obtain ⟨b0, b1⟩ := hb
  rw [Int.natAbs_mul, Int.natCast_mul]
  have h := mul_lt (x := (a.natAbs : Int)) (y := (b.natAbs : Int)) (X := B 4) (Y := B 4) (by omega) (by rw [B4]; omega) (by omega) (by rw [B4]; omega)
  rw [← Badd] at h
  exact Int.lt_of_lt_of_le h (Bmono (by decide))
theorem half_ref {a b : Int} (ha : Hd.inR a) (hb : Hd.inR b) : Ev (fun k => tocsinref02_Half.f k a b) ((a + b) / 2) := by
  obtain ⟨la, oa, wa⟩ := of_ev a ha
  obtain ⟨lb, ob, wb⟩ := of_ev b hb
  obtain ⟨l2, o2, w2⟩ := of_ev 2 (by decide)
  have na := wa.len 4 (by rw [B4]; have := ha.1; have := ha.2; omega)
  have nb := wb.len 4 (by rw [B4]; have := hb.1; have := hb.2; omega)
  have n2 := w2.len 4 (by rw [B4]; decide)
  obtain ⟨ls, s1, ws⟩ := add_ev wa wb (by omega) (by omega)
  have ns := ws.len 5 (by rw [show (5 : Nat) = 4 + 1 from rfl, Bs, B4]; have := ha.1; have := ha.2; have := hb.1; have := hb.2; omega)
  obtain ⟨lf, f1, wf⟩ := floor_ev ws w2 (by decide) (by omega) (by omega)
  have hin : Hd.inR ((a + b) / 2) := by unfold Hd.inR at *; omega
  have hi := int_ev wf
  rw [Law1.val_in hin] at hi
  exact Ev.bind oa (Ev.bind ob (Ev.bind s1 (Ev.bind o2 (Ev.bind f1 (Ev.bind hi (Ev.now _))))))
theorem muldiv_ref {a b c : Int} (ha : Hd.inR a) (hb : Hd.inR b) (hc : Hd.inR c) (h0 : 0 < c) : Ev (fun k => tocsinref02_MulDiv.f k a b c) (Hd.val (a * b / c), Hd.err (a * b / c)) := by
  obtain ⟨la, oa, wa⟩ := of_ev a ha
  obtain ⟨lb, ob, wb⟩ := of_ev b hb
  obtain ⟨lc, oc, wc⟩ := of_ev c hc
  have na := wa.len 4 (by rw [B4]; have := ha.1; have := ha.2; omega)
  have nb := wb.len 4 (by rw [B4]; have := hb.1; have := hb.2; omega)
  have nc := wc.len 4 (by rw [B4]; have := hc.1; have := hc.2; omega)
  obtain ⟨lm, m1, wm⟩ := mul_ev wa wb (by omega) (by omega)
  have nm := wm.len 9 (mul_bound ha hb)
  obtain ⟨lf, f1, wf⟩ := floor_ev wm wc h0 (by omega) (by omega)
  unfold tocsinref02_MulDiv.f
  simp only [if_neg (show ¬ c ≤ 0 by omega)]
  exact Ev.bind oa (Ev.bind ob (Ev.bind m1 (Ev.bind oc (Ev.bind f1 (Ev.bind (int_ev wf) (Ev.now _))))))
theorem divides : tocsinlaw02_TickDivides.Pure := by
  intro a b c ha hb hc
  have ra := Law1.wf64 ha
  have rb := Law1.wf64 hb
  have rc := Law1.wf64 hc
  have hh := Law1.half_eq a b ra rb
  refine Ev.rounds (g := fun k => tocsinlaw02_TickDivides.f k a b c) (r := true) ?_
  unfold tocsinlaw02_TickDivides.f
  simp only [Law1.fixed_true, Option.bind_some, if_true]
  by_cases h0 : c ≤ 0
  · have e : Hd.tick_MulDiv.f a b c = some (0, 1) := by unfold Hd.tick_MulDiv.f; rw [if_pos ⟨ra, rb, rc⟩, if_pos h0]
    have er : Ev (fun k => tocsinref02_MulDiv.f k a b c) ((0 : Int), (1 : Int)) := by unfold tocsinref02_MulDiv.f; simp only [if_pos h0]; exact Ev.now _
    simp only [e, Option.bind_some]
    refine Ev.bind er ?_
    simp only [if_true, hh, Option.bind_some]
    refine Ev.bind (half_ref ra rb) ?_
    simp only [beq_self_eq_true]
    exact Ev.now true
  · have e := Law1.muldiv_in ra rb rc (show 0 < c by omega)
    simp only [e, Option.bind_some]
    refine Ev.bind (muldiv_ref ra rb rc (by omega)) ?_
    simp only [if_true, hh, Option.bind_some]
    refine Ev.bind (half_ref ra rb) ?_
    simp only [beq_self_eq_true]
    exact Ev.now true
end Go.Proofs.YtccicjiadahmnaaDoor.Dig
