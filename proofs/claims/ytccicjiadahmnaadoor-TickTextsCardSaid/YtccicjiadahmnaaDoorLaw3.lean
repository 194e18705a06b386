/- Numbers as texts: the plain law. -/
import Derived.Test.YtccicjiadahmnaaDoorDec
import Derived.Test.YtccicjiadahmnaaDoorLaw1
import Derived.Test.YtccicjiadahmnaaDoorT4
import Derived.Laws.Strings
import Derived.Lib.ItoaLen
namespace Go.Proofs.YtccicjiadahmnaaDoor.Law3
open Go.RowKit Go.Proofs.YtccicjiadahmnaaDoor Go.Proofs.YtccicjiadahmnaaDoor.T Go.Proofs.YtccicjiadahmnaaDoor.Dec Go.Proofs.YtccicjiadahmnaaDoor.Law1 Go.Proofs.YtccicjiadahmnaaDoorW.PrintWords Go.Proofs.YtccicjiadahmnaaDoorW.PrintLast Go.Proofs.YtccicjiadahmnaaDoorW.PrintMore
set_option linter.unusedVariables false
set_option maxRecDepth 4000

theorem size_eq (s : ByteArray) : s.size = s.data.toList.length := by rw [Array.length_toList]; rfl
theorem bt_get (s : ByteArray) (i : Nat) : bt s (i : Int) = ((s.data.toList.getD i 0).toNat : Int) := by
  unfold bt
  simp only [Int.toNat_natCast]
  rw [List.getD_eq_getElem?_getD]
  by_cases h : i < s.size
  · rw [dif_pos h, List.getElem?_eq_getElem (by rw [← size_eq]; exact h)]
    rfl
  · rw [dif_neg h, List.getElem?_eq_none (by rw [← size_eq]; omega)]
    rfl
theorem data_inj {s t : ByteArray} (h : s.data.toList = t.data.toList) : s = t := ByteArray.ext (Array.ext' h)
theorem text_data (v : Int) : (Hd.text v).data.toList = Lib.itoa v := rfl
/-- What the reader answers. -/
theorem read_own (v : Int) (hv : Hd.inR v) : Hd.readN (Hd.text v) = (v, 0) := by
  unfold Hd.readN
  rw [text_data, parse_itoa v hv.1 hv.2]
  simp
theorem read_other (s : ByteArray) (h : ∀ v, Hd.inR v → Hd.text v ≠ s) : Hd.readN s = (0, 2) := by
  unfold Hd.readN
  split
  · rename_i v hv
    have hr := parse_range _ _ hv
    rw [if_neg]
    intro e
    rw [ByteArray.toList_eq, ByteArray.toList_eq] at e
    exact h v hr (data_inj e)
  · rfl
theorem u64_in {x : Int} (h : 0 ≤ x ∧ x < 18446744073709551616) : IntKind.u64.wrap x = x := by
  simp [IntKind.wrap, IntKind.signed, IntKind.bits]
  omega
/-- The reference's loop: the digits are spelt together. -/
theorem loop_ok (s : ByteArray) (neg : Bool) (at_ : Int) (hs : s.size < 100) (r : Int × Int) (d : Nat) : ∀ (i j m : Nat), i + d = s.size → j + d ≤ 19 → m < 10 ^ j → (∀ c ∈ s.data.toList.drop i, Dig c) →
    Ev (fun k => tocsinref02_Parse.l0 k s neg at_ ((val m (s.data.toList.drop i) : Nat) : Int) (s.size : Int)) r → Ev (fun k => tocsinref02_Parse.l0 k s neg at_ (m : Int) (i : Int)) r := by
  induction d with
  | zero =>
    intro i j m hi _ _ _ hr
    rw [List.drop_of_length_le (by rw [← size_eq]; omega), val_nil] at hr
    rw [show i = s.size by omega]
    exact hr
  | succ d ih =>
    intro i j m hi hj hm hd hr
    have hlt : i < s.data.toList.length := by rw [← size_eq]; omega
    rw [List.drop_eq_getElem_cons hlt] at hd hr
    have hg : s.data.toList.getD i 0 = s.data.toList[i] := by rw [List.getD_eq_getElem?_getD, List.getElem?_eq_getElem hlt]; rfl
    have hb := bt_get s i
    rw [hg] at hb
    generalize s.data.toList[i] = c at *
    have hc := hd c (List.mem_cons_self ..)
    unfold Dig at hc
    have hp : (10 : Nat) ^ j ≤ 10 ^ 18 := Nat.pow_le_pow_right (by decide) (by omega)
    have hp' : (10 : Nat) ^ 18 = 1000000000000000000 := by decide
    rw [val_cons] at hr
    refine Ev.step (f := fun k => tocsinref02_Parse.l0 k s neg at_ ((m * 10 + (c.toNat - 48) : Nat) : Int) ((i + 1 : Nat) : Int)) (fun k => ?_) (ih (i + 1) (j + 1) _ (by omega) (by omega) (by rw [Nat.pow_succ]; omega) (fun x hx => hd x (List.mem_cons_of_mem _ hx)) hr)
    rw [tocsinref02_Parse.l0, if_pos (by omega), if_pos (by omega), hb, if_neg (by omega), if_neg (by omega), u64_in (x := (m : Int) * 10) (by omega), u64_in (by omega), wrap_in (by unfold Hd.inR; omega)]
    congr 1
    omega
theorem loop_bad (s : ByteArray) (neg : Bool) (at_ : Int) (hs : s.size < 100) (d : Nat) : ∀ (i : Nat) (m : Int), i + d = s.size → (¬ ∀ c ∈ s.data.toList.drop i, Dig c) →
    Ev (fun k => tocsinref02_Parse.l0 k s neg at_ m (i : Int)) ((0 : Int), (2 : Int)) := by
  induction d with
  | zero =>
    intro i m hi hd
    rw [List.drop_of_length_le (by rw [← size_eq]; omega)] at hd
    exact absurd (fun c hc => by cases hc) hd
  | succ d ih =>
    intro i m hi hd
    have hlt : i < s.data.toList.length := by rw [← size_eq]; omega
    rw [List.drop_eq_getElem_cons hlt] at hd
    have hg : s.data.toList.getD i 0 = s.data.toList[i] := by rw [List.getD_eq_getElem?_getD, List.getElem?_eq_getElem hlt]; rfl
    have hb := bt_get s i
    rw [hg] at hb
    generalize s.data.toList[i] = c at *
    by_cases hc : Dig c
    · have hd' : ¬ ∀ c ∈ s.data.toList.drop (i + 1), Dig c := fun h => hd fun x hx => by
        rcases List.mem_cons.1 hx with rfl | hx
        · exact hc
        · exact h x hx
      unfold Dig at hc
      refine Ev.step (f := fun k => tocsinref02_Parse.l0 k s neg at_ (IntKind.u64.wrap ((IntKind.u64.wrap (m * 10)) + (((c.toNat : Int) - 48) % 256))) ((i + 1 : Nat) : Int)) (fun k => ?_) (ih (i + 1) _ (by omega) hd')
      rw [tocsinref02_Parse.l0, if_pos (by omega), if_pos (by omega), hb, if_neg (by omega), if_neg (by omega), wrap_in (by unfold Hd.inR; omega)]
      rfl
    · unfold Dig at hc
      refine Ev.step (f := fun _ => some ((0 : Int), (2 : Int))) (fun k => ?_) (Ev.now _)
      rw [tocsinref02_Parse.l0, if_pos (by omega), if_pos (by omega), hb]
      by_cases h1 : ((c.toNat : Int)) < 48
      · rw [if_pos h1]
      · rw [if_neg h1, if_pos (by omega)]
theorem j4_ev (neg : Bool) (m : Int) (b : Bool) : Ev (fun k => tocsinref02_Parse.j4 k neg m b) (if b = true then (0, 2) else if neg = true then (wrap64 (IntKind.u64.wrap (-m)), 0) else (wrap64 m, 0)) := by
  refine Ev.step (f := fun _ => some (if b = true then ((0 : Int), (2 : Int)) else if neg = true then (wrap64 (IntKind.u64.wrap (-m)), 0) else (wrap64 m, 0))) (fun k => ?_) (Ev.now _)
  rw [tocsinref02_Parse.j4]
  cases b <;> cases neg <;> rfl
/-- The end of the loop. -/
theorem end_ev (s : ByteArray) (neg : Bool) (at_ : Nat) (hat : at_ < s.size) (m : Int) : Ev (fun k => tocsinref02_Parse.l0 k s neg at_ m (s.size : Int))
    (if ((bt s at_ = 48 ∧ 1 < s.size) ∨ (neg = true ∧ m > 9223372036854775808) ∨ (neg = false ∧ m ≥ 9223372036854775808)) then (0, 2) else if neg = true then (wrap64 (IntKind.u64.wrap (-m)), 0) else (wrap64 m, 0)) := by
  have key : ∀ b : Bool, (b = true ↔ ((bt s at_ = 48 ∧ 1 < s.size) ∨ (neg = true ∧ m > 9223372036854775808) ∨ (neg = false ∧ m ≥ 9223372036854775808))) → (∀ k, tocsinref02_Parse.l0 (k + 1) s neg at_ m (s.size : Int) = tocsinref02_Parse.j4 k neg m b) →
      Ev (fun k => tocsinref02_Parse.l0 k s neg at_ m (s.size : Int)) (if ((bt s at_ = 48 ∧ 1 < s.size) ∨ (neg = true ∧ m > 9223372036854775808) ∨ (neg = false ∧ m ≥ 9223372036854775808)) then (0, 2) else if neg = true then (wrap64 (IntKind.u64.wrap (-m)), 0) else (wrap64 m, 0)) := by
    intro b hb hk
    have h := j4_ev neg m b
    by_cases hc : b = true
    · rw [if_pos hc] at h
      rw [if_pos (hb.1 hc)]
      exact Ev.step hk h
    · rw [if_neg hc] at h
      rw [if_neg (fun e => hc (hb.2 e))]
      exact Ev.step hk h
  by_cases h48 : bt s at_ = 48
  · by_cases h1 : 1 < s.size
    · exact key true (by simp [h48, h1]) (fun k => by rw [tocsinref02_Parse.l0, if_neg (by omega), if_pos (by omega), if_pos (by omega), if_pos h48, if_pos (by omega)])
    · cases neg with
      | true => exact key (decide (m > 9223372036854775808)) (by simp [h1]) (fun k => by rw [tocsinref02_Parse.l0, if_neg (by omega), if_pos (by omega), if_pos (by omega), if_pos h48, if_neg (by omega), if_pos rfl])
      | false =>
        by_cases hm : m ≥ 9223372036854775808
        · exact key true (by simp [hm]) (fun k => by rw [tocsinref02_Parse.l0, if_neg (by omega), if_pos (by omega), if_pos (by omega), if_pos h48, if_neg (by omega), if_neg (by decide), if_pos hm])
        · exact key false (by simp [hm, h1]; try omega) (fun k => by rw [tocsinref02_Parse.l0, if_neg (by omega), if_pos (by omega), if_pos (by omega), if_pos h48, if_neg (by omega), if_neg (by decide), if_neg hm])
  · cases neg with
    | true => exact key (decide (m > 9223372036854775808)) (by simp [h48]) (fun k => by rw [tocsinref02_Parse.l0, if_neg (by omega), if_pos (by omega), if_pos (by omega), if_neg h48, if_pos rfl])
    | false =>
      by_cases hm : m ≥ 9223372036854775808
      · exact key true (by simp [hm]) (fun k => by rw [tocsinref02_Parse.l0, if_neg (by omega), if_pos (by omega), if_pos (by omega), if_neg h48, if_neg (by decide), if_pos hm])
      · exact key false (by simp [hm, h48]; try omega) (fun k => by rw [tocsinref02_Parse.l0, if_neg (by omega), if_pos (by omega), if_pos (by omega), if_neg h48, if_neg (by decide), if_neg hm])
/-- Behind the sign. -/
theorem body_ev (s : ByteArray) (neg : Bool) (a : Nat) (ha : a ≤ s.size) (hs : s.size ≤ 140737488351232) (r : Int × Int)
    (h : (s.size < a + 1 ∨ a + 19 < s.size) ∧ r = (0, 2) ∨ (a < s.size ∧ s.size ≤ a + 19 ∧ (¬ ∀ c ∈ s.data.toList.drop a, Dig c) ∧ r = (0, 2)) ∨
      (a < s.size ∧ s.size ≤ a + 19 ∧ (∀ c ∈ s.data.toList.drop a, Dig c) ∧ Ev (fun k => tocsinref02_Parse.l0 k s neg (a : Int) ((val 0 (s.data.toList.drop a) : Nat) : Int) (s.size : Int)) r)) (hneg : a ≤ 1) :
    Ev (fun k => tocsinref02_Parse.j1 k s neg (a : Int)) r := by
  have hj : Ev (fun k => tocsinref02_Parse.j2 k s neg (a : Int) (decide (s.size < a + 1 ∨ a + 19 < s.size))) r := by
    rcases h with ⟨h, rfl⟩ | ⟨h1, h2, h3, rfl⟩ | ⟨h1, h2, h3, h4⟩
    · refine Ev.step (f := fun _ => some ((0 : Int), (2 : Int))) (fun k => ?_) (Ev.now _)
      rw [tocsinref02_Parse.j2, if_pos (decide_eq_true h)]
    · refine Ev.step (f := fun k => tocsinref02_Parse.l0 k s neg (a : Int) 0 (a : Int)) (fun k => ?_) (loop_bad s neg a (by omega) (s.size - a) a 0 (by omega) h3)
      rw [tocsinref02_Parse.j2, if_neg (by rw [decide_eq_true_eq]; omega)]
    · refine Ev.step (f := fun k => tocsinref02_Parse.l0 k s neg (a : Int) ((0 : Nat) : Int) (a : Int)) (fun k => ?_) (loop_ok s neg a (by omega) r (s.size - a) a 0 0 (by omega) (by omega) (by decide) h3 h4)
      rw [tocsinref02_Parse.j2, if_neg (by rw [decide_eq_true_eq]; omega)]
      rfl
  refine Ev.step (f := fun k => tocsinref02_Parse.j2 k s neg (a : Int) (decide (s.size < a + 1 ∨ a + 19 < s.size))) (fun k => ?_) hj
  rw [tocsinref02_Parse.j1, wrap_in (by unfold Hd.inR; omega)]
  by_cases h1 : (s.size : Int) - (a : Int) < 1
  · rw [if_pos h1, decide_eq_true (p := s.size < a + 1 ∨ a + 19 < s.size) (by omega)]
  · rw [if_neg h1]
    congr 1
    apply decide_eq_decide.2
    omega
/-- The sign. -/
def sgn (s : ByteArray) : Bool := s.data.toList.head? == some 45
theorem head_ev (s : ByteArray) (r : Int × Int) (h : Ev (fun k => tocsinref02_Parse.j1 k s (sgn s) (if sgn s = true then 1 else 0)) r) : Ev (fun k => tocsinref02_Parse.f k s) r := by
  have hj : Ev (fun k => tocsinref02_Parse.j0 k s (sgn s)) r := by
    refine Ev.step (fun k => ?_) h
    rw [tocsinref02_Parse.j0]
    cases sgn s <;> rfl
  refine Ev.congr (fun k => ?_) hj
  unfold tocsinref02_Parse.f
  have hb := bt_get s 0
  by_cases hz : (s.size : Int) > 0
  · rw [if_pos hz, if_pos (by omega)]
    congr 1
    rw [show (0 : Int) = ((0 : Nat) : Int) from rfl, hb]
    unfold sgn
    rw [size_eq] at hz
    cases hd : s.data.toList with
    | nil => rw [hd] at hz; simp at hz
    | cons c l =>
      rw [Bool.eq_iff_iff, beq_iff_eq, beq_iff_eq]
      simp only [List.getD_cons_zero, List.head?_cons, Option.some.injEq]
      constructor
      · intro e
        have : c.toNat = 45 := by omega
        rw [← of_toNat c, this]
        rfl
      · rintro rfl
        rfl
  · rw [if_neg hz]
    congr 1
    unfold sgn
    rw [size_eq] at hz
    cases hd : s.data.toList with
    | nil => rfl
    | cons c l => rw [hd] at hz; simp at hz
/-- The reference reads its own. -/
theorem ref_own (v : Int) (hv : Hd.inR v) : Ev (fun k => tocsinref02_Parse.f k (Hd.text v)) (v, 0) := by
  obtain ⟨v0, v1⟩ := hv
  refine head_ev _ _ ?_
  have hsz := size_eq (Hd.text v)
  rw [text_data] at hsz
  by_cases hn : v < 0
  · have hi : Lib.itoa v = 45 :: Lib.decDigits v.natAbs := by unfold Lib.itoa; rw [if_pos hn]
    obtain ⟨d1, d2, d3, d4⟩ := dec_ok v.natAbs
    have dl := dec_len 18 v.natAbs (by omega)
    have dp : 0 < (Lib.decDigits v.natAbs).length := List.length_pos_iff.2 d1
    have hs : sgn (Hd.text v) = true := by unfold sgn; rw [text_data, hi]; rfl
    have hdrop : (Hd.text v).data.toList.drop 1 = Lib.decDigits v.natAbs := by rw [text_data, hi]; rfl
    rw [hi, List.length_cons] at hsz
    rw [hs]
    have h := end_ev (Hd.text v) true 1 (by omega) ((v.natAbs : Nat) : Int)
    rw [if_neg, if_pos rfl] at h
    · refine body_ev (Hd.text v) true 1 (by omega) (by omega) _ (.inr (.inr ⟨by omega, by omega, by rw [hdrop]; exact d2, ?_⟩)) (by omega)
      rw [hdrop, d3]
      have e : wrap64 (IntKind.u64.wrap (-(v.natAbs : Int))) = v := by
        simp [wrap64, IntKind.wrap, IntKind.signed, IntKind.bits]
        omega
      rw [e] at h
      exact h
    · rintro (⟨h1, _⟩ | ⟨_, h1⟩ | ⟨h1, _⟩)
      · rw [bt_get, text_data, hi] at h1
        cases hdd : Lib.decDigits v.natAbs with
        | nil => exact d1 hdd
        | cons c l =>
          rw [hdd] at h1 d4
          simp only [List.getD_cons_succ, List.getD_cons_zero] at h1
          have hc : c.toNat = 48 := by omega
          have : c = 48 := by rw [← of_toNat c, hc]; rfl
          subst this
          have := d4 rfl
          omega
      · omega
      · cases h1
  · have hi : Lib.itoa v = Lib.decDigits v.toNat := by unfold Lib.itoa; rw [if_neg hn]
    obtain ⟨d1, d2, d3, d4⟩ := dec_ok v.toNat
    have dl := dec_len 18 v.toNat (by omega)
    have dp : 0 < (Lib.decDigits v.toNat).length := List.length_pos_iff.2 d1
    have hs : sgn (Hd.text v) = false := by
      unfold sgn
      rw [text_data, hi]
      cases hdd : Lib.decDigits v.toNat with
      | nil => exact absurd hdd d1
      | cons c l =>
        have hc := d2 c (by rw [hdd]; exact List.mem_cons_self ..)
        unfold Dig at hc
        simp only [List.head?_cons, beq_eq_false_iff_ne, ne_eq, Option.some.injEq]
        rintro rfl
        exact absurd hc (by decide)
    have hdrop : (Hd.text v).data.toList.drop 0 = Lib.decDigits v.toNat := by rw [text_data, hi]; rfl
    rw [hi] at hsz
    rw [hs]
    have h := end_ev (Hd.text v) false 0 (by omega) ((v.toNat : Nat) : Int)
    rw [if_neg, if_neg (by decide)] at h
    · refine body_ev (Hd.text v) false 0 (by omega) (by omega) _ (.inr (.inr ⟨by omega, by omega, by rw [hdrop]; exact d2, ?_⟩)) (by omega)
      rw [hdrop, d3]
      have e : wrap64 ((v.toNat : Nat) : Int) = v := by
        rw [wrap_in (by unfold Hd.inR; omega)]
        omega
      rw [e] at h
      exact h
    · rintro (⟨h1, h2⟩ | ⟨h1, _⟩ | ⟨_, h1⟩)
      · rw [bt_get, text_data, hi] at h1
        cases hdd : Lib.decDigits v.toNat with
        | nil => exact d1 hdd
        | cons c l =>
          have hlen := dl
          rw [hdd] at h1 d4
          simp only [List.getD_cons_zero] at h1
          have hc : c.toNat = 48 := by omega
          have : c = 48 := by rw [← of_toNat c, hc]; rfl
          subst this
          have hz := d4 rfl
          rw [hz, Lib.decDigits_one (by decide)] at hsz
          simp at hsz
          omega
      · cases h1
      · omega
theorem sgn_data {s : ByteArray} (h : sgn s = true) : s.data.toList = 45 :: s.data.toList.drop 1 := by
  unfold sgn at h
  rw [beq_iff_eq] at h
  cases hd : s.data.toList with
  | nil => rw [hd] at h; cases h
  | cons c l =>
    rw [hd] at h
    simp only [List.head?_cons, Option.some.injEq] at h
    subst h
    rfl
/-- The reference refuses what is no number's text. -/
theorem ref_other (s : ByteArray) (hs : s.size ≤ 140737488351232) (hno : ∀ v, Hd.inR v → Hd.text v ≠ s) : Ev (fun k => tocsinref02_Parse.f k s) ((0 : Int), (2 : Int)) := by
  refine head_ev _ _ ?_
  have hsz := size_eq s
  by_cases hn : sgn s = true
  · have hl := sgn_data hn
    have hlen : s.data.toList.length = (s.data.toList.drop 1).length + 1 := congrArg List.length hl
    rw [hn]
    refine body_ev s true 1 (by omega) hs _ ?_ (by omega)
    by_cases h1 : s.size < 1 + 1 ∨ 1 + 19 < s.size
    · exact .inl ⟨h1, rfl⟩
    by_cases hd : ∀ c ∈ s.data.toList.drop 1, Dig c
    · refine .inr (.inr ⟨by omega, by omega, hd, ?_⟩)
      have h := end_ev s true 1 (by omega) ((val 0 (s.data.toList.drop 1) : Nat) : Int)
      rw [if_pos] at h
      · exact h
      · by_cases h48 : bt s ((1 : Nat) : Int) = 48
        · exact .inl ⟨h48, by omega⟩
        by_cases hm : ((val 0 (s.data.toList.drop 1) : Nat) : Int) > 9223372036854775808
        · exact .inr (.inl ⟨rfl, hm⟩)
        exfalso
        have hh : (s.data.toList.drop 1).head? ≠ some 48 := by
          intro e
          apply h48
          rw [bt_get, hl]
          cases hdd : s.data.toList.drop 1 with
          | nil => rw [hdd] at e; cases e
          | cons c l =>
            rw [hdd] at e
            simp only [List.head?_cons, Option.some.injEq] at e
            subst e
            rfl
        have hc := dec_canon ((s.data.toList.drop 1).length - 1) (s.data.toList.drop 1) (by omega) hd (fun e => absurd e hh)
        have hz : val 0 (s.data.toList.drop 1) ≠ 0 := by
          intro e
          rw [e, Lib.decDigits_one (by decide)] at hc
          rw [← hc] at hh
          exact hh rfl
        refine hno (-((val 0 (s.data.toList.drop 1) : Nat) : Int)) (by unfold Hd.inR; omega) (data_inj ?_)
        rw [text_data]
        refine Eq.trans ?_ hl.symm
        unfold Lib.itoa
        rw [if_pos (by omega), show (-((val 0 (s.data.toList.drop 1) : Nat) : Int)).natAbs = val 0 (s.data.toList.drop 1) by omega, hc]
    · exact .inr (.inl ⟨by omega, by omega, hd, rfl⟩)
  · have hn' : sgn s = false := by simpa using hn
    rw [hn']
    refine body_ev s false 0 (by omega) hs _ ?_ (by omega)
    by_cases h1 : s.size < 0 + 1 ∨ 0 + 19 < s.size
    · exact .inl ⟨h1, rfl⟩
    by_cases hd : ∀ c ∈ s.data.toList.drop 0, Dig c
    · refine .inr (.inr ⟨by omega, by omega, hd, ?_⟩)
      have h := end_ev s false 0 (by omega) ((val 0 (s.data.toList.drop 0) : Nat) : Int)
      rw [if_pos] at h
      · exact h
      · by_cases h48 : bt s ((0 : Nat) : Int) = 48 ∧ 1 < s.size
        · exact .inl h48
        by_cases hm : ((val 0 (s.data.toList.drop 0) : Nat) : Int) ≥ 9223372036854775808
        · exact .inr (.inr ⟨rfl, hm⟩)
        exfalso
        rw [List.drop_zero] at hd hm
        have hh : s.data.toList.head? = some 48 → s.data.toList.length = 1 := by
          intro e
          have h2 : bt s ((0 : Nat) : Int) = 48 := by
            rw [bt_get]
            cases hdd : s.data.toList with
            | nil => rw [hdd] at e; cases e
            | cons c l =>
              rw [hdd] at e
              simp only [List.head?_cons, Option.some.injEq] at e
              subst e
              rfl
          have h3 : ¬ 1 < s.size := fun h3 => h48 ⟨h2, h3⟩
          omega
        have hc := dec_canon (s.data.toList.length - 1) s.data.toList (by omega) hd hh
        refine hno ((val 0 s.data.toList : Nat) : Int) (by unfold Hd.inR; omega) (data_inj ?_)
        rw [text_data]
        unfold Lib.itoa
        rw [if_neg (by omega), Int.toNat_natCast, hc]
    · exact .inr (.inl ⟨by omega, by omega, hd, rfl⟩)
/-- The reference's print: the digits, the last first. -/
def ints (l : List UInt8) : List Int := l.map fun c => (c.toNat : Int)
theorem pdigits (n : Int) (r : ByteArray) (d : Nat) : ∀ (m : Nat) (back : List Int), m < 10 ^ (d + 1) → m < 18446744073709551616 → back.length + d ≤ 100 → (0 < m ∨ back = []) →
    Ev (fun k => tocsinref02_Print.l0 k n 0 (back ++ (ints (Lib.decDigits m)).reverse)) r → Ev (fun k => tocsinref02_Print.l0 k n (m : Int) back) r := by
  induction d with
  | zero =>
    intro m back hm hm2 hb h0 hr
    have hm' : m < 10 := by simpa using hm
    rw [Lib.decDigits_one hm'] at hr
    have e : (IntKind.u64.wrap (48 + Int.tmod (m : Int) 10)) % 256 = 48 + (m : Int) := by
      rw [Int.tmod_eq_emod_of_nonneg (by omega), u64_in (by omega)]
      omega
    have e2 : IntKind.u64.wrap (Int.tdiv (m : Int) 10) = 0 := by
      rw [Int.tdiv_eq_ediv_of_nonneg (by omega), u64_in (by omega)]
      omega
    have e3 : (ints [UInt8.ofNat (48 + m)]).reverse = [48 + (m : Int)] := by
      simp only [ints, List.map_cons, List.map_nil, List.reverse_singleton, toNat_of (n := 48 + m) (by omega)]
      congr 1
    rw [e3] at hr
    refine Ev.step (f := fun k => tocsinref02_Print.l0 k n 0 (back ++ [48 + (m : Int)])) (fun k => ?_) hr
    rw [tocsinref02_Print.l0, e, e2, if_pos (show back.length < 140737488355328 by omega)]
    by_cases hp : (m : Int) > 0
    · rw [if_pos hp]
    · rw [if_neg hp, if_pos (by rcases h0 with h0 | rfl <;> first | omega | rfl)]
  | succ d ih =>
    intro m back hm hm2 hb h0 hr
    have e : (IntKind.u64.wrap (48 + Int.tmod (m : Int) 10)) % 256 = 48 + ((m % 10 : Nat) : Int) := by
      rw [Int.tmod_eq_emod_of_nonneg (by omega), u64_in (by omega)]
      omega
    have e2 : IntKind.u64.wrap (Int.tdiv (m : Int) 10) = ((m / 10 : Nat) : Int) := by
      rw [Int.tdiv_eq_ediv_of_nonneg (by omega), u64_in (by omega)]
      omega
    by_cases hm10 : m < 10
    · exact ih m back (Nat.lt_of_lt_of_le hm10 (by rw [Nat.pow_succ]; have : 1 ≤ 10 ^ d := Nat.one_le_pow _ _ (by decide); omega)) hm2 (by omega) h0 hr
    · have hdd : (ints (Lib.decDigits m)).reverse = (48 + ((m % 10 : Nat) : Int)) :: (ints (Lib.decDigits (m / 10))).reverse := by
        rw [Lib.decDigits, dif_neg hm10]
        simp only [ints, List.map_append, List.map_cons, List.map_nil, List.reverse_append, List.reverse_singleton, toNat_of (n := 48 + m % 10) (by omega), List.singleton_append]
        congr 1
      rw [hdd] at hr
      refine Ev.step (f := fun k => tocsinref02_Print.l0 k n ((m / 10 : Nat) : Int) (back ++ [48 + ((m % 10 : Nat) : Int)])) (fun k => ?_) (ih (m / 10) _ (by rw [Nat.pow_succ] at hm; omega) (by omega) (by simp; omega) (.inl (by omega)) (by simpa using hr))
      rw [tocsinref02_Print.l0, e, e2, if_pos (show back.length < 140737488355328 by omega), if_pos (by omega)]
theorem pback (back : List Int) (hb : back.length ≤ 1000) (d : Nat) : ∀ out : List Int, d ≤ back.length → out.length + d ≤ 2000 →
    Ev (fun k => tocsinref02_Print.l1 k back out ((d : Int) - 1)) (strOfNums (out ++ (back.take d).reverse)) := by
  induction d with
  | zero =>
    intro out _ _
    refine Ev.step (f := fun _ => some (strOfNums out)) (fun k => ?_) (by simpa using Ev.now (strOfNums out))
    rw [tocsinref02_Print.l1, if_neg (by omega)]
  | succ d ih =>
    intro out hd ho
    have er : rd back (((d + 1 : Nat) : Int) - 1) = back.getD d 0 := by rw [show ((d + 1 : Nat) : Int) - 1 = (d : Int) by omega]; simp [rd]
    have ht : (back.take (d + 1)).reverse = back.getD d 0 :: (back.take d).reverse := by
      rw [List.take_succ_eq_append_getElem (by omega), List.getD_eq_getElem?_getD, List.getElem?_eq_getElem (by omega)]
      simp
    rw [ht]
    refine Ev.step (f := fun k => tocsinref02_Print.l1 k back (out ++ [back.getD d 0]) ((d : Int) - 1)) (fun k => ?_) (by simpa using ih (out ++ [back.getD d 0]) (by omega) (by simp; omega))
    rw [tocsinref02_Print.l1, if_pos (by omega), if_pos (by omega), if_pos (by omega), if_pos (by omega), er, wrap_in (by unfold Hd.inR; omega)]
    congr 1
    omega
theorem strOf_ints (l : List UInt8) : strOfNums (ints l) = ⟨l.toArray⟩ := by
  unfold strOfNums ints
  congr 1
  rw [List.map_map]
  congr 1
  conv => rhs; rw [← List.map_id l]
  apply List.map_congr_left
  intro c _
  simp
theorem print_ref (n : Int) (hn : Hd.inR n) : Ev (fun k => tocsinref02_Print.f k n) (Hd.text n) := by
  obtain ⟨n0, n1⟩ := hn
  have main : ∀ m : Nat, m = n.natAbs → Ev (fun k => tocsinref02_Print.j0 k n (m : Int)) (Hd.text n) := by
    intro m hm
    refine Ev.step (f := fun k => tocsinref02_Print.l0 k n (m : Int) []) (fun k => by rw [tocsinref02_Print.j0]) (pdigits n _ 20 m [] (by omega) (by omega) (by simp) (.inr rfl) ?_)
    obtain ⟨d1, d2, d3, d4⟩ := dec_ok m
    have dl := dec_len 18 m (by omega)
    have dp : 0 < (Lib.decDigits m).length := List.length_pos_iff.2 d1
    rw [List.nil_append]
    have hlen : (ints (Lib.decDigits m)).reverse.length = (Lib.decDigits m).length := by simp [ints]
    have hj : ∀ out : List Int, out.length ≤ 1 → Ev (fun k => tocsinref02_Print.j2 k (ints (Lib.decDigits m)).reverse out) (strOfNums (out ++ ints (Lib.decDigits m))) := by
      intro out ho
      have h := pback (ints (Lib.decDigits m)).reverse (by omega) (ints (Lib.decDigits m)).reverse.length out (Nat.le_refl _) (by omega)
      rw [List.take_length, List.reverse_reverse] at h
      refine Ev.step (fun k => ?_) h
      rw [tocsinref02_Print.j2, wrap_in (by unfold Hd.inR; omega)]
    by_cases hneg : n < 0
    · have h := hj [45] (by simp)
      have e : strOfNums ([45] ++ ints (Lib.decDigits m)) = Hd.text n := by
        have : ([45] ++ ints (Lib.decDigits m) : List Int) = ints (45 :: Lib.decDigits m) := rfl
        rw [this, strOf_ints, Hd.text, Lib.itoa, if_pos hneg, hm]
      rw [e] at h
      refine Ev.step (fun k => ?_) h
      rw [tocsinref02_Print.l0, if_neg (by omega), if_neg (by omega), if_pos hneg, if_pos (by decide)]
      rfl
    · have h := hj [] (by simp)
      have e : strOfNums ([] ++ ints (Lib.decDigits m)) = Hd.text n := by
        rw [List.nil_append, strOf_ints, Hd.text, Lib.itoa, if_neg hneg, hm, show n.natAbs = n.toNat by omega]
      rw [e] at h
      refine Ev.step (fun k => ?_) h
      rw [tocsinref02_Print.l0, if_neg (by omega), if_neg (by omega), if_neg hneg]
  refine Ev.congr (fun k => ?_) (main n.natAbs rfl)
  unfold tocsinref02_Print.f
  by_cases hneg : n < 0
  · rw [if_pos hneg]
    congr 1
    simp [IntKind.wrap, IntKind.signed, IntKind.bits]
    omega
  · rw [if_neg hneg]
    congr 1
    simp [IntKind.wrap, IntKind.signed, IntKind.bits]
    omega
theorem text_size (n : Int) (hn : Hd.inR n) : (Hd.text n).size ≤ 21 := by
  rw [size_eq, text_data]
  exact Lib.itoa_length_le n hn.1 hn.2
theorem texts : tocsinlaw02_TickTexts.Pure := by
  intro n s hn hs
  have hr := wf64 hn
  have hts := text_size n hr
  refine Ev.rounds (g := fun k => tocsinlaw02_TickTexts.f k n s) (r := true) ?_
  unfold tocsinlaw02_TickTexts.f
  simp only [fixed_true, Option.bind_some, if_true]
  have hp : Hd.tick_Print.f n = some (Hd.text n) := by unfold Hd.tick_Print.f; rw [if_pos hr]
  have hq : Hd.tick_Parse.f (Hd.text n) = some (n, 0) := by unfold Hd.tick_Parse.f; rw [if_pos (by omega), read_own n hr]
  have hs' : Hd.tick_Parse.f s = some (Hd.readN s) := by unfold Hd.tick_Parse.f; rw [if_pos hs]
  simp only [hp, hq, hs', Option.bind_some]
  by_cases hc : ∃ v, Hd.inR v ∧ Hd.text v = s
  · obtain ⟨v, hv, rfl⟩ := hc
    refine Ev.bind (ref_own v hv) (Ev.bind (print_ref n hr) ?_)
    have hpv : Hd.tick_Print.f v = some (Hd.text v) := by unfold Hd.tick_Print.f; rw [if_pos hv]
    simp only [read_own v hv, if_true, hpv, Option.bind_some, beq_self_eq_true]
    exact Ev.now true
  · have hno : ∀ v, Hd.inR v → Hd.text v ≠ s := fun v hv e => hc ⟨v, hv, e⟩
    refine Ev.bind (ref_other s hs hno) (Ev.bind (print_ref n hr) ?_)
    simp only [read_other s hno, if_true]
    exact Ev.now true
end Go.Proofs.YtccicjiadahmnaaDoor.Law3
