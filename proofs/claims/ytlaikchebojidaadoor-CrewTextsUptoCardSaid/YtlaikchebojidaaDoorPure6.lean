/- Crews as texts. -/
import Derived.Test.YtlaikchebojidaaDoorPure2
import Derived.Test.YtlaikchebojidaaDoorPure3
import Derived.Lib.SplitLaws
import Derived.Laws.Strings
namespace Go.Proofs.YtlaikchebojidaaDoor.Pure
open Go.RowKit Go.Proofs.YtlaikchebojidaaDoor Go.Proofs.YtlaikchebojidaaDoor.T Go.Proofs.YtlaikchebojidaaDoorW.PrintWords Go.Proofs.YtlaikchebojidaaDoorW.PrintLast Go.Proofs.YtlaikchebojidaaDoorW.PrintMore
set_option linter.unusedVariables false

theorem of_loop' (l : List Int) (hl : l.length < 9223372036854775807) (d : Nat) : ∀ (i : Nat) (c : Int), i + d = l.length → IsCrew c (fun h => (l.take i).contains h) →
    ∃ r, Ev (fun k => P.crew_Of.l0 k c l (l.length : Int) i) r ∧ IsCrew r (fun h => l.contains h) := by
  induction d with
  | zero =>
    intro i c hi hc
    refine ⟨c, Ev.step (f := fun _ => some c) (fun k => ?_) (Ev.now c), ?_⟩
    · rw [P.crew_Of.l0, if_neg (by omega)]
    · rw [List.take_of_length_le (by omega)] at hc; exact hc
  | succ d ih =>
    intro i c hi hc
    have er : rd l (i : Int) = l.getD i 0 := by simp [rd]
    have e1 : wrap64 ((i : Int) + 1) = ((i + 1 : Nat) : Int) := by rw [wrap_in (by omega)]; omega
    have at_ : (fun h => (l.take (i + 1)).contains h) = fun h => ((l.take i).contains h || h == l.getD i 0) := by funext h; exact any_take l h i (by omega)
    generalize hX : l.getD i 0 = x at *
    by_cases hin : 0 ≤ x ∧ x ≤ 5
    · have e2 : IntKind.u64.wrap x = x := by simp [IntKind.wrap, IntKind.signed, IntKind.bits]; omega
      obtain ⟨r, hr, hcr⟩ := ih (i + 1) _ (by omega) (by rw [at_]; exact or_crew hc hin.1 hin.2)
      refine ⟨r, Ev.step (f := fun k => P.crew_Of.l0 k (Go.bits .or .u32 c (shl .u32 1 x)) l (l.length : Int) ((i + 1 : Nat) : Int)) (fun k => ?_) hr, hcr⟩
      rw [P.crew_Of.l0, if_pos (by omega), if_pos (by omega), if_pos (by omega), er, if_pos (by omega), if_pos (by omega), e2, if_pos hin.1, e1]
    · have hc2 : IsCrew c (fun h => (l.take (i + 1)).contains h) := by
        rw [at_]
        refine ⟨hc.1, hc.2.1, fun g g0 g5 => ?_⟩
        rw [hc.2.2 g g0 g5]
        have : ¬ g = x := by omega
        simp [this]
      obtain ⟨r, hr, hcr⟩ := ih (i + 1) c (by omega) hc2
      refine ⟨r, Ev.step (f := fun k => P.crew_Of.l0 k c l (l.length : Int) ((i + 1 : Nat) : Int)) (fun k => ?_) hr, hcr⟩
      rw [P.crew_Of.l0, if_pos (by omega), if_pos (by omega), if_pos (by omega), er, e1]
      by_cases h6 : x ≥ 0
      · rw [if_pos h6, if_neg (by omega)]
      · rw [if_neg h6]
theorem of_ev' (l : List Int) (hl : l.length < 9223372036854775807) : ∃ r, Ev (fun k => P.crew_Of.f k l) r ∧ IsCrew r (fun h => l.contains h) := by
  have hz : IsCrew 0 (fun h => (l.take 0).contains h) := ⟨by decide, by decide, fun h h0 h5 => by simp only [List.take_zero, List.contains_nil]; rcases six h0 h5 with rfl | rfl | rfl | rfl | rfl | rfl <;> decide⟩
  exact of_loop' l hl l.length 0 0 (by omega) hz
/-- The text of a crew. -/
def pr (n : Int) : ByteArray := (P.crew_Print.f 12 n).getD ByteArray.empty
theorem print_fin : ∀ n : Fin 64, P.crew_Print.l0 12 [] (mem n.val) ((mem n.val).length : Int) 0 = some (pr n.val) := by decide +kernel
theorem print_ev (c : Int) (c0 : 0 ≤ c) (c1 : c < 4294967296) : Ev (fun k => P.crew_Print.f k c) (pr (c % 64)) := by
  refine Ev.bind (members_ev c c0 c1) ?_
  rw [mem_low c]
  exact Ev.of (fun k => (P.crew_Print.mono_l k) _ _ _ _) (below64 (fun n => P.crew_Print.l0 12 [] (mem n) ((mem n).length : Int) 0 = some (pr n)) print_fin (by omega) (by omega))
theorem rprint_fin : ∀ n : Fin 64, (if ((mem n.val).length : Int) = 0 then (some (⟨#[45]⟩ : ByteArray)) else (tocsinref07_Print.l0 40 (mem n.val) ([] : List Int) 0)) = some (pr n.val) := by decide +kernel
theorem rprint_ev (c : Int) (c0 : 0 ≤ c) (c1 : c < 4294967296) : Ev (fun k => tocsinref07_Print.f k c) (pr (c % 64)) := by
  refine Ev.bind (refMembers_ev c c0 c1) ?_
  rw [mem_low c]
  have h := below64 (fun n => (if ((mem n).length : Int) = 0 then (some (⟨#[45]⟩ : ByteArray)) else (tocsinref07_Print.l0 40 (mem n) ([] : List Int) 0)) = some (pr n)) rprint_fin (m := c % 64) (by omega) (by omega)
  by_cases hz : ((mem (c % 64)).length : Int) = 0
  · simp only [if_pos hz] at h ⊢
    rw [h]
    exact Ev.now _
  · simp only [if_neg hz] at h ⊢
    exact Ev.of (fun k => (tocsinref07_Print.mono_l k) _ _ _) h
theorem parse_fin : ∀ n : Fin 64, Q.crew_Parse.f 60 (pr n.val) = some ((n.val : Int), (0 : Int)) := by decide +kernel
theorem pr_fin : ∀ m n : Fin 64, (pr m.val).toList = (pr n.val).toList → m = n := by
  intro m n h
  have e : pr m.val = pr n.val := by
    rw [ByteArray.toList_eq, ByteArray.toList_eq] at h
    exact ByteArray.ext (Array.ext' h)
  have h1 := parse_fin m
  rw [e, parse_fin n] at h1
  simp only [Option.some.injEq, Prod.mk.injEq] at h1
  apply Fin.ext
  omega
theorem parse_own (n : Int) (n0 : 0 ≤ n) (n1 : n < 64) : Ev (fun k => Q.crew_Parse.f k (pr n)) (n, (0 : Int)) :=
  Ev.of (fun k => Q.crew_Parse.mono _ k) (below64 (fun n => Q.crew_Parse.f 60 (pr n) = some (n, (0 : Int))) parse_fin n0 n1)
theorem splitB_size (sep : ByteArray) : ∀ (k : Nat) (s : ByteArray), ∀ x ∈ Lib.splitB sep 0 k s, x.size ≤ s.size := by
  intro k
  induction k with
  | zero => intro s x hx; simp [Lib.splitB] at hx; subst hx; exact Nat.le_refl _
  | succ k ih =>
    intro s x hx
    unfold Lib.splitB at hx
    split at hx
    · simp at hx; subst hx; exact Nat.le_refl _
    · rcases List.mem_cons.1 hx with rfl | hx
      · rw [ByteArray.size_extract]; omega
      · have := ih _ x hx
        rw [ByteArray.size_extract] at this
        omega
theorem parse_loop (s : ByteArray) (ws : List ByteArray) (hw : ∀ x ∈ ws, x.size ≤ 281474976710656) (hl : ws.length < 17592186044416) (d : Nat) : ∀ (i : Nat) (hs : List Int), i + d = ws.length → hs.length ≤ i →
    ∃ hs' : List Int, hs'.length ≤ ws.length ∧ ∀ r, Ev (fun k => Q.crew_Parse.l0 k s hs' ws (ws.length : Int) (ws.length : Int)) r → Ev (fun k => Q.crew_Parse.l0 k s hs ws (ws.length : Int) i) r := by
  induction d with
  | zero =>
    intro i hs hi hn
    obtain rfl : i = ws.length := by omega
    exact ⟨hs, hn, fun r h => h⟩
  | succ d ih =>
    intro i hs hi hn
    have er : rdOf ByteArray.empty ws (i : Int) = ws.getD i ByteArray.empty := by simp [rdOf]
    have e1 : wrap64 ((i : Int) + 1) = ((i + 1 : Nat) : Int) := by rw [wrap_in (by omega)]; omega
    have hx := hw (ws.getD i ByteArray.empty) (by rw [List.getD_eq_getElem?_getD, List.getElem?_eq_getElem (by omega)]; exact List.getElem_mem _)
    generalize ws.getD i ByteArray.empty = x at *
    have hcase : (∃ v, Hd.strconv_Atoi.f x = some (v, none)) ∨ ∃ v, Hd.strconv_Atoi.f x = some (v, some 0) := by
      unfold Hd.strconv_Atoi.f
      rw [if_pos hx]
      split
      · exact .inl ⟨_, rfl⟩
      · exact .inr ⟨_, rfl⟩
      · exact .inr ⟨_, rfl⟩
    rcases hcase with ⟨v, hv⟩ | ⟨v, hv⟩
    · obtain ⟨hs', h1, h2⟩ := ih (i + 1) (hs ++ [v]) (by omega) (by simp; omega)
      refine ⟨hs', h1, fun r hr => Ev.step (f := fun k => Q.crew_Parse.l0 k s (hs ++ [v]) ws (ws.length : Int) ((i + 1 : Nat) : Int)) (fun k => ?_) (h2 r hr)⟩
      rw [Q.crew_Parse.l0, if_pos (by omega), if_pos (by omega), if_pos (by omega), er, hv, Option.bind_some, e1]
      rw [if_pos (show (none : Option Int).isNone = true from rfl), if_pos (by omega)]
    · obtain ⟨hs', h1, h2⟩ := ih (i + 1) hs (by omega) (by omega)
      refine ⟨hs', h1, fun r hr => Ev.step (f := fun k => Q.crew_Parse.l0 k s hs ws (ws.length : Int) ((i + 1 : Nat) : Int)) (fun k => ?_) (h2 r hr)⟩
      rw [Q.crew_Parse.l0, if_pos (by omega), if_pos (by omega), if_pos (by omega), er, hv, Option.bind_some, e1]
      rfl
theorem parse_other (s : ByteArray) (hs : s.size ≤ 1048576) (hno : ∀ n : Int, 0 ≤ n → n < 64 → (pr n).toList ≠ s.toList) : Ev (fun k => Q.crew_Parse.f k s) ((0 : Int), (2 : Int)) := by
  have hsep : (⟨#[44]⟩ : ByteArray).size = 1 := by decide
  have hsp : Hd.strings_Split.f s ⟨#[44]⟩ = some (Lib.splitB ⟨#[44]⟩ 0 (Lib.countB s ⟨#[44]⟩) s) := by unfold Hd.strings_Split.f; rw [if_pos ⟨by omega, by omega⟩]
  have hlen := Lib.splitB_all ⟨#[44]⟩ (by omega) 0 _ s rfl
  have hle := Lib.countB_le ⟨#[44]⟩ (by omega) _ s (Nat.le_refl _)
  have hsz := splitB_size ⟨#[44]⟩ (Lib.countB s ⟨#[44]⟩) s
  unfold Q.crew_Parse.f
  simp only [hsp, Option.bind_some]
  generalize Lib.splitB ⟨#[44]⟩ 0 (Lib.countB s ⟨#[44]⟩) s = ws at *
  obtain ⟨l, h1, h2⟩ := parse_loop s ws (fun x hx => by have := hsz x hx; omega) (by omega) ws.length 0 [] (by omega) (by simp)
  refine h2 _ ?_
  obtain ⟨c, hc, hcr⟩ := of_ev' l (by omega)
  have c0 := hcr.1
  have c1 := hcr.2.1
  refine Ev.step (f := fun k => (P.crew_Of.f k l).bind fun t111 => ((P.crew_Print.f k t111).bind fun t112 => (if t112.toList = s.toList then (some (t111, 0)) else (some (0, 2))))) (fun k => ?_) (Ev.bind hc (Ev.bind (print_ev c c0 (by omega)) ?_))
  · rw [Q.crew_Parse.l0, if_neg (by omega)]
  · rw [if_neg (by rw [show c % 64 = c by omega]; exact hno c c0 c1)]
    exact Ev.now _
theorem rparse_loop (s : ByteArray) (r : Int × Int) (d : Nat) : ∀ c : Int, c + d = 64 → 0 ≤ c → ((∃ n, c ≤ n ∧ n < 64 ∧ (pr n).toList = s.toList ∧ r = (n, 0)) ∨ ((∀ n, c ≤ n → n < 64 → (pr n).toList ≠ s.toList) ∧ r = (0, 2))) →
    Ev (fun k => tocsinref07_Parse.l0 k s c) r := by
  induction d with
  | zero =>
    intro c hc c0 h
    refine Ev.step (f := fun _ => some ((0 : Int), (2 : Int))) (fun k => ?_) ?_
    · rw [tocsinref07_Parse.l0, if_neg (by omega)]
    · rcases h with ⟨n, h1, h2, _⟩ | ⟨_, rfl⟩
      · omega
      · exact Ev.now _
  | succ d ih =>
    intro c hc c0 h
    refine Ev.step (f := fun k => (tocsinref07_Print.f k c).bind fun t176 => (if t176.toList = s.toList then (some (c, 0)) else (tocsinref07_Parse.l0 k s ((c + 1) % 4294967296)))) (fun k => ?_) (Ev.bind (rprint_ev c c0 (by omega)) ?_)
    · rw [tocsinref07_Parse.l0, if_pos (by omega)]
    · rw [show c % 64 = c by omega, show (c + 1) % 4294967296 = c + 1 by omega]
      by_cases he : (pr c).toList = s.toList
      · simp only [if_pos he]
        rcases h with ⟨n, h1, h2, h3, rfl⟩ | ⟨h1, _⟩
        · have := pr_fin ⟨c.toNat, by omega⟩ ⟨n.toNat, by omega⟩
          simp only [Int.toNat_of_nonneg c0, Int.toNat_of_nonneg (show 0 ≤ n by omega)] at this
          have := congrArg Fin.val (this (he.trans h3.symm))
          simp at this
          obtain rfl : n = c := by omega
          exact Ev.now _
        · exact absurd he (h1 c (by omega) (by omega))
      · simp only [if_neg he]
        refine ih (c + 1) (by omega) (by omega) ?_
        rcases h with ⟨n, h1, h2, h3, h4⟩ | ⟨h1, h2⟩
        · refine .inl ⟨n, ?_, h2, h3, h4⟩
          rcases Int.lt_or_eq_of_le h1 with h5 | rfl
          · omega
          · exact absurd h3 he
        · exact .inr ⟨fun n a b => h1 n (by omega) b, h2⟩
theorem texts (c : Int) (s : ByteArray) (hc : (Lit.int .u32 c).wf = true) (hs : s.size ≤ 1048576) : ∃ k, tocsinlaw07_CrewTexts.f k c s = some true := by
  obtain ⟨c0, c1⟩ := wf32 hc
  refine Ev.rounds (g := fun k => tocsinlaw07_CrewTexts.f k c s) (r := true) ?_
  unfold tocsinlaw07_CrewTexts.f
  refine Ev.bind fixed_ev ?_
  simp only [if_true]
  have hp := print_ev c c0 c1
  refine Ev.bind hp (Ev.bind (parse_own (c % 64) (by omega) (by omega)) ?_)
  have hcase : (∃ n : Int, 0 ≤ n ∧ n < 64 ∧ (pr n).toList = s.toList) ∨ (∀ n : Int, 0 ≤ n → n < 64 → (pr n).toList ≠ s.toList) := by
    by_cases h : ∃ n : Int, 0 ≤ n ∧ n < 64 ∧ (pr n).toList = s.toList
    · exact .inl h
    · exact .inr fun n a b e => h ⟨n, a, b, e⟩
  rcases hcase with ⟨n, n0, n1, hn⟩ | hno
  · have e : s = pr n := by
      rw [ByteArray.toList_eq, ByteArray.toList_eq] at hn
      exact (ByteArray.ext (Array.ext' hn)).symm
    refine Ev.bind (a := (n, (0 : Int))) (by rw [e]; exact parse_own n n0 n1) (Ev.bind (rparse_loop s (n, 0) 64 0 (by omega) (by omega) (.inl ⟨n, n0, n1, hn, rfl⟩)) (Ev.bind hp (Ev.bind (rprint_ev c c0 c1) ?_)))
    simp only [if_true, tmod64 c0]
    refine Ev.bind (print_ev n n0 (by omega)) ?_
    rw [show n % 64 = n by omega, hn]
    simp only [beq_self_eq_true]
    exact Ev.now true
  · refine Ev.bind (parse_other s hs hno) (Ev.bind (rparse_loop s (0, 2) 64 0 (by omega) (by omega) (.inr ⟨hno, rfl⟩)) (Ev.bind hp (Ev.bind (rprint_ev c c0 c1) ?_)))
    simp only [if_true, tmod64 c0]
    exact Ev.now true
theorem textsWalk (a0 : Int) (a1 : ByteArray) (w : World) (w0 : (Lit.int .u32 a0).wf = true) (w1 : a1.size ≤ 1048576) (hT : Tabs w) :
    Calls Tryd.prog 6 #[.int .u32 a0, .string a1] w fun e w' => e = .returned (.bool true) ∧ Below w.heap.size w w' := by
  obtain ⟨k, hk⟩ := texts a0 a1 w0 w1
  exact tocsinlaw07_CrewTexts.calls k a0 a1 true w hk hT
end Go.Proofs.YtlaikchebojidaaDoor.Pure
