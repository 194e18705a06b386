/- Play. -/
import Derived.Test.YtmanibjmcdbgaaaDoorStepB
namespace Go.Proofs.YtmanibjmcdbgaaaDoor
set_option linter.unusedVariables false
set_option linter.unusedSimpArgs false
open Go.RowKit

def chr (m c n : Int) : Int := if n = 6 then 45 else if 0 ≤ n ∧ n ≤ 7 then (if okB m c n then 121 else 110) else 45
def nxt (m c n : Int) : Int := if n = 6 then 0 else if 0 ≤ n ∧ n ≤ 7 then cTo m c n else c
def cAt (m : Int) (Z : Nat → Int) : Nat → Int
  | 0 => 0
  | k + 1 => nxt m (cAt m Z k) (Z k)
def letters (m : Int) (Z : Nat → Int) (k : Nat) : List Int := (List.range k).map fun i => chr m (cAt m Z i) (Z i)
def counts (m : Int) (Z : Nat → Int) (k : Nat) : List Int := (List.range k).map fun i => cAt m Z (i + 1)
theorem cAt_bd (m : Int) (Z : Nat → Int) (k : Nat) : 0 ≤ cAt m Z k ∧ cAt m Z k ≤ k := by
  induction k with
  | zero => simp [cAt]
  | succ k ih =>
    simp only [cAt, nxt, cTo]
    (repeat' split) <;> omega
theorem letters_succ (m : Int) (Z : Nat → Int) (k : Nat) : letters m Z (k + 1) = letters m Z k ++ [chr m (cAt m Z k) (Z k)] := by simp [letters, List.range_succ]
theorem counts_succ (m : Int) (Z : Nat → Int) (k : Nat) : counts m Z (k + 1) = counts m Z k ++ [cAt m Z (k + 1)] := by simp [counts, List.range_succ]
theorem letters_len (m : Int) (Z : Nat → Int) (k : Nat) : (letters m Z k).length = k := by simp [letters]
theorem counts_len (m : Int) (Z : Nat → Int) (k : Nat) : (counts m Z k).length = k := by simp [counts]

def strOf (ns : List Int) : ByteArray := ns.foldl (fun r n => r.push (UInt8.ofNat n.toNat)) ByteArray.empty
theorem conv_own {w : World} {base : Nat} {v : Value} {n : Nat} {ns : List Int} (h : w.ownsRow base 5 1 v n (ns.map (Value.int .u8))) :
    (convert 41 9 v).run Tryd.prog w = .ok (.string (strOf ns)) w := by
  rcases h.2 with ⟨rfl, hx⟩ | ⟨g, cap, cur, rfl, _, hh, _⟩
  · rw [run_convert_bytes_string w _ _ _ _ _ _ Tryd.underlying41 Tryd.underlying5 Tryd.underlying9]
    have : ns = [] := by have h1 := h.1; simp at h1; exact List.eq_nil_of_length_eq_zero (by omega)
    subst this
    rfl
  · rw [run_convert_bytes_string w _ _ _ _ _ _ Tryd.underlying41 Tryd.underlying5 Tryd.underlying9]
    have hl : n = (ns.map (Value.int .u8)).length := by have := h.1; omega
    refine run_bytesToString w _ _ _ ns ?_
    rw [hl]
    exact run_loadCells_list _ _ _ (fun j u hu => h.cells (g := g) rfl j u hu)

theorem own_chg {w w' : World} {base g : Nat} {e : TypeId} {size : Nat} {v : Value} {n : Nat} {xs : List Value} {m c : Int} {l : ByteArray} (h : w.ownsRow base e size v n xs) (hC : Chg (fun k => k = g) w w') (hF : IsF w g m c l) (hne : e ≠ 38) :
    w'.ownsRow base e size v n xs := by
  have hg : w.grownBy w' (some g) := ⟨hC.os, hC.tape, hC.output, hC.size, fun k hk hn => hC.block k hk (fun e => hn (by rw [e]))⟩
  refine h.kept hg ?_
  rcases h.2 with ⟨rfl, _⟩ | ⟨g', cap, cur, rfl, _, hh, _⟩
  · left; rfl
  · right
    intro he
    have : g' = g := by simpa [Value.ownBlock] using he
    subst this
    exact blk_ne hh hF hne rfl

theorem own_own {w : World} {b1 b2 s1 s2 n1 n2 : Nat} {e1 e2 : TypeId} {v1 v2 : Value} {xs1 xs2 : List Value} (h1 : w.ownsRow b1 e1 s1 v1 n1 xs1) (h2 : w.ownsRow b2 e2 s2 v2 n2 xs2) (hne : e1 ≠ e2) : v1.ownBlock = none ∨ v1.ownBlock ≠ v2.ownBlock := by
  rcases h1.2 with ⟨rfl, _⟩ | ⟨g1, c1, cur1, rfl, _, hh1, _⟩
  · left; rfl
  · right
    rcases h2.2 with ⟨rfl, _⟩ | ⟨g2, c2, cur2, rfl, _, hh2, _⟩
    · simp [Value.ownBlock]
    · intro he
      have : g1 = g2 := by simpa [Value.ownBlock] using he
      subst this
      exact blk_ne hh1 hh2 hne rfl
theorem own_blk {w : World} {b1 s1 n1 g : Nat} {e1 t : TypeId} {v1 : Value} {xs1 : List Value} {cs : Array Value} {fr : Nat × Nat} (h1 : w.ownsRow b1 e1 s1 v1 n1 xs1) (h2 : w.heap[g]? = some (.cells cs t fr)) (hne : e1 ≠ t) : some g ≠ v1.ownBlock := by
  rcases h1.2 with ⟨rfl, _⟩ | ⟨g1, c1, cur1, rfl, _, hh1, _⟩
  · simp [Value.ownBlock]
  · intro he
    have : g = g1 := by simpa [Value.ownBlock] using he
    subst this
    exact blk_ne hh1 h2 hne rfl
section
variable {w wa : World} {o : Obj} {v : Value} {base n : Nat} {e : TypeId} {xs : List Value}
theorem keep_row (h : w.ownsRow base e 1 v n xs) (hg : (w.alloc o).grownBy wa v.ownBlock) {e2 : TypeId} {v2 : Value} {n2 : Nat} {xs2 : List Value} (h2 : w.ownsRow base e2 1 v2 n2 xs2) (hne : e2 ≠ e) : wa.ownsRow base e2 1 v2 n2 xs2 :=
  (h2.alloc o).kept hg (own_own (h2.alloc o) (h.alloc o) hne)
theorem keep_f (h : w.ownsRow base e 1 v n xs) (hg : (w.alloc o).grownBy wa v.ownBlock) {g : Nat} {m c : Int} {l : ByteArray} (hF : IsF w g m c l) (hne : e ≠ 38) : IsF wa g m c l :=
  blk_grown (blk_alloc hF o) hg (own_blk (h.alloc o) (blk_alloc hF o) hne)
theorem keep_b (h : w.ownsRow base e 1 v n xs) (hg : (w.alloc o).grownBy wa v.ownBlock) {w0 : World} (hb : Below base w0 w) (hB : base ≤ w.heap.size) : Below base w0 wa :=
  (hb.alloc hB o).grown hg (by simp; omega) (fun k hk => ((h.alloc o).lt k hk).1)
end
theorem mend_any (g : Nat) (m c : Int) (l : ByteArray) (w : World) (h : IsF w g m c l) :
    Calls Tryd.prog 15 #[.pointer (some ⟨g, 0, none⟩)] w fun e w' => e = .returned (.tuple #[]) ∧ IsF w' g m 0 ⟨#[]⟩ ∧ Chg (fun k => k = g) w w' :=
  (mend_calls g m c l w h).mono fun e w' ⟨he, hw⟩ => by
    subst hw
    exact ⟨he, blk_set (blk_set h 1 (.int .i64 0)) 2 (.string ⟨#[]⟩), ((Chg.refl (fun k => k = g) w).setCell (p := ⟨g, 1, none⟩) (.inl rfl) _).setCell (p := ⟨g, 2, none⟩) (.inl rfl) _⟩

/-- The script's cells. -/
def ScriptAt (w : World) (A : Option Addr) (n : Nat) (Z : Nat → Int) : Prop := ∀ i, i < n → ∃ b off, A = some ⟨b, off, none⟩ ∧ b < w.heap.size ∧ w.cell? ⟨b, off + i, none⟩ = some (.int .i64 (Z i))
theorem ScriptAt.below {w w' : World} {A : Option Addr} {n : Nat} {Z : Nat → Int} (h : ScriptAt w A n Z) (hb : Below w.heap.size w w') : ∀ i, i < n → ∃ b off, A = some ⟨b, off, none⟩ ∧ b < w.heap.size ∧ w'.cell? ⟨b, off + i, none⟩ = some (.int .i64 (Z i)) := by
  intro i hi
  obtain ⟨b, off, e, hlt, h0⟩ := h i hi
  exact ⟨b, off, e, hlt, (hb.cell (p := ⟨b, _, none⟩) hlt).trans h0⟩

theorem info8 : (Tryd.prog.info? 5).map (fun i => (i.zero, i.size, i.bytes)) = some (some (.int .u8 0), 1, 1) := by kernel_rfl
theorem infoI : (Tryd.prog.info? 3).map (fun i => (i.zero, i.size, i.bytes)) = some (some (.int .i64 0), 1, 8) := by kernel_rfl

def PlayPost (M : Int) (Z : Nat → Int) (n : Nat) (w : World) (e : Ending) (w' : World) : Prop :=
  ∃ v, e = .returned (.tuple #[.string (strOf (letters M Z n)), v]) ∧ w'.ownsRow w.heap.size 3 1 v n ((counts M Z n).map (Value.int .i64)) ∧ Below w.heap.size w w'
theorem new_most (q M : Int) (h : M = most q) (w : World) :
    Calls Tryd.prog 5 #[.int .i64 q] w fun e w' => ∃ g, e = .returned (.pointer (some ⟨g, 0, none⟩)) ∧ IsF w' g M 0 ByteArray.empty ∧ g = w.heap.size ∧ Below w.heap.size w w' := by
  rw [h]; exact new_calls q w

set_option maxRecDepth 100000 in
set_option maxHeartbeats 6400000 in
theorem play_calls (q M : Int) (hM : M = most q) (A : Option Addr) (n cp : Nat) (Z : Nat → Int) (w : World) (hA : ScriptAt w A n Z) (hn : n * 8 ≤ 140737488351232) :
    Calls Tryd.prog 18 #[.int .i64 q, .slice A n cp] w (PlayPost M Z n w) := by
  have HN := Lib.hid (new_most q M hM)
  clear hM
  have HA := Lib.hid hA
  clear hA
  obtain ⟨i8, hi8, hz8, hs8, hb8⟩ := info_parts info8
  obtain ⟨iI, hiI, hzI, hsI, hbI⟩ := info_parts infoI
  have P8 := Lib.hid (And.intro hi8 (And.intro hz8 (And.intro hs8 hb8)))
  have PI := Lib.hid (And.intro hiI (And.intro hzI (And.intro hsI hbI)))
  clear hi8 hz8 hs8 hb8 hiI hzI hsI hbI
  go_enter Tryd.func18, Tryd.ntmps18
  go_wp2_with fail
  refine (HN.out _).mono ?_
  rintro e w1 ⟨g, rfl, HF1, hg, HB1⟩
  have hge : w.heap.size ≤ g := by omega
  have HF1 := Lib.hid HF1
  have HB1 := Lib.hid HB1
  clear hg
  go_wp2_with fail
  go_loopw [7, 8, 16] (fun v7 v8 i wr => ∃ (k : Nat) (l : ByteArray), k ≤ n ∧ i = .int .i64 k ∧ wr.ownsRow w.heap.size 5 1 v7 k ((letters M Z k).map (Value.int .u8)) ∧ wr.ownsRow w.heap.size 3 1 v8 k ((counts M Z k).map (Value.int .i64)) ∧
      IsF wr g M (cAt M Z k) l ∧ Below w.heap.size w wr) (fun _ _ i _ => n - (intOf i).toNat)
  case atStart => exact ⟨0, _, Nat.zero_le _, rfl, World.ownsRow_nil _ _ _ _, World.ownsRow_nil _ _ _ _, HF1.out, HB1.out⟩
  case round =>
    obtain ⟨k, l, hk, rfl, hO7, hO8, hF, hB⟩ := hrel
    have HO7 := Lib.hid hO7
    have HO8 := Lib.hid hO8
    have HF := Lib.hid hF
    have HB := Lib.hid hB
    clear hO7 hO8 hF hB HF1 HB1
    by_cases hlt : k < n
    · obtain ⟨B, off, rfl, hBw, c0⟩ := HA.out.below HB.out k hlt
      obtain ⟨z, hz⟩ : ∃ z, z = Z k := ⟨_, rfl⟩
      rw [← hz] at c0
      have HZ := Lib.hid hz
      clear hz
      obtain ⟨bd0, bd1⟩ := cAt_bd M Z k
      by_cases h6 : z = 6
      · subst h6
        go_wp2_with fail
        refine (mend_any g M _ _ _ HF.out).mono ?_
        rintro e w2 ⟨rfl, hF2, hC2⟩
        have O7 := Lib.hid (own_chg HO7.out hC2 HF.out (by decide))
        have O8 := Lib.hid (own_chg HO8.out hC2 HF.out (by decide))
        have F2 := Lib.hid hF2
        have B2 := Lib.hid (HB.out.trans (hC2.toBelow HB.out.size (fun k hk e => by omega)))
        clear hF2 hC2
        have hsz := B2.out.size
        have l7 := letters_len M Z k
        have l8 := counts_len M Z k
        go_wp2_with (first
          | (at_builtin; refine wpList_append_own _ rfl (.tmp 37) (.tmp 39) 41 rfl w.heap.size 5 i8 (.int .u8 0) 1 1 Tryd.underlying41 P8.out.1 P8.out.2.1 P8.out.2.2.1 P8.out.2.2.2 rfl (by decide) _ _ _ rfl (O7.out.alloc _) ⟨w2.heap.size, 0, none⟩ 1 1 [.int .u8 45] rfl rfl (cell_one_new _ _ _) (by intro u hu; simp at hu; subst hu; rfl) (by unfold maxLen; omega) (by omega) (by simp; omega) ?_; intro v7' wa hown7 hg7 _; have HO7a := Lib.hid hown7; have HO8a := Lib.hid (keep_row O7.out hg7 O8.out (by decide)); have HFa := Lib.hid (keep_f O7.out hg7 F2.out (by decide)); have HBa := Lib.hid (keep_b O7.out hg7 B2.out hsz); have hsa := HBa.out.size; clear hown7 hg7)
          | (go_at_call 14; refine (caught_calls g M _ _ _ HFa.out).mono ?_; rintro e w' ⟨rfl, rfl⟩)
          | (at_builtin; refine wpList_append_own _ rfl (.tmp 41) (.tmp 44) 25 rfl w.heap.size 3 iI (.int .i64 0) 1 8 Tryd.underlying25 PI.out.1 PI.out.2.1 PI.out.2.2.1 PI.out.2.2.2 rfl (by decide) _ _ _ rfl (HO8a.out.alloc _) ⟨wa.heap.size, 0, none⟩ 1 1 [.int .i64 0] rfl rfl (cell_one_new _ _ _) (by intro u hu; simp at hu; subst hu; rfl) (by unfold maxLen; omega) (by omega) (by simp; omega) ?_; intro v8' wb hown8 hg8 _; have HO8b := Lib.hid hown8; have HO7b := Lib.hid (keep_row HO8a.out hg8 HO7a.out (by decide)); have HFb := Lib.hid (keep_f HO8a.out hg8 HFa.out (by decide)); have HBb := Lib.hid (keep_b HO8a.out hg8 HBa.out hsa); clear hown8 hg8))
        go_roundw
        case rel =>
          have eC : cAt M Z (k + 1) = 0 := by simp only [cAt]; rw [← HZ.out]; simp [nxt]
          have eL : chr M (cAt M Z k) (Z k) = 45 := by rw [← HZ.out]; simp [chr]
          refine ⟨k + 1, ⟨#[]⟩, by omega, by go_num, ?_, ?_, ?_, HBb.out⟩
          · rw [letters_succ, eL, List.map_append]; exact HO7b.out
          · rw [counts_succ, eC, List.map_append]; exact HO8b.out
          · rw [eC]; exact HFb.out
        case measure => simp [intOf]; omega
      · have q6 : (z == 6) = false := by simpa using h6
        by_cases hr : 0 ≤ z ∧ z ≤ 7
        · have HRR := Lib.hid hr
          obtain ⟨r0, r1⟩ := hr
          have HD := Lib.hid (fun p l w hp hq hF => do_step_all z ⟨r0, r1, h6⟩ p g M (cAt M Z k) l w hp hq hF bd0 (by omega))
          have HWK := Lib.hid (fun w => work_calls z (some ⟨g, 0, none⟩) w)
          go_wp2_with fail
          refine (HWK.out _).mono ?_
          rintro e w2 ⟨rfl, rfl⟩
          have F1 := Lib.hid (blk_alloc (blk_alloc HF.out (.cells #[.pointer (some ⟨g, 0, none⟩)] 23)) (.cells #[.slice none 0 0] 25))
          have X1 := Lib.hid (blk_alloc (heap_alloc_new wr (.cells #[.pointer (some ⟨g, 0, none⟩)] 23)) (.cells #[.slice none 0 0] 25))
          have X2 := Lib.hid (next_top wr (.cells #[.pointer (some ⟨g, 0, none⟩)] 23) (.cells #[.slice none 0 0] 25))
          have O71 := Lib.hid ((HO7.out.alloc (.cells #[.pointer (some ⟨g, 0, none⟩)] 23)).alloc (.cells #[.slice none 0 0] 25))
          have O81 := Lib.hid ((HO8.out.alloc (.cells #[.pointer (some ⟨g, 0, none⟩)] 23)).alloc (.cells #[.slice none 0 0] 25))
          have B1 := Lib.hid ((HB.out.alloc HB.out.size (.cells #[.pointer (some ⟨g, 0, none⟩)] 23)).alloc (by have := HB.out.size; simp; omega) (.cells #[.slice none 0 0] 25))
          go_wp2_with fail
          refine (HD.out _ _ _ X1.out X2.out F1.out).mono ?_
          rintro e w2 ⟨rfl, ⟨l2, hF2⟩, hC2⟩
          have O7 := Lib.hid (own_chg O71.out hC2 F1.out (by decide))
          have O8 := Lib.hid (own_chg O81.out hC2 F1.out (by decide))
          have F2 := Lib.hid hF2
          have B2 := Lib.hid (B1.out.trans (hC2.toBelow B1.out.size (fun k hk e => by omega)))
          clear hF2 hC2
          obtain ⟨ok, hok⟩ : ∃ ok, ok = okB M (cAt M Z k) z := ⟨_, rfl⟩
          rw [← hok]
          have HK := Lib.hid hok.symm
          clear hok
          cases ok with
          | true =>
            have hsz := B2.out.size
            have l7 := letters_len M Z k
            have l8 := counts_len M Z k
            go_wp2_with (first
              | (at_builtin; refine wpList_append_own _ rfl (.tmp 37) (.tmp 39) 41 rfl w.heap.size 5 i8 (.int .u8 0) 1 1 Tryd.underlying41 P8.out.1 P8.out.2.1 P8.out.2.2.1 P8.out.2.2.2 rfl (by decide) _ _ _ rfl (O7.out.alloc _) ⟨w2.heap.size, 0, none⟩ 1 1 [.int .u8 121] rfl rfl (cell_one_new _ _ _) (by intro u hu; simp at hu; subst hu; rfl) (by unfold maxLen; omega) (by omega) (by simp; omega) ?_; intro v7' wa hown7 hg7 _; have HO7a := Lib.hid hown7; have HO8a := Lib.hid (keep_row O7.out hg7 O8.out (by decide)); have HFa := Lib.hid (keep_f O7.out hg7 F2.out (by decide)); have HBa := Lib.hid (keep_b O7.out hg7 B2.out hsz); have hsa := HBa.out.size; clear hown7 hg7)
              | (go_at_call 14; refine (caught_calls g M _ _ _ HFa.out).mono ?_; rintro e w' ⟨rfl, rfl⟩)
              | (at_builtin; refine wpList_append_own _ rfl (.tmp 41) (.tmp 44) 25 rfl w.heap.size 3 iI (.int .i64 0) 1 8 Tryd.underlying25 PI.out.1 PI.out.2.1 PI.out.2.2.1 PI.out.2.2.2 rfl (by decide) _ _ _ rfl (HO8a.out.alloc _) ⟨wa.heap.size, 0, none⟩ 1 1 [.int .i64 (cTo M (cAt M Z k) z)] rfl rfl (cell_one_new _ _ _) (by intro u hu; simp at hu; subst hu; rfl) (by unfold maxLen; omega) (by omega) (by simp; omega) ?_; intro v8' wb hown8 hg8 _; have HO8b := Lib.hid hown8; have HO7b := Lib.hid (keep_row HO8a.out hg8 HO7a.out (by decide)); have HFb := Lib.hid (keep_f HO8a.out hg8 HFa.out (by decide)); have HBb := Lib.hid (keep_b HO8a.out hg8 HBa.out hsa); clear hown8 hg8))
            go_roundw
            case rel =>
              have eC : cAt M Z (k + 1) = (cTo M (cAt M Z k) z) := by simp only [cAt]; rw [← HZ.out, nxt, if_neg h6, if_pos HRR.out]
              have eL : chr M (cAt M Z k) (Z k) = 121 := by rw [← HZ.out, chr, if_neg h6, if_pos HRR.out, HK.out]; rfl
              refine ⟨k + 1, l2, by omega, by go_num, ?_, ?_, ?_, HBb.out⟩
              · rw [letters_succ, eL, List.map_append]; exact HO7b.out
              · rw [counts_succ, eC, List.map_append]; exact HO8b.out
              · rw [eC]; exact HFb.out
            case measure => simp [intOf]; omega
          | false =>
            have hsz := B2.out.size
            have l7 := letters_len M Z k
            have l8 := counts_len M Z k
            go_wp2_with (first
              | (at_builtin; refine wpList_append_own _ rfl (.tmp 37) (.tmp 39) 41 rfl w.heap.size 5 i8 (.int .u8 0) 1 1 Tryd.underlying41 P8.out.1 P8.out.2.1 P8.out.2.2.1 P8.out.2.2.2 rfl (by decide) _ _ _ rfl (O7.out.alloc _) ⟨w2.heap.size, 0, none⟩ 1 1 [.int .u8 110] rfl rfl (cell_one_new _ _ _) (by intro u hu; simp at hu; subst hu; rfl) (by unfold maxLen; omega) (by omega) (by simp; omega) ?_; intro v7' wa hown7 hg7 _; have HO7a := Lib.hid hown7; have HO8a := Lib.hid (keep_row O7.out hg7 O8.out (by decide)); have HFa := Lib.hid (keep_f O7.out hg7 F2.out (by decide)); have HBa := Lib.hid (keep_b O7.out hg7 B2.out hsz); have hsa := HBa.out.size; clear hown7 hg7)
              | (go_at_call 14; refine (caught_calls g M _ _ _ HFa.out).mono ?_; rintro e w' ⟨rfl, rfl⟩)
              | (at_builtin; refine wpList_append_own _ rfl (.tmp 41) (.tmp 44) 25 rfl w.heap.size 3 iI (.int .i64 0) 1 8 Tryd.underlying25 PI.out.1 PI.out.2.1 PI.out.2.2.1 PI.out.2.2.2 rfl (by decide) _ _ _ rfl (HO8a.out.alloc _) ⟨wa.heap.size, 0, none⟩ 1 1 [.int .i64 (cTo M (cAt M Z k) z)] rfl rfl (cell_one_new _ _ _) (by intro u hu; simp at hu; subst hu; rfl) (by unfold maxLen; omega) (by omega) (by simp; omega) ?_; intro v8' wb hown8 hg8 _; have HO8b := Lib.hid hown8; have HO7b := Lib.hid (keep_row HO8a.out hg8 HO7a.out (by decide)); have HFb := Lib.hid (keep_f HO8a.out hg8 HFa.out (by decide)); have HBb := Lib.hid (keep_b HO8a.out hg8 HBa.out hsa); clear hown8 hg8))
            go_roundw
            case rel =>
              have eC : cAt M Z (k + 1) = (cTo M (cAt M Z k) z) := by simp only [cAt]; rw [← HZ.out, nxt, if_neg h6, if_pos HRR.out]
              have eL : chr M (cAt M Z k) (Z k) = 110 := by rw [← HZ.out, chr, if_neg h6, if_pos HRR.out, HK.out]; rfl
              refine ⟨k + 1, l2, by omega, by go_num, ?_, ?_, ?_, HBb.out⟩
              · rw [letters_succ, eL, List.map_append]; exact HO7b.out
              · rw [counts_succ, eC, List.map_append]; exact HO8b.out
              · rw [eC]; exact HFb.out
            case measure => simp [intOf]; omega
        · have HRR := Lib.hid hr
          by_cases r0 : 0 ≤ z
          · have d0 : decide (0 ≤ z) = true := by simpa using r0
            have d1 : decide (z ≤ 7) = false := by simp; omega
            clear hr
            have hsz := HB.out.size
            have l7 := letters_len M Z k
            have l8 := counts_len M Z k
            go_wp2_with (first
              | (at_builtin; refine wpList_append_own _ rfl (.tmp 37) (.tmp 39) 41 rfl w.heap.size 5 i8 (.int .u8 0) 1 1 Tryd.underlying41 P8.out.1 P8.out.2.1 P8.out.2.2.1 P8.out.2.2.2 rfl (by decide) _ _ _ rfl (HO7.out.alloc _) ⟨wr.heap.size, 0, none⟩ 1 1 [.int .u8 45] rfl rfl (cell_one_new _ _ _) (by intro u hu; simp at hu; subst hu; rfl) (by unfold maxLen; omega) (by omega) (by simp; omega) ?_; intro v7' wa hown7 hg7 _; have HO7a := Lib.hid hown7; have HO8a := Lib.hid (keep_row HO7.out hg7 HO8.out (by decide)); have HFa := Lib.hid (keep_f HO7.out hg7 HF.out (by decide)); have HBa := Lib.hid (keep_b HO7.out hg7 HB.out hsz); have hsa := HBa.out.size; clear hown7 hg7)
              | (go_at_call 14; refine (caught_calls g M _ _ _ HFa.out).mono ?_; rintro e w' ⟨rfl, rfl⟩)
              | (at_builtin; refine wpList_append_own _ rfl (.tmp 41) (.tmp 44) 25 rfl w.heap.size 3 iI (.int .i64 0) 1 8 Tryd.underlying25 PI.out.1 PI.out.2.1 PI.out.2.2.1 PI.out.2.2.2 rfl (by decide) _ _ _ rfl (HO8a.out.alloc _) ⟨wa.heap.size, 0, none⟩ 1 1 [.int .i64 (cAt M Z k)] rfl rfl (cell_one_new _ _ _) (by intro u hu; simp at hu; subst hu; rfl) (by unfold maxLen; omega) (by omega) (by simp; omega) ?_; intro v8' wb hown8 hg8 _; have HO8b := Lib.hid hown8; have HO7b := Lib.hid (keep_row HO8a.out hg8 HO7a.out (by decide)); have HFb := Lib.hid (keep_f HO8a.out hg8 HFa.out (by decide)); have HBb := Lib.hid (keep_b HO8a.out hg8 HBa.out hsa); clear hown8 hg8))
            go_roundw
            case rel =>
              have eC : cAt M Z (k + 1) = (cAt M Z k) := by simp only [cAt]; rw [← HZ.out, nxt, if_neg h6, if_neg HRR.out]
              have eL : chr M (cAt M Z k) (Z k) = 45 := by rw [← HZ.out, chr, if_neg h6, if_neg HRR.out]
              refine ⟨k + 1, l, by omega, by go_num, ?_, ?_, ?_, HBb.out⟩
              · rw [letters_succ, eL, List.map_append]; exact HO7b.out
              · rw [counts_succ, eC, List.map_append]; exact HO8b.out
              · rw [eC]; exact HFb.out
            case measure => simp [intOf]; omega
          · have d0 : decide (0 ≤ z) = false := by simpa using r0
            clear hr
            have hsz := HB.out.size
            have l7 := letters_len M Z k
            have l8 := counts_len M Z k
            go_wp2_with (first
              | (at_builtin; refine wpList_append_own _ rfl (.tmp 37) (.tmp 39) 41 rfl w.heap.size 5 i8 (.int .u8 0) 1 1 Tryd.underlying41 P8.out.1 P8.out.2.1 P8.out.2.2.1 P8.out.2.2.2 rfl (by decide) _ _ _ rfl (HO7.out.alloc _) ⟨wr.heap.size, 0, none⟩ 1 1 [.int .u8 45] rfl rfl (cell_one_new _ _ _) (by intro u hu; simp at hu; subst hu; rfl) (by unfold maxLen; omega) (by omega) (by simp; omega) ?_; intro v7' wa hown7 hg7 _; have HO7a := Lib.hid hown7; have HO8a := Lib.hid (keep_row HO7.out hg7 HO8.out (by decide)); have HFa := Lib.hid (keep_f HO7.out hg7 HF.out (by decide)); have HBa := Lib.hid (keep_b HO7.out hg7 HB.out hsz); have hsa := HBa.out.size; clear hown7 hg7)
              | (go_at_call 14; refine (caught_calls g M _ _ _ HFa.out).mono ?_; rintro e w' ⟨rfl, rfl⟩)
              | (at_builtin; refine wpList_append_own _ rfl (.tmp 41) (.tmp 44) 25 rfl w.heap.size 3 iI (.int .i64 0) 1 8 Tryd.underlying25 PI.out.1 PI.out.2.1 PI.out.2.2.1 PI.out.2.2.2 rfl (by decide) _ _ _ rfl (HO8a.out.alloc _) ⟨wa.heap.size, 0, none⟩ 1 1 [.int .i64 (cAt M Z k)] rfl rfl (cell_one_new _ _ _) (by intro u hu; simp at hu; subst hu; rfl) (by unfold maxLen; omega) (by omega) (by simp; omega) ?_; intro v8' wb hown8 hg8 _; have HO8b := Lib.hid hown8; have HO7b := Lib.hid (keep_row HO8a.out hg8 HO7a.out (by decide)); have HFb := Lib.hid (keep_f HO8a.out hg8 HFa.out (by decide)); have HBb := Lib.hid (keep_b HO8a.out hg8 HBa.out hsa); clear hown8 hg8))
            go_roundw
            case rel =>
              have eC : cAt M Z (k + 1) = (cAt M Z k) := by simp only [cAt]; rw [← HZ.out, nxt, if_neg h6, if_neg HRR.out]
              have eL : chr M (cAt M Z k) (Z k) = 45 := by rw [← HZ.out, chr, if_neg h6, if_neg HRR.out]
              refine ⟨k + 1, l, by omega, by go_num, ?_, ?_, ?_, HBb.out⟩
              · rw [letters_succ, eL, List.map_append]; exact HO7b.out
              · rw [counts_succ, eC, List.map_append]; exact HO8b.out
              · rw [eC]; exact HFb.out
            case measure => simp [intOf]; omega
    · obtain rfl : k = n := by omega
      have hcv := conv_own HO7.out
      go_wp2
      go_ret2
      exact ⟨_, rfl, HO8.out, HB.out⟩
end Go.Proofs.YtmanibjmcdbgaaaDoor
