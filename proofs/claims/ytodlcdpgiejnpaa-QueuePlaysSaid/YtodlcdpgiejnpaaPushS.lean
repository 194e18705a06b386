/- What is laid in (string). -/
import Derived.Test.YtodlcdpgiejnpaaSinkS
import Derived.Test.YtodlcdpgiejnpaaQ
import Derived.Deep.RegionLaw
namespace Go.Proofs.Ytodlcdpgiejnpaa.QS
set_option linter.unusedVariables false
set_option linter.unusedSimpArgs false
open Go.RowKit Hp

def HasQ (w : World) (g : Nat) (bo : Option Nat) (most num : Int) (L : List (It X)) : Prop :=
  ∃ cap, isQ w g most num (sl bo L.length cap) ∧ (bo = none → L = [] ∧ cap = 0) ∧ ∀ b, bo = some b → b ≠ g ∧ ro w b L cap

theorem itemInfo : (Try.prog.info? 72).map (fun i => (i.zero, i.size, i.bytes)) = some (some (.agg #[.int .i64 0, .int .i64 0, .int .i64 0, .int .u64 0, Value.string ByteArray.empty]), 5, 48) := by kernel_rfl

theorem push_nil (t r n : Int) (x : X) (w : World) :
    Calls Try.prog 22 #[.pointer none, .int .i64 t, .int .i64 r, .int .i64 n, Value.string x] w fun e w' => e = .returned (.int .i64 1) ∧ w' = w := by
  go_enter Try.func22, Try.ntmps22
  go_wp2
  go_ret
  exact ⟨rfl, rfl⟩

set_option maxHeartbeats 1600000 in
theorem push_full (g : Nat) (bo : Option Nat) (most num : Int) (L : List (It X)) (t r n : Int) (x : X) (w : World) (h : HasQ w g bo most num L) (hf : (L.length : Int) = most) :
    Calls Try.prog 22 #[.pointer (some ⟨g, 0, none⟩), .int .i64 t, .int .i64 r, .int .i64 n, Value.string x] w fun e w' => e = .returned (.int .i64 6) ∧ Below w.heap.size w w' := by
  obtain ⟨cap, hq, h1, h2⟩ := h
  have c0 := blk_cell hq 0
  have c2 := blk_cell hq 2
  simp only [sl] at c2
  generalize (bo.map fun b => (⟨b, 0, none⟩ : Addr)) = A at *
  generalize L.length = m at *
  subst hf
  clear h1 h2 hq
  go_enter Try.func22, Try.ntmps22
  go_wp2
  go_quiet (fail)
  go_wp2
  go_ret
  exact ⟨rfl, below_drewN (Below.refl _ _) _⟩

theorem HasQ.owns {w : World} {g : Nat} {bo : Option Nat} {most num : Int} {L : List (It X)} (h : HasQ w g bo most num L) :
    ∃ cap, isQ w g most num (sl bo L.length cap) ∧ w.ownsRow 0 72 5 (sl bo L.length cap) L.length (L.flatMap en) ∧ (sl bo L.length cap).ownBlock = bo ∧ bo ≠ some g := by
  obtain ⟨cap, hq, h1, h2⟩ := h
  refine ⟨cap, hq, ?_⟩
  cases bo with
  | none =>
    obtain ⟨rfl, rfl⟩ := h1 rfl
    exact ⟨World.ownsRow_nil _ _ _ _, rfl, by simp⟩
  | some b =>
    obtain ⟨hne, hr⟩ := h2 b rfl
    exact ⟨hr.owns (Nat.zero_le _), rfl, by simpa using hne⟩

def PushQ (g m cap : Nat) (A : Option Addr) (most num : Int) (W : World) (cs : List Value) (F : Nat → Nat → Act) (e : Exit) (a' : Act) (w' : World) : Prop :=
  match e with
  | .normal => ∃ (gg cap' : Nat) (w1 : World), a' = F gg cap' ∧ w' = w1.setCell ⟨g, 2, none⟩ (.slice (some ⟨gg, 0, none⟩) (m + 1) cap') ∧
    w1.ownsRow 0 72 5 (.slice (some ⟨gg, 0, none⟩) (m + 1) cap') (m + 1) cs ∧
    W.grownBy w1 (Value.slice A m cap).ownBlock ∧ ((Value.slice A m cap).ownBlock = some gg ∨ gg = W.heap.size + 1) ∧ gg < w1.heap.size ∧ isQ w1 g most num (.slice A m cap)
  | _ => False

set_option maxRecDepth 100000 in
set_option maxHeartbeats 3200000 in
theorem push_calls (g : Nat) (bo : Option Nat) (most num : Int) (L : List (It X)) (t r n : Int) (x : X) (w : World) (h : HasQ w g bo most num L) (hh : IsHeap L) (hf : (L.length : Int) < most) (hm : most ≤ 65536) (hn0 : 0 ≤ num) (hn1 : num < 9223372036854775808) :
    Calls Try.prog 22 #[.pointer (some ⟨g, 0, none⟩), .int .i64 t, .int .i64 r, .int .i64 n, Value.string x] w fun e w' => e = .returned (.int .i64 0) ∧
      ∃ bo' L', HasQ w' g bo' most (num + 1) L' ∧ L'.Perm (⟨t, r, n, num + 1, x⟩ :: L) ∧ IsHeap L' ∧ Fr w w' g bo bo' := by
  obtain ⟨cap, hq, hown, hob, hbg⟩ := h.owns
  obtain ⟨A, hA⟩ : ∃ A, A = (bo.map fun b => (⟨b, 0, none⟩ : Addr)) := ⟨_, rfl⟩
  obtain ⟨m, hmL⟩ : ∃ m, m = L.length := ⟨_, rfl⟩
  simp only [sl] at hq hown hob
  rw [← hA, ← hmL] at hq hown hob
  have hlt : (m : Int) < most := by omega
  have hme : ((m : Int) == most) = false := by simp; omega
  have c0 := blk_cell hq 0
  have c1 := blk_cell hq 1
  have c2 := blk_cell hq 2
  have hg := blk_lt hq
  have fr := fun i => blk_frozen hq i
  have HQ := Lib.hid hq
  have HO := Lib.hid hown
  have HOB := Lib.hid hob
  have HA := Lib.hid hA
  have HML := Lib.hid hmL
  have HH := Lib.hid hh
  have HBG := Lib.hid hbg
  clear h hq hown hob hA hmL hf hh hbg
  go_enter Try.func22, Try.ntmps22
  go_wp2
  go_quiet (fail)
  go_wp2
  obtain ⟨W, hW⟩ : ∃ W, W = (w.drewN nq).setCell ⟨g, 1, none⟩ (.int .u64 (num + 1)) := ⟨_, rfl⟩
  have hd : Below w.heap.size w (w.drewN nq) := below_drewN (Below.refl _ _) _
  have hq1 : isQ W g most (num + 1) (.slice A m cap) := by rw [hW]; exact blk_set (blk_below HQ.out hd hg) 1 _
  have hgr : w.grownBy W (some g) := by
    rw [hW]
    exact ⟨hd.os, hd.tape, hd.output, by have := hd.size; simp [World.setCell] at this ⊢, fun k hk hne => (Below.heap_setCell _ _ _ k (fun e => hne (by rw [e]))).trans (hd.block k hk)⟩
  have hO1 : W.ownsRow 0 72 5 (.slice A m cap) m (L.flatMap en) := HO.out.kept hgr (.inr (by rw [HOB.out]; exact HBG.out))
  rw [← hW]
  clear hd hW c0 c1 c2 fr
  have d1 := blk_cell hq1 1
  have d2 := blk_cell hq1 2
  have f2 : W.frozen? ⟨g, 2, none⟩ = false := blk_frozen hq1 2
  have hgW := blk_lt hq1
  have HQ1 := Lib.hid hq1
  have HG1 := Lib.hid hgr
  have ag : (Value.slice A m cap).ownBlock ≠ some g := by rw [HOB.out]; exact HBG.out
  have AG := Lib.hid ag
  have HO1 := Lib.hid hO1
  obtain ⟨i0, hi0, hz0, hz1, hz2⟩ := info_parts itemInfo
  have HI0 := Lib.hid (And.intro hi0 (And.intro hz0 (And.intro hz1 hz2)))
  clear hq1 hgr hO1 ag hi0 hz0 hz1 hz2
  apply wp_through (PushQ g m cap A most (num + 1) W (L.flatMap en ++ en ⟨t, r, n, num + 1, x⟩))
  case h =>
    go_region_law
      ((refine step_append_lies _ (by rfl) _ _ _ (by rfl) 0 72 i0 _ 5 48 Try.underlying68 HI0.out.1 HI0.out.2.1 HI0.out.2.2.1 HI0.out.2.2.2 rfl (by omega) (.slice A m cap) m (L.flatMap en) (by rfl) ((HO1.out.alloc _).drew)
          ⟨W.heap.size, 0, none⟩ 1 1 (en ⟨t, r, n, num + 1, x⟩) (by rfl) (by rfl) (World.news_of_block (cs := (en ⟨t, r, n, num + 1, x⟩).toArray) (t := 72) (fr := (0, 0)) (heap_alloc_new W _)) (by simp [en, enc, Value.oneCell'])
          (by omega) (by simp [maxLen]; omega) (by omega) (by simp) (W.heap.size + 1) (by simp) ?_; intro gg cap' w1 hown1 hgrow hat hlt1; have hq2 : isQ w1 g most (num + 1) (.slice A m cap) := (hgrow.block g (by simp; omega) (Ne.symm AG.out)).trans ((heap_alloc_old W _ hgW).trans HQ1.out); have k2 := blk_cell hq2 2; have kf := blk_frozen hq2 2; have HQ2 := Lib.hid hq2; clear hq2))
    all_goals exact ⟨gg, cap', w1, rfl, rfl, hown1, ⟨hgrow.os, hgrow.tape, hgrow.output, by have := hgrow.size; simp at this; omega, fun k hk hne => (hgrow.block k (by simp; omega) hne).trans (heap_alloc_old W _ hk)⟩, hat, hlt1, HQ2.out⟩
  intro e a' w' hPQ
  cases e <;> try exact hPQ.elim
  obtain ⟨gg, cap', w1, rfl, rfl, hown1, hgrow, hat, hlt1, hq2⟩ := hPQ
  have HQ2 := Lib.hid hq2
  clear hq2
  obtain ⟨X0, hX0⟩ : ∃ X0 : It X, X0 = ⟨t, r, n, num + 1, x⟩ := ⟨_, rfl⟩
  have hgg : gg ≠ g := by
    rcases hat with e | e
    · rw [HOB.out] at e
      have := HBG.out
      rw [e] at this
      exact fun h => this (by rw [h])
    · omega
  have hrow : ro w1 gg (L ++ [X0]) cap' := (owns_row (L := L ++ [X0]) (by rw [List.flatMap_append, List.flatMap_cons, List.flatMap_nil, List.append_nil, hX0]; exact hown1) (by simp [HML.out])).1
  obtain ⟨w2, hw2⟩ : ∃ w2, w2 = w1.setCell ⟨g, 2, none⟩ (.slice (some ⟨gg, 0, none⟩) (m + 1) cap') := ⟨_, rfl⟩
  have hq3 : isQ w2 g most (num + 1) (.slice (some ⟨gg, 0, none⟩) (m + 1) cap') := by rw [hw2]; exact blk_set HQ2.out 2 _
  have hr3 : ro w2 gg (L ++ [X0]) cap' := hrow.kept (by rw [hw2]; exact Below.heap_setCell w1 _ _ gg hgg)
  have hF3 : Fr w w2 g bo (some gg) := by
    have h1 : Fr w W g bo bo := Fr.of_grownq HG1.out
    have h2 : Fr W w1 g bo (some gg) := by
      refine ⟨hgrow.os, hgrow.tape, hgrow.output, hgrow.size, fun k hk h1 h2 => hgrow.block k hk (by rw [HOB.out]; exact h2), ?_⟩
      rcases hat with e | e
      · exact .inl (by rw [← e, HOB.out])
      · exact .inr ⟨gg, rfl, by omega⟩
    have h3 : Fr w1 w2 g (some gg) (some gg) := by rw [hw2]; exact ⟨rfl, rfl, rfl, by simp [World.setCell], fun k _ h1 _ => Below.heap_setCell w1 _ _ k h1, .inl rfl⟩
    exact (h1.trans h2).trans h3
  rw [← hw2]
  clear hw2 hrow hown1 hgrow hat d1 d2 f2
  have HX0 := Lib.hid hX0
  have HQ3 := Lib.hid hq3
  have HR3 := Lib.hid hr3
  have HF3 := Lib.hid hF3
  have hg3 := blk_lt hq3
  have e2 := blk_cell hq3 2
  clear hX0 hq3 hr3 hF3
  go_wp2
  clear e2
  go_loopw [11] (fun v wr => ∃ (k : Nat) (L' : List (It X)), k ≤ m ∧ v = .int .i64 k ∧ L'.Perm (L ++ [X0]) ∧ UpInv L' k ∧ ro wr gg L' cap' ∧ w2.grownBy wr (some gg)) (fun v _ => (intOf v).toNat)
  case atStart => exact ⟨m, L ++ [X0], Nat.le_refl _, by go_num, .refl _, by rw [HML.out]; exact up_start L HH.out X0, HR3.out, ⟨rfl, rfl, rfl, Nat.le_refl _, fun _ _ _ => rfl⟩⟩
  case round =>
    obtain ⟨k, L', hk, rfl, hp, hup, hr, hgr⟩ := hrel
    have hl' : L'.length = m + 1 := by rw [hp.length_eq, List.length_append, HML.out]; rfl
    have hq4 : isQ wr g most (num + 1) (.slice (some ⟨gg, 0, none⟩) (m + 1) cap') := (hgr.block g hg3 (by simpa using fun e => hgg e.symm)).trans HQ3.out
    have hlt4 := hr.lt
    have e2 := blk_cell hq4 2
    have HQ4 := Lib.hid hq4
    have HR4 := Lib.hid hr
    have HP := Lib.hid hp
    have HU := Lib.hid hup
    have HG4 := Lib.hid hgr
    have HL4 := Lib.hid hl'
    have hEnd : ∀ wr', Below wr.heap.size wr wr' → IsHeap L' → ∃ bo' L', HasQ wr' g bo' most (num + 1) L' ∧ L'.Perm (⟨t, r, n, num + 1, x⟩ :: L) ∧ IsHeap L' ∧ Fr w wr' g bo bo' := by
      intro wr' hb hh
      refine ⟨some gg, L', ⟨cap', ?_, by simp, fun b hb' => ?_⟩, ?_, hh, HF3.out.trans (Fr.of_grown (grown_below hgr hb))⟩
      · rw [hl']; exact blk_below hq4 hb (blk_lt hq4)
      · injection hb' with hb'; subst hb'; exact ⟨hgg, hr.kept (hb.block _ hlt4)⟩
      · rw [← HX0.out]; exact hp.trans (List.perm_append_singleton X0 L)
    have HEnd := Lib.hid hEnd
    clear hq4 hr hp hup hgr hl' hEnd
    by_cases h0 : k = 0
    · subst h0
      have HH0 := Lib.hid (up_stop L' 0 HU.out (.inl rfl))
      go_wp2
      go_quiet (fail)
      go_wp2
      go_ret
      exact ⟨rfl, HEnd.out _ (below_drewN (Below.refl _ _) _) HH0.out⟩
    · have h1 : decide ((0 : Int) < (k : Int)) = true := by simp; omega
      obtain ⟨p, hp⟩ : ∃ p, p = (k - 1) / 2 := ⟨_, rfl⟩
      have hw1 : IntKind.i64.wrap ((k : Int) - 1) = (k : Int) - 1 := by simp [IntKind.wrap, IntKind.signed, IntKind.bits]; omega
      have hw2 : IntKind.i64.wrap (((k : Int) - 1).tdiv 2) = (p : Int) := by rw [IntWalk.i64_quo _ _ ⟨by omega, by omega, by omega⟩]; omega
      have i1 : (0 : Int) ≤ (k : Int) := by omega
      have i2 : (k : Int) < (m : Int) + 1 := by omega
      have i3 : (0 : Int) ≤ (p : Int) := by omega
      have i4 : (p : Int) < (m : Int) + 1 := by omega
      obtain ⟨x1, hX⟩ : ∃ x1, L'[k]? = some x1 := ⟨_, List.getElem?_eq_getElem (by have := HL4.out; omega)⟩
      obtain ⟨y1, hY⟩ : ∃ y1, L'[p]? = some y1 := ⟨_, List.getElem?_eq_getElem (by have := HL4.out; omega)⟩
      have hxr := range5 (HR4.out.range k x1 hX)
      have hyr := range5 (HR4.out.range p y1 hY)
      have HX := Lib.hid hX
      have HY := Lib.hid hY
      have HP2 := Lib.hid hp
      have hk0 : 0 < k := by omega
      clear hX hY hp h0
      go_wp2
      go_region_held3 (fun w' => w'.cell? ⟨g, 2, none⟩ = some (.slice (some ⟨gg, 0, none⟩) (m + 1) cap') ∧ (w'.cell? ⟨gg, k * 5, none⟩ = some (.int .i64 x1.t) ∧ w'.cell? ⟨gg, k * 5 + 1, none⟩ = some (.int .i64 x1.r) ∧ w'.cell? ⟨gg, k * 5 + 2, none⟩ = some (.int .i64 x1.n) ∧ w'.cell? ⟨gg, k * 5 + 3, none⟩ = some (.int .u64 x1.k) ∧ w'.cell? ⟨gg, k * 5 + 4, none⟩ = some (Value.string x1.x)) ∧
            (w'.cell? ⟨gg, p * 5, none⟩ = some (.int .i64 y1.t) ∧ w'.cell? ⟨gg, p * 5 + 1, none⟩ = some (.int .i64 y1.r) ∧ w'.cell? ⟨gg, p * 5 + 2, none⟩ = some (.int .i64 y1.n) ∧ w'.cell? ⟨gg, p * 5 + 3, none⟩ = some (.int .u64 y1.k) ∧ w'.cell? ⟨gg, p * 5 + 4, none⟩ = some (Value.string y1.x)))
          (first | (go_keep; done) | (go_split_ands; (repeat' constructor) <;> exact cellk (by assumption) (by assumption))) (first | (go_at_call 35; refine (ahead_calls x1 y1 _).mono ?_; rintro e' w' ⟨rfl, hB⟩))
      have hB' := undrew hB
      have hq5 : isQ w' g most (num + 1) (.slice (some ⟨gg, 0, none⟩) (m + 1) cap') := blk_below HQ4.out hB' (blk_lt HQ4.out)
      have hR5 : ro w' gg L' cap' := HR4.out.kept (hB'.block gg hlt4)
      have e5 := blk_cell hq5 2
      have hxr := range5 (hR5.range k x1 HX.out)
      have hyr := range5 (hR5.range p y1 HY.out)
      have hfr : ∀ i, w'.frozen? ⟨gg, i, none⟩ = false := by obtain ⟨cur, h, _⟩ := hR5; exact fun i => blk_frozen h i
      have HQ5 := Lib.hid hq5
      have HR5 := Lib.hid hR5
      have HB5 := Lib.hid hB'
      clear hq5 hR5 hB hB' e2
      cases hF : fore x1 y1
      · have HI := Lib.hid (up_stop L' k HU.out (.inr (fun a b ha hb => by
          obtain rfl : x1 = a := by simpa using HX.out.symm.trans ha
          rw [← HP2.out] at hb
          obtain rfl : y1 = b := by simpa using HY.out.symm.trans hb
          exact hF)))
        clear hF hxr hyr hfr e5
        go_wp2
        go_ret
        exact ⟨rfl, HEnd.out _ HB5.out HI.out⟩
      · have HI := Lib.hid (up_step L' k x1 y1 HU.out hk0 HX.out (by rw [← HP2.out]; exact HY.out) hF)
        have HS := Lib.hid (HR5.out.swapped k p x1 y1 HX.out (by have := HL4.out; have := HP2.out; omega))
        have HPm := Lib.hid (swap_perm L' k p x1 y1 HX.out HY.out)
        have hpk : ¬ k = p := by have := HP2.out; omega
        have hpk2 : ¬ p = k := by have := HP2.out; omega
        have hpk3 : p < k := by have := HP2.out; omega
        clear hF
        go_wp2
        go_region
        go_wp2
        exact ⟨⟨p, swap L' k p x1 y1, by omega, by go_num, HPm.out.trans HP.out, by rw [HP2.out] at *; exact HI.out, HS.out.1, grown_trans (grown_below HG4.out HB5.out) HS.out.2⟩, by simp [intOf]; have := HP2.out; omega⟩
end Go.Proofs.Ytodlcdpgiejnpaa.QS
