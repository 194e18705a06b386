/- What is taken out (int). -/
import Derived.Test.YtodlcdpgiejnpaaPopI
namespace Go.Proofs.Ytodlcdpgiejnpaa.QI
set_option linter.unusedVariables false
set_option linter.unusedSimpArgs false
open Go.RowKit Hp

def PopQ (g b cap : Nat) (most num : Int) (n : Nat) (L1 : List (It X)) (w1 : World) (F : Act) (e : Exit) (a' : Act) (w' : World) : Prop :=
  match e with
  | .normal => a' = F ∧ isQ w' g most num (.slice (some ⟨b, 0, none⟩) n cap) ∧ ro w' b L1 cap ∧ w1.grownBy w' (some b)
  | _ => False

theorem isQ.kept {w w' : World} {g b : Nat} {most num : Int} {v : Value} (h : isQ w g most num v) (hg : w.grownBy w' (some b)) (hne : b ≠ g) : isQ w' g most num v :=
  (hg.block g (blk_lt h) (by simpa using fun e => hne e.symm)).trans h

theorem popW {w : World} {g b cap n : Nat} {most num : Int} {L : List (It X)} (hq : isQ w g most num (.slice (some ⟨b, 0, none⟩) n cap)) (hr : ro w b L cap) (l k : Nat) (hne : b ≠ g) (hl : L.length = l + 1) (hk : l < cap) :
    isQ ((w.setCells b (l * 5) [.int .i64 0, .int .i64 0, .int .i64 0, .int .u64 0, (Value.int .i64) 0]).setCell ⟨g, 2, none⟩ (.slice (some ⟨b, 0, none⟩) l cap)) g most num (.slice (some ⟨b, 0, none⟩) l cap) ∧
    ro ((w.setCells b (l * 5) [.int .i64 0, .int .i64 0, .int .i64 0, .int .u64 0, (Value.int .i64) 0]).setCell ⟨g, 2, none⟩ (.slice (some ⟨b, 0, none⟩) l cap)) b (L.take l) cap ∧
    Fr w ((w.setCells b (l * 5) [.int .i64 0, .int .i64 0, .int .i64 0, .int .u64 0, (Value.int .i64) 0]).setCell ⟨g, 2, none⟩ (.slice (some ⟨b, 0, none⟩) l cap)) g (some b) (some b) := by
  have h1 := grown_setCells w b (l * 5) [.int .i64 0, .int .i64 0, .int .i64 0, .int .u64 0, (Value.int .i64) 0]
  have h2 := hq.kept h1 hne
  have h3 := (hr.take l).spoil l [.int .i64 0, .int .i64 0, .int .i64 0, .int .u64 0, (Value.int .i64) 0] rfl (by simp; omega) hk
  generalize w.setCells b (l * 5) [.int .i64 0, .int .i64 0, .int .i64 0, .int .u64 0, (Value.int .i64) 0] = W at *
  refine ⟨blk_set h2 2 _, h3.kept (Below.heap_setCell W _ _ b hne), (Fr.of_grown h1).trans ⟨rfl, rfl, rfl, by simp [World.setCell], fun k _ h1 _ => Below.heap_setCell W _ _ k h1, .inl rfl⟩⟩

set_option maxRecDepth 100000 in
set_option maxHeartbeats 3200000 in
theorem pop_calls (g : Nat) (bo : Option Nat) (most num : Int) (y z : It X) (L : List (It X)) (w : World) (h : HasQ w g bo most num L) (hh : IsHeap L) (h0 : L[0]? = some y) (hz : L[L.length - 1]? = some z) (hlen : L.length ≤ 65536) :
    Calls Try.prog 15 #[.pointer (some ⟨g, 0, none⟩)] w fun e w' => e = .returned (.tuple #[(Value.int .i64) y.x, .int .i64 y.t, .bool true]) ∧
      ∃ L', HasQ w' g bo most num L' ∧ L'.Perm ((L.set 0 z).take (L.length - 1)) ∧ IsHeap L' ∧ Fr w w' g bo bo := by
  have hpk := peek_calls g bo most num y L w h h0 hlen
  obtain ⟨cap, hq, h1, h2⟩ := h
  have hlt := (List.getElem?_eq_some_iff.1 h0).1
  cases bo with
  | none => obtain ⟨rfl, _⟩ := h1 rfl; simp at hlt
  | some b =>
    obtain ⟨hne, hr⟩ := h2 b rfl
    simp only [sl, Option.map_some] at hq
    obtain ⟨l, hl⟩ : ∃ l, l = L.length - 1 := ⟨_, rfl⟩
    have hcl : L.length ≤ cap := by obtain ⟨_, _, _, h, _⟩ := hr; exact h
    have hcm : cap ≤ maxLen := by obtain ⟨_, _, _, _, h, _⟩ := hr; exact h
    rw [← hl] at hz
    obtain ⟨m, hm⟩ : ∃ m, m = L.length := ⟨_, rfl⟩
    have hml : m = l + 1 := by omega
    rw [← hm, hml] at hq
    have HPK := Lib.hid hpk
    have HM := Lib.hid (show L.length = l + 1 by omega)
    have HR := Lib.hid hr
    have HQ := Lib.hid hq
    have HZ := Lib.hid hz
    have HH := Lib.hid hh
    have hl5 : (l : Int) < (l : Int) + 1 := by omega
    have hl6 : (0 : Int) ≤ (l : Int) := by omega
    have hl7 : (l : Int) ≤ 65535 := by omega
    have hl8 : (l : Int) ≤ (cap : Int) := by omega
    have hl9 : (0 : Int) < (l : Int) + 1 := by omega
    clear hpk hr hq hz hh h0 h1 h2 hm hml hlt hl
    go_enter Try.func15, Try.ntmps15
    go_wp2_with fail
    refine HPK.out.mono ?_
    rintro e w1 ⟨rfl, hB1⟩
    have hq1 : isQ w1 g most num (.slice (some ⟨b, 0, none⟩) (l + 1) cap) := blk_below HQ.out hB1 (blk_lt HQ.out)
    have hr1 : ro w1 b L cap := HR.out.kept (hB1.block b HR.out.lt)
    have c2 := blk_cell hq1 2
    have HQ1 := Lib.hid hq1
    have HR1 := Lib.hid hr1
    have HB1 := Lib.hid hB1
    have hzr := range5 (hr1.range l z HZ.out)
    have hfr : ∀ i, w1.frozen? ⟨b, i, none⟩ = false := by obtain ⟨cur, h, _⟩ := hr1; exact fun i => blk_frozen h i
    obtain ⟨y0, hy0⟩ : ∃ y0, L[0]? = some y0 := ⟨_, List.getElem?_eq_getElem (by have := HM.out; omega)⟩
    have hyr := range5 (hr1.range 0 y0 hy0)
    simp only [Nat.zero_mul, Nat.zero_add] at hyr
    clear hq1 hr1 hB1 hy0
    go_wp2
    apply wp_through (PopQ g b cap most num (l + 1) (L.set 0 z) w1)
    case h =>
      have HS := Lib.hid ((HR1.out.set 0 z (by have := HM.out; omega)).kept (w' := (w1.setCells b (0 * 5) (enc (Value.int .i64) z)).drew) rfl)
      have HS2 := Lib.hid (grown_trans (grown_setCells w1 b (0 * 5) (enc (Value.int .i64) z)) (grown_drew _ _))
      have HS3 := Lib.hid (HQ1.out.kept HS2.out hne)
      go_region
      exact ⟨rfl, HS3.out, HS.out, HS2.out⟩
    intro e a' w2 hPQ
    cases e <;> try exact hPQ.elim
    obtain ⟨rfl, hq2, hr2, hg2⟩ := hPQ
    have HW := Lib.hid (popW hq2 hr2 l 0 hne (by have := HM.out; simp; omega) (by have := HM.out; omega))
    have d2 := blk_cell hq2 2
    have df := blk_frozen hq2 2
    obtain ⟨z0, hz0⟩ : ∃ z0, (L.set 0 z)[l]? = some z0 := ⟨_, List.getElem?_eq_getElem (by have := HM.out; simp; omega)⟩
    have hz0r := range5 (hr2.range l z0 hz0)
    have hfr2 : ∀ i, w2.frozen? ⟨b, i, none⟩ = false := by obtain ⟨cur, h, _⟩ := hr2; exact fun i => blk_frozen h i
    have HG2 := Lib.hid hg2
    have hgb : ¬ g = b := fun e => hne e.symm
    clear hq2 hr2 hg2 hz0 hzr hyr hfr c2
    go_wp2_with fail
    have hlen2 : ((L.set 0 z).take l).length = l := by have := HM.out; simp; omega
    have hds := down_start L HH.out z l (by have := HM.out; omega)
    refine (sink_calls g b cap most num ((L.set 0 z).take l) 0 _ (by rw [hlen2]; exact HW.out.1) HW.out.2.1 hne hds (.inr rfl) (by omega)).mono ?_
    rintro e w3 ⟨rfl, L', hp, hh, hr3, hg3⟩
    have hq3 := HW.out.1.kept hg3 hne
    have hl3 := hp.length_eq
    have HE := Lib.hid (show ∃ L', HasQ w3 g (some b) most num L' ∧ L'.Perm ((L.set 0 z).take (L.length - 1)) ∧ IsHeap L' ∧ Fr w w3 g (some b) (some b) from
      ⟨L', ⟨cap, by rw [hl3, hlen2]; exact hq3, by simp, fun b' hb' => by injection hb' with hb'; subst hb'; exact ⟨hne, hr3⟩⟩, by rw [HM.out]; exact hp, hh,
        (((Fr.of_below HB1.out).trans (Fr.of_grown HG2.out)).trans HW.out.2.2).trans (Fr.of_grown hg3)⟩)
    clear hlen2 hds hp hh hr3 hg3 hq3 hl3 d2 df hz0r hfr2
    go_wp2
    go_ret3
    exact ⟨rfl, HE.out⟩
end Go.Proofs.Ytodlcdpgiejnpaa.QI
