/- The law: what is pushed comes out in order. -/
import Derived.Test.YtodlcdpgiejnpaaPeeks
import Derived.OwnWalk
import Derived.Deep.CutRange
import Derived.Deep.DeepCutAuto
import Derived.Deep.CutBlock
namespace Go.Proofs.Ytodlcdpgiejnpaa
set_option linter.unusedVariables false
set_option linter.unusedSimpArgs false
open Go.RowKit Hp QI

def item (i : Nat) (o : Opp) : It Int := ⟨o.t, o.r, o.n, (i : Int) + 1, (i : Int)⟩
/-- each of them is one of the first k -/
def Off (ops : List Opp) (k : Nat) (S : List (It Int)) : Prop := ∀ y ∈ S, ∃ i o, i < k ∧ ops[i]? = some o ∧ y = item i o
theorem Off.ins {ops : List Opp} {k : Nat} {S : List (It Int)} (h : Off ops k S) (o : Opp) (ho : ops[k]? = some o) : Off ops (k + 1) (ins ⟨o.t, o.r, o.n, (k : Int) + 1, (k : Int)⟩ S) := by
  intro y hy
  rcases List.mem_cons.1 ((ins_perm _ S).mem_iff.1 hy) with rfl | hy
  · exact ⟨k, o, by omega, ho, rfl⟩
  · obtain ⟨i, o', hi, h1, h2⟩ := h y hy
    exact ⟨i, o', by omega, h1, h2⟩
/-- what was seen: one for each that is done -/
def SeenAt (w : World) (sb n : Nat) (D : List (It Int)) : Prop :=
  ∃ cs : Array Value, w.heap[sb]? = some (.cells cs 3 (0, 0)) ∧ cs.size = n ∧ ∀ i : Nat, i < n → cs[i]? = some (.int .i64 (if (∃ y ∈ D, y.x = (i : Int)) then 1 else 0))
theorem SeenAt.kept {w w' : World} {sb n : Nat} {D : List (It Int)} (h : SeenAt w sb n D) (hk : w'.heap[sb]? = w.heap[sb]?) : SeenAt w' sb n D := by
  obtain ⟨cs, h, r⟩ := h; exact ⟨cs, hk.trans h, r⟩
theorem SeenAt.lt {w : World} {sb n : Nat} {D : List (It Int)} (h : SeenAt w sb n D) : sb < w.heap.size := by obtain ⟨cs, h, r⟩ := h; exact blk_lt h
theorem SeenAt.cell {w : World} {sb n : Nat} {D : List (It Int)} (h : SeenAt w sb n D) (i : Nat) (hi : i < n) (hn : ∀ y ∈ D, y.x ≠ (i : Int)) : w.cell? ⟨sb, i, none⟩ = some (.int .i64 0) := by
  obtain ⟨cs, h, hs, hc⟩ := h
  rw [blk_cell h, hc i hi, if_neg (fun ⟨y, hy, e⟩ => hn y hy e)]
theorem SeenAt.set {w : World} {sb n : Nat} {D : List (It Int)} (h : SeenAt w sb n D) (i : Nat) (hi : i < n) (y : It Int) (hy : y.x = (i : Int)) : SeenAt (w.setCell ⟨sb, i, none⟩ (.int .i64 1)) sb n (D ++ [y]) := by
  obtain ⟨cs, h, hs, hc⟩ := h
  refine ⟨_, blk_set h i _, by simp [hs], fun j hj => ?_⟩
  by_cases hij : i = j
  · subst hij
    rw [Array.getElem?_setIfInBounds_self_of_lt (by omega), if_pos ⟨y, by simp, hy⟩]
  · rw [Array.getElem?_setIfInBounds_ne hij, hc j hj]
    by_cases hD : ∃ z ∈ D, z.x = (j : Int)
    · obtain ⟨z, hz, e⟩ := hD
      rw [if_pos ⟨z, hz, e⟩, if_pos ⟨z, by simp [hz], e⟩]
    · rw [if_neg hD, if_neg]
      rintro ⟨z, hz, e⟩
      rcases List.mem_append.1 hz with hz | hz
      · exact hD ⟨z, hz, e⟩
      · obtain rfl : z = y := by simpa using hz
        omega

theorem intInfo : (Try.prog.info? 3).map (fun i => (i.zero, i.size, i.bytes)) = some (some (.int .i64 0), 1, 8) := by kernel_rfl
theorem seen_start {w : World} {base sb n : Nat} (h : w.ownsRow base 3 1 (.slice (some ⟨sb, 0, none⟩) n n) n (madeCells (Value.int .i64 0).cells (n * 1)).toList) : SeenAt w sb n [] := by
  obtain ⟨hl, h | ⟨g', cap, cur, he, hb, hg, hn, hm, hs, ht⟩⟩ := h
  · cases h.1
  · simp only [Value.slice.injEq, Option.some.injEq, Addr.mk.injEq, and_true, true_and] at he
    obtain ⟨rfl, rfl⟩ := he
    refine ⟨cur, hg, by omega, fun i hi => ?_⟩
    rw [if_neg (by simp)]
    have hc : cur.toList = (madeCells (Value.int .i64 0).cells (n * 1)).toList := by rw [← ht, List.take_of_length_le (by simp; omega)]
    rw [← Array.getElem?_toList, hc, show (Value.int .i64 0).cells = #[Value.int .i64 0] from rfl, toList_madeCells_one, List.getElem?_replicate, if_pos (by omega)]
/-- the one that came out last -/
def lastOf (S : List (It Int)) : Nat → Int
  | 0 => -1
  | j + 1 => match S[j]? with | some y => y.x | none => 0
theorem lastOf_succ {S : List (It Int)} {j : Nat} {y : It Int} (h : S[j]? = some y) : lastOf S (j + 1) = y.x := by simp only [lastOf, h]
theorem sorted_before {S : List (It Int)} (h : Sorted S) {j j' : Nat} {y z : It Int} (hj : S[j]? = some y) (hz : S[j']? = some z) (hlt : j' < j) : fore z y = true := by
  obtain ⟨h1, e1⟩ := List.getElem?_eq_some_iff.1 hj
  obtain ⟨h2, e2⟩ := List.getElem?_eq_some_iff.1 hz
  have := List.pairwise_iff_getElem.1 h j' j h2 h1 hlt
  rw [e1, e2] at this
  exact this
theorem not_yet {ops : List Opp} {k : Nat} {S : List (It Int)} (h : Sorted S) (ho : Off ops k S) {j i : Nat} {o : Opp} (hj : S[j]? = some (item i o)) (hi : ops[i]? = some o) : ∀ z ∈ S.take j, z.x ≠ (i : Int) := by
  intro z hz e
  obtain ⟨j', hj'⟩ := List.mem_iff_getElem?.1 hz
  rw [List.getElem?_take] at hj'
  split at hj'
  · rename_i hlt
    have hf := sorted_before h hj hj' hlt
    obtain ⟨i', o', _, hi', rfl⟩ := ho z (List.mem_of_getElem? hj')
    have hii : i' = i := by have : (i' : Int) = (i : Int) := e; omega
    subst hii
    obtain rfl : o = o' := by simpa using hi.symm.trans hi'
    rw [fore_irrefl] at hf
    cases hf
  · cases hj'

theorem below_aad (w : World) (a b : Obj) : Below w.heap.size w ((w.alloc a).alloc b).drew := below_drewN (((Below.refl w.heap.size w).alloc (Nat.le_refl _) a).alloc (by simp) b) 1

set_option maxRecDepth 100000 in
set_option maxHeartbeats 6400000 in
theorem orders_main (A : Option Addr) (c : Nat) (ops0 : List Opp) (w : World) (hA : OpsAt w A ops0) (hn : ops0.length * 40 ≤ 140737488351232) (hc : ops0.length ≤ c) :
    Calls Try.prog 4 #[.slice A ops0.length c] w fun e w' => e = .returned (.bool true) ∧ Below w.heap.size w w' := by
  obtain ⟨n0, hn0⟩ : ∃ n0, n0 = ops0.length := ⟨_, rfl⟩
  obtain ⟨n, hn1⟩ : ∃ n, n = min n0 4000 := ⟨_, rfl⟩
  obtain ⟨ops, hops⟩ : ∃ ops, ops = ops0.take n := ⟨_, rfl⟩
  have hnl : n = ops.length := by rw [hops, List.length_take]; omega
  have hA' : OpsAt w A ops := by rw [hops]; exact hA.take n
  rw [← hn0] at hn hc ⊢
  have HA := Lib.hid hA'
  have HN := Lib.hid hnl
  have hn4 : n ≤ 4000 := by omega
  have hnc : n ≤ c := by omega
  have HM := Lib.hid hn1
  have hmin : (if (n0 : Int) ≤ 4000 then (n0 : Int) else 4000) = (n : Int) := by split <;> omega
  clear hA hn0 hops hnl hA'
  go_enter Try.func4, Try.ntmps4
  go_wp2_with fail
  refine (fixed_calls _).mono ?_
  rintro e w0 ⟨rfl, hB0⟩
  have HB0 := Lib.hid hB0
  clear hB0
  go_upto_region 3 with fail
  go_cut [0] from 15 to 19 (fun v wx => v = .slice A n c ∧ wx = w0)
  case first =>
    go_wp2_with fail
    all_goals go_meet
    all_goals exact ⟨by have := HM.out; congr 1; omega, rfl⟩
  case rest =>
    obtain ⟨rfl, rfl⟩ := hcut
    clear hc hnc hn hn1 hmin
    go_wp2_with fail
    refine (new_at 65536 _).mono ?_
    rintro e w1 ⟨rfl, hQ1, hB1⟩
    obtain ⟨g, hg⟩ : ∃ g, g = wc.heap.size := ⟨_, rfl⟩
    rw [← hg] at hQ1 ⊢
    have HQ1 := Lib.hid (show QIn w w1 g none 65536 0 [] from ⟨hQ1, by have := HB0.out.size; omega, by simp, HB0.out.trans (hB1.mono HB0.out.size)⟩)
    clear hQ1 hB1 hg
    go_wp2_with fail
    go_loopw [23] (fun i wr => ∃ (k : Nat) (bo : Option Nat) (S : List (It Int)), k ≤ n ∧ i = .int .i64 k ∧ S.length = k ∧ Off ops k S ∧ QIn w wr g bo 65536 k S) (fun i _ => n - (intOf i).toNat)
    case atStart => exact ⟨0, none, [], Nat.zero_le _, rfl, rfl, (fun y hy => by simp at hy), HQ1.out⟩
    case round =>
      rename World => wo
      obtain ⟨k, bo, S, hk, rfl, hSl, hOff, hQ⟩ := hrel
      clear HQ1
      by_cases hlt : k < n
      · obtain ⟨o, ho⟩ : ∃ o, ops[k]? = some o := ⟨_, List.getElem?_eq_getElem (by have := HN.out; omega)⟩
        obtain ⟨B, off, rfl, hB, c0, c1, c2, c3, c4⟩ := (HA.out.below hQ.bel) k o ho
        have HC := Lib.hid ((hQ.alloc (.cells #[.int .i64 o.kd, .int .i64 o.t, .int .i64 o.r, .int .i64 o.n, .int .i64 o.x] 28)).push o.t o.r o.n k (by omega) (by omega))
        have HO := Lib.hid (hOff.ins o ho)
        have HS := Lib.hid hSl
        clear hQ ho hOff hSl
        go_wp2_with fail
        refine HC.out.mono ?_
        rintro e w3 ⟨rfl, bo', hq3, hF⟩
        have HQ3 := Lib.hid hq3
        clear hq3 hF HC
        go_wp2
        exact ⟨⟨k + 1, bo', _, by omega, by go_num, by rw [ins_length, HS.out], HO.out, HQ3.out⟩, by simp [intOf]; omega⟩
      · obtain rfl : k = n := by omega
        have HQ := Lib.hid hQ
        have HO := Lib.hid hOff
        have HS := Lib.hid hSl
        clear hQ hOff hSl
        obtain ⟨i0, hi0, hz0, hz1, hz2⟩ := info_parts intInfo
        have HI0 := Lib.hid (And.intro hi0 (And.intro hz0 (And.intro hz1 hz2)))
        have hbs := HQ.out.bel.size
        clear hi0 hz0 hz1 hz2
        go_wp2_with (refine wpList_make_full _ rfl _ _ 41 rfl w.heap.size 3 i0 _ 1 Try.underlying41 HI0.out.1 HI0.out.2.1 HI0.out.2.2.1 .i64 .i64 _ _ k rfl rfl rfl rfl (by rw [HI0.out.2.2.2]; omega) (by simp [maxLen]; omega) hbs ?_; intro w2 hown2 hgrow2)
        obtain ⟨sb, hsb⟩ : ∃ sb, sb = wo.heap.size := ⟨_, rfl⟩
        rw [← hsb] at hown2 ⊢
        have hql := HQ.out.q.lt
        have hsbg : sb ≠ g := by omega
        have HSB := Lib.hid (show ∀ b, bo = some b → b ≠ sb from fun b hb => by have := (hql.2 b hb).1; omega)
        have HSN := Lib.hid (seen_start hown2)
        have HQ2 := Lib.hid (show QIn w w2 g bo 65536 k S from ⟨HQ.out.q.kept (hgrow2.block g hql.1 (by simp)) (fun b hb => hgrow2.block b (hql.2 b hb).1 (by simp)), HQ.out.g_, HQ.out.b_,
          ⟨hgrow2.os.trans HQ.out.bel.os, hgrow2.tape.trans HQ.out.bel.tape, hgrow2.output.trans HQ.out.bel.output, Nat.le_trans HQ.out.bel.size hgrow2.size, fun j hj => (hgrow2.block j (by omega) (by simp)).trans (HQ.out.bel.block j hj)⟩⟩)
        have HSD := Lib.hid HQ.out.q.2.1
        have hsbw : w.heap.size ≤ sb := by omega
        clear hown2 hgrow2 hql HQ hsb
        go_loopw [7, 44] (fun l i wr => ∃ (j : Nat), j ≤ k ∧ i = .int .i64 j ∧ l = .int .i64 (lastOf S j) ∧ QIn w wr g bo 65536 k (S.drop j) ∧ SeenAt wr sb k (S.take j)) (fun _ i _ => k - (intOf i).toNat)
        case atStart => exact ⟨0, Nat.zero_le _, rfl, rfl, HQ2.out, HSN.out⟩
        case round =>
          rename World => wp
          obtain ⟨j, hj, rfl, rfl, hQ, hSN⟩ := hrel
          clear HQ2 HSN
          by_cases hlt : j < k
          · obtain ⟨y, hy⟩ : ∃ y, S[j]? = some y := ⟨_, List.getElem?_eq_getElem (by have := HS.out; omega)⟩
            obtain ⟨i, o, hik, hio, rfl⟩ := HO.out y (List.mem_of_getElem? hy)
            obtain ⟨B, off, rfl, hB, c0, c1, c2, c3, c4⟩ := (HA.out.below hQ.bel) i o hio
            have hdrop : S.drop j = item i o :: S.drop (j + 1) := by
              rw [List.drop_eq_getElem_cons (by have := HS.out; omega)]
              congr 1
              have := (List.getElem?_eq_some_iff.1 hy).2
              exact this
            have htake : S.take (j + 1) = S.take j ++ [item i o] := by
              rw [List.take_succ_eq_append_getElem (by have := HS.out; omega)]
              congr 2
              exact (List.getElem?_eq_some_iff.1 hy).2
            rw [hdrop] at hQ
            have HNY := Lib.hid (not_yet HSD.out HO.out hy hio)
            have HC : Hid (Calls Try.prog 15 #[.pointer (some ⟨g, 0, none⟩)] wp fun e w' => e = .returned (.tuple #[.int .i64 (i : Int), .int .i64 o.t, .bool true]) ∧ QIn w w' g bo 65536 k (S.drop (j + 1)) ∧ Fr wp w' g bo bo) := Lib.hid hQ.pop
            have HT := Lib.hid htake
            have HY := Lib.hid hy
            have HIO := Lib.hid hio
            have HSN := Lib.hid hSN
            have HQB := Lib.hid hQ.bel
            clear hy hio hdrop htake hQ hSN c0 c1 c2 c3 c4
            go_wp2_with fail
            refine HC.out.mono ?_
            rintro e w5 ⟨rfl, hq5, hF5⟩
            have hsbl := HSN.out.lt
            have hSN5 : SeenAt w5 sb k (S.take j) := HSN.out.kept (hF5.block sb hsbl hsbg (fun e => HSB.out sb e.symm rfl))
            obtain ⟨B', off', hBB, hB5, c0, c1, c2, c3, c4⟩ := (HA.out.below hq5.bel) i o HIO.out
            injection hBB with hBB
            injection hBB with hB1 hB2 _
            subst hB1 hB2
            have s0 := hSN5.cell i hik HNY.out
            have sf : w5.frozen? ⟨sb, i, none⟩ = false := by obtain ⟨cs, h, _⟩ := hSN5; exact blk_frozen h i
            have i1 : (0 : Int) ≤ (i : Int) := by omega
            have i2 : (i : Int) < (k : Int) := by omega
            have i3 : decide ((i : Int) < 0) = false := by simp
            have i4 : decide ((k : Int) ≤ (i : Int)) = false := by simp; omega
            have hBsb : ¬ B = sb := by intro e; subst e; have := HA.out i o HIO.out; obtain ⟨B2, o2, e1, e2, _⟩ := this; injection e1 with e1; injection e1 with e1 _; omega
            have HQ5 := Lib.hid hq5
            have HSN5 := Lib.hid hSN5
            clear hq5 hF5 hSN5 HSN HC
            have HEnd : Hid (∀ wz, Below (w5.setCell ⟨sb, i, none⟩ (.int .i64 1)).heap.size (w5.setCell ⟨sb, i, none⟩ (.int .i64 1)) wz → QIn w wz g bo 65536 k (S.drop (j + 1)) ∧ SeenAt wz sb k (S.take (j + 1))) := Lib.hid (by
              intro wz hz
              have hset : SeenAt (w5.setCell ⟨sb, i, none⟩ (.int .i64 1)) sb k (S.take (j + 1)) := by rw [HT.out]; exact HSN5.out.set i hik (item i o) rfl
              have hq6 : QIn w (w5.setCell ⟨sb, i, none⟩ (.int .i64 1)) g bo 65536 k (S.drop (j + 1)) :=
                ⟨HQ5.out.q.kept (Below.heap_setCell w5 _ _ g hsbg.symm) (fun b hb => Below.heap_setCell w5 _ _ b (HSB.out b hb)), HQ5.out.g_, HQ5.out.b_, HQ5.out.bel.setCell hsbw _⟩
              exact ⟨hq6.next hz, hset.kept (hz.block sb hset.lt)⟩)
            have hl1 : lastOf S (j + 1) = (i : Int) := lastOf_succ HY.out
            have HL1 := Lib.hid hl1
            clear hl1
            cases j with
            | zero =>
              have hl0 : lastOf S 0 = -1 := rfl
              go_wp2
              refine ⟨⟨1, by omega, by go_num, by rw [HL1.out], HEnd.out _ (Below.refl _ _)⟩, by simp [intOf]; omega⟩
            | succ j =>
              obtain ⟨z, hz⟩ : ∃ z, S[j]? = some z := ⟨_, List.getElem?_eq_getElem (by have := HS.out; omega)⟩
              obtain ⟨i', o', hik', hio', rfl⟩ := HO.out z (List.mem_of_getElem? hz)
              have hl0 : lastOf S (j + 1) = (i' : Int) := lastOf_succ hz
              have hfo : fore (item i' o') (item i o) = true := sorted_before HSD.out HY.out hz (by omega)
              rw [fore_iff] at hfo
              simp only [item] at hfo
              obtain ⟨B', off', hBB, hB6, d0, d1, d2, d3, d4⟩ := (HA.out.below HQ5.out.bel) i' o' hio'
              injection hBB with hBB
              injection hBB with hB1 hB2 _
              subst hB1 hB2
              have p1 : (0 : Int) ≤ (i' : Int) := by omega
              have p2 : (i' : Int) < (k : Int) := by omega
              have hs5 : sb < w5.heap.size := HSN5.out.lt
              have hHL0 := Lib.hid hl0
              rw [hl0]
              clear hz hio' hl0
              obtain ⟨okd, ot, orr, on, ox⟩ := o
              obtain ⟨pkd, pt, pr, pn, px⟩ := o'
              simp only at hfo c0 c1 c2 c3 c4 d0 d1 d2 d3 d4
              have HF := Lib.hid hfo
              clear hfo
              go_wp2_with fail
              go_region
              all_goals
                rcases HF.out with h | ⟨h, h2 | ⟨h2, h3 | ⟨h3, h4⟩⟩⟩
                · have b1 : decide (ot < pt) = false := by simp; omega
                  have b2 : (pt == ot) = false := by simp; omega
                  clear h
                  go_wp2
                  exact ⟨⟨j + 2, by omega, by go_num, by rw [HL1.out], HEnd.out _ (below_aad _ _ _)⟩, by simp [intOf]; omega⟩
                · subst h
                  have b1 : decide (orr < pr) = false := by simp; omega
                  have b2 : (pr == orr) = false := by simp; omega
                  clear h2
                  go_wp2
                  exact ⟨⟨j + 2, by omega, by go_num, by rw [HL1.out], HEnd.out _ (below_aad _ _ _)⟩, by simp [intOf]; omega⟩
                · subst h
                  subst h2
                  have b1 : decide (on < pn) = false := by simp; omega
                  have b2 : (pn == on) = false := by simp; omega
                  clear h3
                  go_wp2
                  exact ⟨⟨j + 2, by omega, by go_num, by rw [HL1.out], HEnd.out _ (below_aad _ _ _)⟩, by simp [intOf]; omega⟩
                · subst h
                  subst h2
                  subst h3
                  have b1 : decide (i < i') = false := by simp; omega
                  clear h4
                  go_wp2
                  exact ⟨⟨j + 2, by omega, by go_num, by rw [HL1.out], HEnd.out _ (below_aad _ _ _)⟩, by simp [intOf]; omega⟩
          · obtain rfl : j = k := by omega
            have HQ := Lib.hid hQ
            have hd : S.drop j = [] := List.drop_eq_nil_of_le (by have := HS.out; omega)
            have HQ0 := Lib.hid (hd ▸ hQ)
            clear hQ hSN hd
            go_wp2_with fail
            refine (len_at HQ0.out.q).mono ?_
            rintro e w6 ⟨rfl, rfl⟩
            go_wp2
            go_ret
            exact ⟨rfl, HQ0.out.bel⟩
theorem orders_walk {H : Type} {enc : TypeId × Value → H} {base : Nat} {dd : DataW H} {p : List MemPlace} {ts : List TypeId} {ds : List (DataW H)} (v : Value) {w : World}
    (hok : Value.okWide Try.prog w .any base 22 v) (hr : DataW.Trod enc Try.prog w 0 (fun _ => true) true 22 v dd p)
    (hsz : (DataW.weightsEach Try.prog ts ds).all (· ≤ reachBytes) = true) (htj : ts[0]? = some 22) (hdj : ds[0]? = some dd) (w' : World) (hw : w' = w) :
    Calls Try.prog 4 #[v] w' fun e w1 => e = .returned (.bool true) ∧ Below w'.heap.size w' w1 := by
  subst hw
  obtain ⟨A, ops, c, rfl, hA, _, hc, hn⟩ := script_open hok hr hsz htj hdj
  exact orders_main A c ops _ hA hn hc
end Go.Proofs.Ytodlcdpgiejnpaa
