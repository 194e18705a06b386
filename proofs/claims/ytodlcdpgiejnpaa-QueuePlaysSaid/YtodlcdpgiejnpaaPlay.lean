/- queue.Play: what it tells, for every script. -/
import Derived.Test.YtodlcdpgiejnpaaOps
import Derived.Deep.CutRange
import Derived.Deep.DeepCutAuto
import Derived.Deep.CutBlock
import Derived.Deep.DeepFit
import Derived.Handy
namespace Go.Proofs.Ytodlcdpgiejnpaa
set_option linter.unusedVariables false
set_option linter.unusedSimpArgs false
open Go.RowKit Hp QI

theorem opInfo : (Try.prog.info? 30).map (fun i => (i.zero, i.size, i.bytes)) = some (some (.agg #[.int .i64 0, .int .i64 0, .bool false, .int .i64 0]), 4, 32) := by kernel_rfl

/-- a round's state -/
structure PlayIn (w : World) (most : Int) (ops : List Opp) (g : Nat) (v : Value) (k : Nat) (wr : World) : Prop where
  q : ∃ bo, QAt wr g bo most (stQ most ops k).1 (stQ most ops k).2 ∧ (∀ b, bo = some b → w.heap.size ≤ b) ∧ (∀ b, v.ownBlock = some b → b ≠ g ∧ some b ≠ bo)
  own : wr.ownsRow w.heap.size 30 4 v k ((tells most ops k).flatMap tcells)
  bel : Below w.heap.size w wr

/-- one block alone was written -/
structure Only (w w' : World) (j : Nat) : Prop where
  os : w'.os = w.os
  tape : w'.tape = w.tape
  output : w'.output = w.output
  size : w'.heap.size = w.heap.size
  block : ∀ i, i ≠ j → w'.heap[i]? = w.heap[i]?
theorem Only.refl (w : World) (j : Nat) : Only w w j := ⟨rfl, rfl, rfl, rfl, fun _ _ => rfl⟩
theorem Only.set {w w' : World} {j : Nat} (h : Only w w' j) (i : Nat) (u : Value) : Only w (w'.setCell ⟨j, i, none⟩ u) j :=
  ⟨h.os, h.tape, h.output, by simpa [World.setCell] using h.size, fun k hk => (Below.heap_setCell w' _ u k hk).trans (h.block k hk)⟩

abbrev W0 (wo : World) (o : Opp) : World := (wo.alloc (.cells (ocells o).toArray 28)).alloc (.cells #[.int .i64 0, .int .i64 0, .bool false, .int .i64 0] 30)

/-- behind the switch -/
structure PlayMid (wo : World) (most : Int) (st : Int × List (It Int)) (T : Tl) (g : Nat) (bo bo' : Option Nat) (wx : World) : Prop where
  os : wx.os = wo.os
  tape : wx.tape = wo.tape
  output : wx.output = wo.output
  size : wo.heap.size + 2 ≤ wx.heap.size
  block : ∀ j, j < wo.heap.size → j ≠ g → some j ≠ bo → wx.heap[j]? = wo.heap[j]?
  at_ : bo' = bo ∨ ∃ k, bo' = some k ∧ wo.heap.size + 2 ≤ k
  q : QAt wx g bo' most st.1 st.2
  told : wx.heap[wo.heap.size + 1]? = some (.cells (tcells T).toArray 30 (0, 0))
theorem mid_of {wo w3 wx : World} {o : Opp} {most : Int} {st : Int × List (It Int)} {T : Tl} {g : Nat} {bo bo' : Option Nat} (hF : Fr (W0 wo o) w3 g bo bo') (hq : QAt w3 g bo' most st.1 st.2) (hx : Only w3 wx (wo.heap.size + 1))
    (hg : g < wo.heap.size) (hb : ∀ b, bo = some b → b < wo.heap.size) (ht : wx.heap[wo.heap.size + 1]? = some (.cells (tcells T).toArray 30 (0, 0))) : PlayMid wo most st T g bo bo' wx := by
  have hs : (W0 wo o).heap.size = wo.heap.size + 2 := by simp [W0]
  have hsz := hF.size
  refine ⟨hx.os.trans hF.os, hx.tape.trans hF.tape, hx.output.trans hF.output, by rw [hx.size]; omega, fun j hj h1 h2 => ?_, ?_, hq.kept (hx.block g (by omega)) (fun b hb' => hx.block b ?_), ht⟩
  · rw [hx.block j (by omega), hF.block j (by omega) h1 h2]
    rw [heap_alloc_old _ _ (by simp; omega), heap_alloc_old _ _ hj]
  · rcases hF.at_ with e | ⟨k, e, hk⟩
    · exact .inl e
    · exact .inr ⟨k, e, by omega⟩
  · rcases hF.at_ with e | ⟨k, e, hk⟩
    · have := hb b (e ▸ hb'); omega
    · rw [e] at hb'; injection hb' with hb'; omega
theorem w0_q {wo : World} {o : Opp} {g : Nat} {bo : Option Nat} {most num : Int} {S : List (It Int)} (h : QAt wo g bo most num S) : QAt (W0 wo o) g bo most num S :=
  h.below (((Below.refl wo.heap.size wo).alloc (Nat.le_refl _) _).alloc (by simp) _)
theorem w0_8 (wo : World) (o : Opp) : (W0 wo o).heap[wo.heap.size]? = some (.cells (ocells o).toArray 28 (0, 0)) := by
  rw [heap_alloc_old _ _ (by simp)]; exact heap_alloc_new wo _
theorem w0_9 (wo : World) (o : Opp) : (W0 wo o).heap[wo.heap.size + 1]? = some (.cells #[.int .i64 0, .int .i64 0, .bool false, .int .i64 0] 30 (0, 0)) := by
  have := heap_alloc_new (wo.alloc (.cells (ocells o).toArray 28)) (.cells #[.int .i64 0, .int .i64 0, .bool false, .int .i64 0] 30)
  simpa using this
theorem fr_9 {wo w3 : World} {o : Opp} {g : Nat} {bo bo' : Option Nat} (hF : Fr (W0 wo o) w3 g bo bo') (hg : g < wo.heap.size) (hb : ∀ b, bo = some b → b < wo.heap.size) :
    w3.heap[wo.heap.size + 1]? = some (.cells #[.int .i64 0, .int .i64 0, .bool false, .int .i64 0] 30 (0, 0)) :=
  (hF.block _ (by simp [W0]) (by omega) (fun e => by have := hb _ e.symm; omega)).trans (w0_9 wo o)

theorem own_mid {wo wx : World} {most : Int} {st : Int × List (It Int)} {T : Tl} {g base k : Nat} {bo bo' : Option Nat} {v : Value} {xs : List Value} (hM : PlayMid wo most st T g bo bo' wx) (h : wo.ownsRow base 30 4 v k xs)
    (hvb : ∀ b, v.ownBlock = some b → b ≠ g ∧ some b ≠ bo) : wx.ownsRow base 30 4 v k xs := by
  obtain ⟨hl, h | ⟨q, cap, cur, rfl, hb, hq, r⟩⟩ := h
  · exact ⟨hl, .inl h⟩
  · exact ⟨hl, .inr ⟨q, cap, cur, rfl, hb, (hM.block q (blk_lt hq) (hvb q rfl).1 (hvb q rfl).2).trans hq, r⟩⟩
theorem mid_next {w wo wx w4 : World} {most : Int} {ops : List Opp} {o : Opp} {g k : Nat} {bo bo' : Option Nat} {v v' : Value}
    (hown : wo.ownsRow w.heap.size 30 4 v k ((tells most ops k).flatMap tcells)) (hbel : Below w.heap.size w wo) (hbo : ∀ b, bo = some b → w.heap.size ≤ b) (hbl : ∀ b, bo = some b → b < wo.heap.size)
    (hvb : ∀ b, v.ownBlock = some b → b ≠ g ∧ some b ≠ bo) (hglt : g < wo.heap.size) (hgw : g = w.heap.size) (hM : PlayMid wo most (stepQ most (stQ most ops k) o).1 (stepQ most (stQ most ops k) o).2 g bo bo' wx)
    (h1 : w4.ownsRow w.heap.size 30 4 v' (k + 1) ((tells most ops k).flatMap tcells ++ tcells (stepQ most (stQ most ops k) o).2)) (h2 : wx.grownBy w4 v.ownBlock) (h3 : v'.ownBlock = v.ownBlock ∨ ∃ q, v'.ownBlock = some q ∧ wx.heap.size ≤ q) (ho : ops[k]? = some o) :
    PlayIn w most ops g v' (k + 1) w4 := by
  have hvl := hown.lt
  have hsz := hM.size
  have hql := hM.q.lt
  have hbo' : ∀ b, bo' = some b → some b ≠ v.ownBlock ∧ w.heap.size ≤ b := by
    intro b hb
    rcases hM.at_ with e | ⟨q, e, hq⟩
    · rw [e] at hb
      exact ⟨fun e2 => (hvb b e2.symm).2 hb.symm, hbo b hb⟩
    · rw [e] at hb; injection hb with hb
      refine ⟨fun e2 => by have := hvl b e2.symm; omega, ?_⟩
      have := hbel.size; omega
  refine ⟨⟨bo', ?_, fun b hb => (hbo' b hb).2, fun b hb => ?_⟩, ?_, ?_⟩
  · rw [stQ_succ most ops k o ho]
    refine hM.q.kept (h2.block g hql.1 (fun e => (hvb g e.symm).1 rfl)) fun b hb => h2.block b (hql.2 b hb).1 (hbo' b hb).1
  · rcases h3 with e | ⟨q, e, hq⟩
    · rw [e] at hb
      refine ⟨(hvb b hb).1, fun e2 => (hbo' b e2.symm).1 hb.symm⟩
    · rw [e] at hb; injection hb with hb
      refine ⟨by omega, fun e2 => by have := hql.2 b e2.symm; omega⟩
  · rw [tells_succ most ops k o ho, List.flatMap_append, List.flatMap_cons, List.flatMap_nil, List.append_nil]
    exact h1
  · have hb2 := hbel.size
    have hsz2 := h2.size
    refine ⟨h2.os.trans (hM.os.trans hbel.os), h2.tape.trans (hM.tape.trans hbel.tape), h2.output.trans (hM.output.trans hbel.output), by omega, fun j hj => ?_⟩
    rw [h2.block j (by omega) (fun e => by have := hvl j e.symm; omega), hM.block j (by omega) (by omega) (fun e => by have := hbo j e.symm; omega), hbel.block j hj]

set_option maxRecDepth 100000 in
set_option maxHeartbeats 6400000 in
theorem play_walk (m0 : Int) (A : Option Addr) (c : Nat) (ops : List Opp) (w : World) (hA : OpsAt w A ops) (hn : ops.length * 40 ≤ 140737488351232) (hD : (∃ o ∈ ops, o.kd = 5) → DropSpec) :
    Calls Try.prog 9 #[.int .i64 m0, .slice A ops.length c] w fun e w' => ∃ v, e = .returned v ∧ w'.ownsRow w.heap.size 30 4 v ops.length ((tells (min (max m0 0) 65536) ops ops.length).flatMap tcells) ∧ Below w.heap.size w w' := by
  obtain ⟨most, hmost⟩ : ∃ most, most = min (max m0 0) 65536 := ⟨_, rfl⟩
  rw [← hmost]
  obtain ⟨n, hnl⟩ : ∃ n, n = ops.length := ⟨_, rfl⟩
  rw [← hnl] at hn ⊢
  have HA := Lib.hid hA
  have HM := Lib.hid hmost
  have HN := Lib.hid hnl
  have HD := Lib.hid hD
  clear hA hmost hnl hD
  go_enter Try.func9, Try.ntmps9
  go_wp2_with fail
  refine (new_at m0 _).mono ?_
  rintro e w1 ⟨rfl, hQ1, hB1⟩
  obtain ⟨g, hg⟩ : ∃ g, g = w.heap.size := ⟨_, rfl⟩
  rw [← hg] at hQ1
  have HG := Lib.hid hg
  have hP0 : PlayIn w most ops g (.slice none 0 0) 0 w1 := ⟨⟨none, by rw [HM.out]; exact hQ1, by simp, by simp [Value.ownBlock]⟩, World.ownsRow_nil _ _ _ _, hB1⟩
  have HP0 := Lib.hid hP0
  rw [← hg]
  clear hQ1 hB1 hP0 hg
  go_wp2_with fail
  go_loopw [6, 14] (fun v i wr => ∃ k : Nat, k ≤ n ∧ i = .int .i64 k ∧ PlayIn w most ops g v k wr) (fun _ i _ => n - (intOf i).toNat)
  case atStart => exact ⟨0, Nat.zero_le _, rfl, HP0.out⟩
  case round =>
    rename World => wo
    obtain ⟨k, hk, rfl, hP⟩ := hrel
    by_cases hlt : k < n
    · obtain ⟨o, ho⟩ : ∃ o, ops[k]? = some o := ⟨_, List.getElem?_eq_getElem (by have := HN.out; omega)⟩
      obtain ⟨⟨bo, hQ, hbo, hvb⟩, hown, hbel⟩ := hP
      have hAw := HA.out.below hbel
      obtain ⟨B, off, rfl, hB, c0, c1, c2, c3, c4⟩ := hAw k o ho
      have hql := hQ.lt
      have hglt := hql.1
      have HBL := Lib.hid (show ∀ b, bo = some b → b < wo.heap.size from fun b hb => (hql.2 b hb).1)
      have HQ := Lib.hid hQ
      have HBO := Lib.hid hbo
      have HVB := Lib.hid hvb
      have HOW := Lib.hid hown
      have HBE := Lib.hid hbel
      have HO := Lib.hid ho
      have HQ0 := Lib.hid (w0_q (o := o) hQ)
      obtain ⟨st, hst⟩ : ∃ st, st = stQ most ops k := ⟨_, rfl⟩
      rw [← hst] at HQ HQ0
      have HST := Lib.hid hst
      clear hQ hbo hvb hown hbel hAw ho hql hst
      go_upto_block 2 with fail
      go_cut [14] from 14 to 71 (fun i wx => i = .int .i64 k ∧ ∃ bo', PlayMid wo most (stepQ most st o).1 (stepQ most st o).2 g bo bo' wx)
      case first =>
        have hnum := stQ_num most ops k
        rw [← HST.out] at hnum
        have hnum1 : st.1 < 9223372036854775807 := by omega
        clear hnum
        by_cases k1 : o.kd = 1
        · obtain ⟨kd, ot, orr, on, ox⟩ := o
          simp only at k1
          subst k1
          by_cases hf : (st.2.length : Int) < most
          · have HS := Lib.hid (show stepQ most st ⟨1, ot, orr, on, ox⟩ = ((st.1 + 1, ins ⟨ot, orr, on, st.1 + 1, ox⟩ st.2), ⟨0, 0, true, 0⟩) by unfold stepQ; rw [if_pos rfl, if_pos hf])
            have HC := Lib.hid (push_at HQ0.out ot orr on ox hf hnum1)
            clear hf hnum1
            go_wp2_with fail
            refine HC.out.mono ?_
            rintro e w3 ⟨rfl, bo', hq3, hF⟩
            have b9 := fr_9 hF hglt HBL.out
            have x2 := blk_cell b9 2
            have z2 := blk_frozen b9 2
            have hw9 := blk_lt b9
            have HB9 := Lib.hid b9
            have HQ3 := Lib.hid hq3
            have HF := Lib.hid hF
            clear b9 hq3 hF
            go_wp2_with fail
            go_meet
            case rel => exact ⟨rfl, bo', by rw [HS.out]; exact mid_of HF.out HQ3.out ((Only.refl _ _).set 2 _) hglt HBL.out (blk_set HB9.out 2 _)⟩
          · have hful : (st.2.length : Int) = most := by have := HQ.out.2.2.1; omega
            have HS := Lib.hid (show stepQ most st ⟨1, ot, orr, on, ox⟩ = (st, ⟨0, 0, false, 0⟩) by unfold stepQ; rw [if_pos rfl, if_neg hf])
            have HC := Lib.hid (push_full_at HQ0.out ot orr on ox hful)
            clear hf hful hnum1
            go_wp2_with fail
            refine HC.out.mono ?_
            rintro e w3 ⟨rfl, hB3⟩
            have hF : Fr (W0 wo ⟨1, ot, orr, on, ox⟩) w3 g bo bo := Fr.of_below hB3
            have hq3 := HQ0.out.below hB3
            clear hB3
            have b9 := fr_9 hF hglt HBL.out
            have x2 := blk_cell b9 2
            have z2 := blk_frozen b9 2
            have hw9 := blk_lt b9
            have HB9 := Lib.hid b9
            have HQ3 := Lib.hid hq3
            have HF := Lib.hid hF
            clear b9 hq3 hF
            go_wp2_with fail
            go_meet
            case rel => exact ⟨rfl, bo, by rw [HS.out]; exact mid_of HF.out HQ3.out ((Only.refl _ _).set 2 _) hglt HBL.out (blk_set HB9.out 2 _)⟩
        · have q1 : (o.kd == 1) = false := by simpa using k1
          by_cases k2 : o.kd = 2
          · obtain ⟨kd, ot, orr, on, ox⟩ := o
            simp only at k2
            subst k2
            obtain ⟨nm, S⟩ := st
            cases S with
            | nil =>
              have HS := Lib.hid (show stepQ most (nm, []) ⟨2, ot, orr, on, ox⟩ = ((nm, []), ⟨0, 0, false, 0⟩) from rfl)
              have HC := Lib.hid ((pop_none_at HQ0.out).mono fun e w' ⟨he, hw⟩ => (⟨he, hw ▸ Below.refl _ _⟩ : _ ∧ Below (W0 wo ⟨2, ot, orr, on, ox⟩).heap.size (W0 wo ⟨2, ot, orr, on, ox⟩) w'))
              go_wp2_with fail
              refine HC.out.mono ?_
              rintro e w3 ⟨rfl, hB3⟩
              have hF : Fr (W0 wo ⟨2, ot, orr, on, ox⟩) w3 g bo bo := Fr.of_below hB3
              have hq3 := HQ0.out.below hB3
              have b9 := fr_9 hF hglt HBL.out
              have x0 := blk_cell b9 0
              have z0 := blk_frozen b9 0
              have x1 := blk_cell b9 1
              have z1 := blk_frozen b9 1
              have x2 := blk_cell b9 2
              have z2 := blk_frozen b9 2
              have hw9 := blk_lt b9
              have HB9 := Lib.hid b9
              have HQ3 := Lib.hid hq3
              have HF := Lib.hid hF
              clear b9 hq3 hF
              go_wp2_with fail
              go_meet
              case rel => exact ⟨rfl, bo, by rw [HS.out]; exact mid_of HF.out HQ3.out ((((Only.refl _ _).set 0 _).set 1 _).set 2 _) hglt HBL.out (blk_set (blk_set (blk_set HB9.out 0 _) 1 _) 2 _)⟩
            | cons y S =>
              have HS := Lib.hid (show stepQ most (nm, y :: S) ⟨2, ot, orr, on, ox⟩ = ((nm, S), ⟨y.x, y.t, true, 0⟩) from rfl)
              have HC := Lib.hid (pop_at HQ0.out)
              go_wp2_with fail
              refine HC.out.mono ?_
              rintro e w3 ⟨rfl, hq3, hF⟩
              have b9 := fr_9 hF hglt HBL.out
              have x0 := blk_cell b9 0
              have z0 := blk_frozen b9 0
              have x1 := blk_cell b9 1
              have z1 := blk_frozen b9 1
              have x2 := blk_cell b9 2
              have z2 := blk_frozen b9 2
              have hw9 := blk_lt b9
              have HB9 := Lib.hid b9
              have HQ3 := Lib.hid hq3
              have HF := Lib.hid hF
              clear b9 hq3 hF
              go_wp2_with fail
              go_meet
              case rel => exact ⟨rfl, bo, by rw [HS.out]; exact mid_of HF.out HQ3.out ((((Only.refl _ _).set 0 _).set 1 _).set 2 _) hglt HBL.out (blk_set (blk_set (blk_set HB9.out 0 _) 1 _) 2 _)⟩
          · have q2 : (o.kd == 2) = false := by simpa using k2
            by_cases k3 : o.kd = 3
            · obtain ⟨kd, ot, orr, on, ox⟩ := o
              simp only at k3
              subst k3
              obtain ⟨nm, S⟩ := st
              cases S with
              | nil =>
                have HS := Lib.hid (show stepQ most (nm, []) ⟨3, ot, orr, on, ox⟩ = ((nm, []), ⟨0, 0, false, 0⟩) from rfl)
                have HC := Lib.hid ((peek_none_at HQ0.out).mono fun e w' ⟨he, hw⟩ => (⟨he, hw ▸ Below.refl _ _⟩ : _ ∧ Below (W0 wo ⟨3, ot, orr, on, ox⟩).heap.size (W0 wo ⟨3, ot, orr, on, ox⟩) w'))
                go_wp2_with fail
                refine HC.out.mono ?_
                rintro e w3 ⟨rfl, hB3⟩
                have hF : Fr (W0 wo ⟨3, ot, orr, on, ox⟩) w3 g bo bo := Fr.of_below hB3
                have hq3 := HQ0.out.below hB3
                have b9 := fr_9 hF hglt HBL.out
                have x0 := blk_cell b9 0
                have z0 := blk_frozen b9 0
                have x1 := blk_cell b9 1
                have z1 := blk_frozen b9 1
                have x2 := blk_cell b9 2
                have z2 := blk_frozen b9 2
                have hw9 := blk_lt b9
                have HB9 := Lib.hid b9
                have HQ3 := Lib.hid hq3
                have HF := Lib.hid hF
                clear b9 hq3 hF
                go_wp2_with fail
                go_meet
                case rel => exact ⟨rfl, bo, by rw [HS.out]; exact mid_of HF.out HQ3.out ((((Only.refl _ _).set 0 _).set 1 _).set 2 _) hglt HBL.out (blk_set (blk_set (blk_set HB9.out 0 _) 1 _) 2 _)⟩
              | cons y S =>
                have HS := Lib.hid (show stepQ most (nm, y :: S) ⟨3, ot, orr, on, ox⟩ = ((nm, y :: S), ⟨y.x, y.t, true, 0⟩) from rfl)
                have HC := Lib.hid (peek_at HQ0.out)
                go_wp2_with fail
                refine HC.out.mono ?_
                rintro e w3 ⟨rfl, hB3⟩
                have hF : Fr (W0 wo ⟨3, ot, orr, on, ox⟩) w3 g bo bo := Fr.of_below hB3
                have hq3 := HQ0.out.below hB3
                clear hB3
                have b9 := fr_9 hF hglt HBL.out
                have x0 := blk_cell b9 0
                have z0 := blk_frozen b9 0
                have x1 := blk_cell b9 1
                have z1 := blk_frozen b9 1
                have x2 := blk_cell b9 2
                have z2 := blk_frozen b9 2
                have hw9 := blk_lt b9
                have HB9 := Lib.hid b9
                have HQ3 := Lib.hid hq3
                have HF := Lib.hid hF
                clear b9 hq3 hF
                go_wp2_with fail
                go_meet
                case rel => exact ⟨rfl, bo, by rw [HS.out]; exact mid_of HF.out HQ3.out ((((Only.refl _ _).set 0 _).set 1 _).set 2 _) hglt HBL.out (blk_set (blk_set (blk_set HB9.out 0 _) 1 _) 2 _)⟩
            · have q3 : (o.kd == 3) = false := by simpa using k3
              by_cases k4 : o.kd = 4
              · obtain ⟨kd, ot, orr, on, ox⟩ := o
                simp only at k4
                subst k4
                have HS := Lib.hid (show stepQ most st ⟨4, ot, orr, on, ox⟩ = (st, ⟨0, 0, false, st.2.length⟩) from rfl)
                have HC := Lib.hid ((len_at HQ0.out).mono fun e w' ⟨he, hw⟩ => (⟨he, hw ▸ Below.refl _ _⟩ : _ ∧ Below (W0 wo ⟨4, ot, orr, on, ox⟩).heap.size (W0 wo ⟨4, ot, orr, on, ox⟩) w'))
                go_wp2_with fail
                refine HC.out.mono ?_
                rintro e w3 ⟨rfl, hB3⟩
                have hF : Fr (W0 wo ⟨4, ot, orr, on, ox⟩) w3 g bo bo := Fr.of_below hB3
                have hq3 := HQ0.out.below hB3
                have b9 := fr_9 hF hglt HBL.out
                have x3 := blk_cell b9 3
                have z3 := blk_frozen b9 3
                have hw9 := blk_lt b9
                have HB9 := Lib.hid b9
                have HQ3 := Lib.hid hq3
                have HF := Lib.hid hF
                clear b9 hq3 hF
                go_wp2_with fail
                go_meet
                case rel => exact ⟨rfl, bo, by rw [HS.out]; exact mid_of HF.out HQ3.out ((Only.refl _ _).set 3 _) hglt HBL.out (blk_set HB9.out 3 _)⟩
              · have q4 : (o.kd == 4) = false := by simpa using k4
                by_cases k5 : o.kd = 5
                · have hds : DropSpec := HD.out ⟨o, List.mem_of_getElem? HO.out, k5⟩
                  obtain ⟨kd, ot, orr, on, ox⟩ := o
                  simp only at k5
                  subst k5
                  have HS := Lib.hid (show stepQ most st ⟨5, ot, orr, on, ox⟩ = ((st.1, st.2.filter fun y => decide (ox ≤ y.x)), ⟨0, 0, false, (st.2.length : Int) - ((st.2.filter fun y => decide (ox ≤ y.x)).length : Int)⟩) from rfl)
                  have HC := Lib.hid (hds g bo most st.1 st.2 wo.heap.size ⟨5, ot, orr, on, ox⟩ _ HQ0.out (by omega) (fun e => by have := HBL.out _ e.symm; omega) (w0_8 wo _))
                  clear hds
                  go_wp2_with fail
                  refine HC.out.mono ?_
                  rintro e w3 ⟨rfl, bo', hq3, hF⟩
                  have b9 := fr_9 hF hglt HBL.out
                  have x3 := blk_cell b9 3
                  have z3 := blk_frozen b9 3
                  have hw9 := blk_lt b9
                  have HB9 := Lib.hid b9
                  have HQ3 := Lib.hid hq3
                  have HF := Lib.hid hF
                  clear b9 hq3 hF
                  go_wp2_with fail
                  go_meet
                  case rel => exact ⟨rfl, bo', by rw [HS.out]; exact mid_of HF.out HQ3.out ((Only.refl _ _).set 3 _) hglt HBL.out (blk_set HB9.out 3 _)⟩
                · have q5 : (o.kd == 5) = false := by simpa using k5
                  have HS := Lib.hid (show stepQ most st o = (st, ⟨0, 0, false, 0⟩) by unfold stepQ; rw [if_neg k1, if_neg k2, if_neg k3, if_neg k4, if_neg k5])
                  have HB9 := Lib.hid (w0_9 wo o)
                  clear k1 k2 k3 k4 k5
                  go_wp2_with fail
                  go_meet
                  case rel => exact ⟨rfl, bo, by rw [HS.out]; exact mid_of (o := o) (Fr.refl _ _ _) HQ0.out (Only.refl _ _) hglt HBL.out HB9.out⟩
      case rest =>
        obtain ⟨rfl, bo', hM⟩ := hcut
        have hownx := own_mid hM HOW.out HVB.out
        have hb9 := hM.told
        have x0 := blk_cell hb9 0
        have x1 := blk_cell hb9 1
        have x2 := blk_cell hb9 2
        have x3 := blk_cell hb9 3
        simp only [tcells] at x0 x1 x2 x3
        have HOX := Lib.hid hownx
        have HMX := Lib.hid hM
        have hwx := hM.size
        have hbs := HBE.out.size
        obtain ⟨i0, hi0, hz0, hz1, hz2⟩ := info_parts opInfo
        have HI0 := Lib.hid (And.intro hi0 (And.intro hz0 (And.intro hz1 hz2)))
        clear hownx hb9 hM c0 c1 c2 c3 c4 hi0 hz0 hz1 hz2
        go_wp2_with (at_builtin; refine wpList_append_lies _ rfl _ _ _ rfl w.heap.size 30 i0 _ 4 32 Try.underlying24 HI0.out.1 HI0.out.2.1 HI0.out.2.2.1 HI0.out.2.2.2 rfl (by omega) u6 k ((tells most ops k).flatMap tcells) (by rfl) (HOX.out.alloc _) ⟨wc.heap.size, 0, none⟩ 1 1 (tcells (stepQ most st o).2) (by rfl) (by rfl) (World.news_of_block (cs := (tcells (stepQ most st o).2).toArray) (t := 30) (fr := (0, 0)) (heap_alloc_new wc _)) (by simp [tcells, Value.oneCell']) (by omega) (by simp [maxLen]; omega) (by omega) (by simp; omega) (wc.heap.size + 1) (by simp) ?_;intro gg cap' w4 hown4 hgrow hat hlt4)
        refine ⟨⟨k + 1, by omega, by go_num, ?_⟩, by simp [intOf]; omega⟩
        have hg2 : wc.grownBy w4 u6.ownBlock := ⟨hgrow.os, hgrow.tape, hgrow.output, by have := hgrow.size; simp at this; omega, fun j hj hne => (hgrow.block j (by simp; omega) hne).trans (heap_alloc_old wc _ hj)⟩
        have hM' := HMX.out
        rw [HST.out] at hM' hown4
        refine mid_next HOW.out HBE.out HBO.out HBL.out HVB.out hglt HG.out hM' hown4 hg2 ?_ HO.out
        rcases hat with e | e
        · exact .inl e.symm
        · exact .inr ⟨gg, rfl, by omega⟩
    · obtain rfl : k = n := by omega
      obtain ⟨_, hown, hbel⟩ := hP
      have HOW := Lib.hid hown
      have HBE := Lib.hid hbel
      clear hown hbel
      go_wp2
      go_ret
      exact ⟨_, rfl, HOW.out, HBE.out⟩
end Go.Proofs.Ytodlcdpgiejnpaa
