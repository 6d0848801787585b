-- PRINTED BY print.sh 35421559b90ae4d0a3588c463048766b98c2df88dd9212a6774a882060cdf62d: not written by this session
import Derived.Test.YtmcloifhgbehdaaGreatDoorPBasesStepsx0
import Derived.Test.YtmcloifhgbehdaaGreatDoorPBasesStepsx1
namespace Go.Proofs.YtmcloifhgbehdaaGreatDoor.PBasesSteps
open Go.RowKit Go.Proofs.YtmcloifhgbehdaaGreatDoorW.PrintWords Go.Proofs.YtmcloifhgbehdaaGreatDoorW.PrintLast Go.Proofs.YtmcloifhgbehdaaGreatDoorW.PrintMore
attribute [local go_sem] max2_int min2_int max_two min_two max_three min_three max_four min_four   -- for this text's walks alone
set_option linter.unusedVariables false
set_option linter.unusedSimpArgs false

/-! ### indep_elements: function 96 -/
def indep_elements.f (k : Nat) (a0_0 : Int) (a0_1 : Int) (a0_2 : Int) (a0_3 : Int) (l0_4 : List (List Int)) (l0_5 : List (S25)) (l1 : List Int) : Option (Bool) := (set_May.f k l1).bind fun t334 => (if t334 = true then (if (l1.length : Int) = 0 then (some true) else (if 0 ≤ (wrap64 ((l1.length : Int) - 1)) then (if (wrap64 ((l1.length : Int) - 1)) < (l1.length : Int) then (some (decide ((rd l1 (wrap64 ((l1.length : Int) - 1))) < a0_1))) else (none)) else (none))) else (some false))
theorem indep_elements.mono : ∀ a0 a1 a2 a3 a4 a5 a6 k, LeO (indep_elements.f k a0 a1 a2 a3 a4 a5 a6) (indep_elements.f (k + 1) a0 a1 a2 a3 a4 a5 a6) := by
  intro a0 a1 a2 a3 a4 a5 a6 k
  unfold indep_elements.f
  repeat' first
      | (with_reducible exact set_May.mono _ _)
      | (with_reducible exact LeO.refl _)
      | (with_reducible exact LeO.none _)
      | (with_reducible refine LeO.ite ?_ ?_)
      | (with_reducible refine LeO.bind ?_ (fun _ => ?_))
      | exact set_May.mono _ _
      | exact LeO.none _
      | refine LeO.ite ?_ ?_
      | refine LeO.bind ?_ (fun _ => ?_)
set_option maxHeartbeats 8000000 in
set_option maxRecDepth 100000 in
theorem indep_elements.calls (k : Nat) (a0_0 : Int) (a0_1 : Int) (a0_2 : Int) (a0_3 : Int) (A0_4 : Option Addr) (c0_4 : Nat) (l0_4 : List (List Int)) (A0_5 : Option Addr) (c0_5 : Nat) (l0_5 : List (S25)) (A1 : Option Addr) (c1 : Nat) (l1 : List Int) (r : Bool) (w : World) (hr0_4 : Kd.C (Kd.slice 3 (Kd.int .i64)) w A0_4 l0_4.length l0_4) (hc0_4 : l0_4.length ≤ c0_4) (hr0_5 : Kd.C k25 w A0_5 l0_5.length l0_5) (hc0_5 : l0_5.length ≤ c0_5) (hr1 : Kd.C (Kd.int .i64) w A1 l1.length l1) (hc1 : l1.length ≤ c1) (h : indep_elements.f k a0_0 a0_1 a0_2 a0_3 l0_4 l0_5 l1 = some r) :
    Calls Tryz.prog 96 #[.agg #[.int .i64 a0_0, .int .i64 a0_1, .int .i64 a0_2, .int .i64 a0_3, .slice A0_4 l0_4.length c0_4, .slice A0_5 l0_5.length c0_5], .slice A1 l1.length c1] w fun e w' => e = .returned (.bool r) ∧ Below w.heap.size w w' := by
  have hu25 := Tryz.underlying25
  have HR0_4 := Aside0.mk hr0_4
  have HC0_4 := Aside0.mk hc0_4
  clear hr0_4 hc0_4
  have HR0_5 := Aside0.mk hr0_5
  have HC0_5 := Aside0.mk hc0_5
  clear hr0_5 hc0_5
  have HR1 := Aside0.mk hr1
  have HC1 := Aside0.mk hc1
  clear hr1 hc1
  have HB := Aside0.mk (Below.refl w.heap.size w)
  have H : ((set_May.f k l1).bind fun t334 => (if t334 = true then (if (l1.length : Int) = 0 then (some true) else (if 0 ≤ (wrap64 ((l1.length : Int) - 1)) then (if (wrap64 ((l1.length : Int) - 1)) < (l1.length : Int) then (some (decide ((rd l1 (wrap64 ((l1.length : Int) - 1))) < a0_1))) else (none)) else (none))) else (some false))) = some r := h
  clear h
  replace H := Option.bind_eq_some_iff.mp H
  obtain ⟨t334, A30, H⟩ := H
  replace H : (if t334 = true then (if (l1.length : Int) = 0 then (some true) else (if 0 ≤ (wrap64 ((l1.length : Int) - 1)) then (if (wrap64 ((l1.length : Int) - 1)) < (l1.length : Int) then (some (decide ((rd l1 (wrap64 ((l1.length : Int) - 1))) < a0_1))) else (none)) else (none))) else (some false)) = some r := H
  have A3 := Aside0.mk A30
  clear A30
  by_cases c4 : t334 = true
  · subst c4
    have H1 : (if (l1.length : Int) = 0 then (some true) else (if 0 ≤ (wrap64 ((l1.length : Int) - 1)) then (if (wrap64 ((l1.length : Int) - 1)) < (l1.length : Int) then (some (decide ((rd l1 (wrap64 ((l1.length : Int) - 1))) < a0_1))) else (none)) else (none))) = some r := by rw [if_pos rfl] at H; exact H
    clear H
    have H := H1
    clear H1
    by_cases c5 : (l1.length : Int) = 0
    · rw [if_pos c5] at H
      have c5b0 : ((l1.length : Int) == 0) = true := beq_iff_eq.mpr c5
      have c5b1 : ((l1.length : Int) != 0) = false := bne_eq_false_iff_eq.mpr c5
      clear c5
      obtain rfl := Option.some.inj H
      go_enter Tryz.func96, Tryz.ntmps96
      go_wp2_with (first | ((with_reducible refine gate_dst (N := 2) rfl ?_); (try (refine gate_guard (by rfl) ?_; dsimp only)); refine box_event ?hg (N := 2) ?hd (cs := #[.int .i64 a0_0, .int .i64 a0_1, .int .i64 a0_2, .int .i64 a0_3, .slice A0_4 l0_4.length c0_4, .slice A0_5 l0_5.length c0_5]) (t := 25) ?hr ?_; (case hd => rfl); (case hg => rfl); (case hr => first | (go_simp; done) | (go_simp; rfl)); intro gb333 hg w6 hbox hb; have n0_ := Aside0.mk (below_step (by repeat (first | (with_reducible first | exact HB.out | apply below_alloc | apply pw_below_drewN | apply below_drew1) | exact HB.out)) hb); have n1_ := Aside0.mk (hbox); have n2_ := Aside0.mk ((by rw [hg]; exact (below_size (by repeat (first | (with_reducible first | exact HB.out | apply below_alloc | apply pw_below_drewN | apply below_drew1) | exact HB.out))) : w.heap.size ≤ gb333)); have n3_ := Aside0.mk ((by rw [hg]; exact (below_size (by repeat (first | (with_reducible first | exact HB.out | apply below_alloc | apply pw_below_drewN | apply below_drew1) | exact HB.out))) : w.heap.size ≤ gb333)); clear HB; have HB := n0_; have BK333 := n1_; have GW333 := n2_; have GE333 := n3_; clear n0_ n1_ n2_ n3_; clear hb hbox hg) | (go_at_call 125; (with_reducible refine (set_May.calls k _ _ l1 true _ ?side1 ?side2 A3.out).mono ?_); (case side1 => repeat (first | exact (Kd.C_below HR1.out HB.out) | (with_reducible refine Kd.C_alloc ?_ _) | (with_reducible refine Kd.C_drewN ?_ _) | (with_reducible refine Kd.C_drew ?_))); (case side2 => exact HC1.out); rintro e w' ⟨rfl, ⟨nd, rfl⟩⟩; (try first | exact ⟨rfl, _, World.drewN_drewN _ _ _⟩ | exact ⟨rfl, _, Eq.trans (World.drewN_drewN _ _ _) (congrArg (World.drewN _) (Nat.add_assoc _ _ _))⟩)))
      repeat (go_quiet (first | ((with_reducible refine gate_dst (N := 2) rfl ?_); (try (refine gate_guard (by rfl) ?_; dsimp only)); refine box_event ?hg (N := 2) ?hd (cs := #[.int .i64 a0_0, .int .i64 a0_1, .int .i64 a0_2, .int .i64 a0_3, .slice A0_4 l0_4.length c0_4, .slice A0_5 l0_5.length c0_5]) (t := 25) ?hr ?_; (case hd => rfl); (case hg => rfl); (case hr => first | (go_simp; done) | (go_simp; rfl)); intro gb333 hg w6 hbox hb; have n0_ := Aside0.mk (below_step (by repeat (first | (with_reducible first | exact HB.out | apply below_alloc | apply pw_below_drewN | apply below_drew1) | exact HB.out)) hb); have n1_ := Aside0.mk (hbox); have n2_ := Aside0.mk ((by rw [hg]; exact (below_size (by repeat (first | (with_reducible first | exact HB.out | apply below_alloc | apply pw_below_drewN | apply below_drew1) | exact HB.out))) : w.heap.size ≤ gb333)); have n3_ := Aside0.mk ((by rw [hg]; exact (below_size (by repeat (first | (with_reducible first | exact HB.out | apply below_alloc | apply pw_below_drewN | apply below_drew1) | exact HB.out))) : w.heap.size ≤ gb333)); clear HB; have HB := n0_; have BK333 := n1_; have GW333 := n2_; have GE333 := n3_; clear n0_ n1_ n2_ n3_; clear hb hbox hg) | (go_at_call 125; (with_reducible refine (set_May.calls k _ _ l1 true _ ?side1 ?side2 A3.out).mono ?_); (case side1 => repeat (first | exact (Kd.C_below HR1.out HB.out) | (with_reducible refine Kd.C_alloc ?_ _) | (with_reducible refine Kd.C_drewN ?_ _) | (with_reducible refine Kd.C_drew ?_))); (case side2 => exact HC1.out); rintro e w' ⟨rfl, ⟨nd, rfl⟩⟩; (try first | exact ⟨rfl, _, World.drewN_drewN _ _ _⟩ | exact ⟨rfl, _, Eq.trans (World.drewN_drewN _ _ _) (congrArg (World.drewN _) (Nat.add_assoc _ _ _))⟩))); try go_wp2_with (first | ((with_reducible refine gate_dst (N := 2) rfl ?_); (try (refine gate_guard (by rfl) ?_; dsimp only)); refine box_event ?hg (N := 2) ?hd (cs := #[.int .i64 a0_0, .int .i64 a0_1, .int .i64 a0_2, .int .i64 a0_3, .slice A0_4 l0_4.length c0_4, .slice A0_5 l0_5.length c0_5]) (t := 25) ?hr ?_; (case hd => rfl); (case hg => rfl); (case hr => first | (go_simp; done) | (go_simp; rfl)); intro gb333 hg w6 hbox hb; have n0_ := Aside0.mk (below_step (by repeat (first | (with_reducible first | exact HB.out | apply below_alloc | apply pw_below_drewN | apply below_drew1) | exact HB.out)) hb); have n1_ := Aside0.mk (hbox); have n2_ := Aside0.mk ((by rw [hg]; exact (below_size (by repeat (first | (with_reducible first | exact HB.out | apply below_alloc | apply pw_below_drewN | apply below_drew1) | exact HB.out))) : w.heap.size ≤ gb333)); have n3_ := Aside0.mk ((by rw [hg]; exact (below_size (by repeat (first | (with_reducible first | exact HB.out | apply below_alloc | apply pw_below_drewN | apply below_drew1) | exact HB.out))) : w.heap.size ≤ gb333)); clear HB; have HB := n0_; have BK333 := n1_; have GW333 := n2_; have GE333 := n3_; clear n0_ n1_ n2_ n3_; clear hb hbox hg) | (go_at_call 125; (with_reducible refine (set_May.calls k _ _ l1 true _ ?side1 ?side2 A3.out).mono ?_); (case side1 => repeat (first | exact (Kd.C_below HR1.out HB.out) | (with_reducible refine Kd.C_alloc ?_ _) | (with_reducible refine Kd.C_drewN ?_ _) | (with_reducible refine Kd.C_drew ?_))); (case side2 => exact HC1.out); rintro e w' ⟨rfl, ⟨nd, rfl⟩⟩; (try first | exact ⟨rfl, _, World.drewN_drewN _ _ _⟩ | exact ⟨rfl, _, Eq.trans (World.drewN_drewN _ _ _) (congrArg (World.drewN _) (Nat.add_assoc _ _ _))⟩))))
      go_ret
      exact ⟨by first | rfl | (simp [errW_none, errW_some] <;> rfl) | (simp [*, errW_none, errW_some] <;> rfl), by repeat (first | (with_reducible first | exact HB.out | apply below_alloc | apply pw_below_drewN | apply below_drew1 | refine below_set ?_ GE333.out) | exact HB.out)⟩
    · rw [if_neg c5] at H
      have c5b0 : ((l1.length : Int) == 0) = false := beq_eq_false_iff_ne.mpr c5
      have c5b1 : ((l1.length : Int) != 0) = true := bne_iff_ne.mpr c5
      have c5b2 : ¬ (l1 = []) := fun h_ => c5 (by rw [h_]; rfl)
      obtain ⟨ji7, hji7⟩ : ∃ j_ : Int, (wrap64 ((l1.length : Int) - 1)) = j_ := ⟨_, rfl⟩
      replace H : (if 0 ≤ (ji7) then (if (ji7) < (l1.length : Int) then (some (decide ((rd l1 (ji7)) < a0_1))) else (none)) else (none)) = some r := by first | (rw [hji7] at H; exact H) | (simp only [hji7] at H ⊢; exact H)
      (try rw [hji7] at A3)
      have hji7w : (IntKind.i64.wrap ((l1.length : Int) - 1)) = ji7 := (i64_w _).trans hji7
      by_cases c8 : 0 ≤ (ji7)
      · rw [if_pos c8] at H
        have c8b0 : decide (0 ≤ (ji7)) = true := decide_eq_true c8
        clear c8
        by_cases c9 : (ji7) < (l1.length : Int)
        · rw [if_pos c9] at H
          have c9b0 : decide ((ji7) < (l1.length : Int)) = true := decide_eq_true c9
          clear c9
          obtain rfl := Option.some.inj H
          go_enter Tryz.func96, Tryz.ntmps96
          go_wp2_with (first | ((with_reducible refine gate_dst (N := 2) rfl ?_); (try (refine gate_guard (by rfl) ?_; dsimp only)); refine box_event ?hg (N := 2) ?hd (cs := #[.int .i64 a0_0, .int .i64 a0_1, .int .i64 a0_2, .int .i64 a0_3, .slice A0_4 l0_4.length c0_4, .slice A0_5 l0_5.length c0_5]) (t := 25) ?hr ?_; (case hd => rfl); (case hg => rfl); (case hr => first | (go_simp; done) | (go_simp; rfl)); intro gb333 hg w10 hbox hb; have n0_ := Aside0.mk (below_step (by repeat (first | (with_reducible first | exact HB.out | apply below_alloc | apply pw_below_drewN | apply below_drew1) | exact HB.out)) hb); have n1_ := Aside0.mk (hbox); have n2_ := Aside0.mk ((by rw [hg]; exact (below_size (by repeat (first | (with_reducible first | exact HB.out | apply below_alloc | apply pw_below_drewN | apply below_drew1) | exact HB.out))) : w.heap.size ≤ gb333)); have n3_ := Aside0.mk ((by rw [hg]; exact (below_size (by repeat (first | (with_reducible first | exact HB.out | apply below_alloc | apply pw_below_drewN | apply below_drew1) | exact HB.out))) : w.heap.size ≤ gb333)); clear HB; have HB := n0_; have BK333 := n1_; have GW333 := n2_; have GE333 := n3_; clear n0_ n1_ n2_ n3_; clear hb hbox hg) | (go_at_call 125; (with_reducible refine (set_May.calls k _ _ l1 true _ ?side1 ?side2 A3.out).mono ?_); (case side1 => repeat (first | exact (Kd.C_below HR1.out HB.out) | (with_reducible refine Kd.C_alloc ?_ _) | (with_reducible refine Kd.C_drewN ?_ _) | (with_reducible refine Kd.C_drew ?_))); (case side2 => exact HC1.out); rintro e w' ⟨rfl, ⟨nd, rfl⟩⟩; (try first | exact ⟨rfl, _, World.drewN_drewN _ _ _⟩ | exact ⟨rfl, _, Eq.trans (World.drewN_drewN _ _ _) (congrArg (World.drewN _) (Nat.add_assoc _ _ _))⟩); have p335 : 0 ≤ ((ji7) : Int) := of_decide_eq_true (by first | (with_reducible assumption) | assumption); have q335 : (ji7) < (l1.length : Int) := of_decide_eq_true (by first | (with_reducible assumption) | assumption); obtain ⟨ad335, e335, hx335_0⟩ := Kd.at_int HR1.out (ji7) p335 q335; cases e335; replace hx335_0 := (HB.out.cell (World.block_lt_of_cell? w _ hx335_0)).trans hx335_0; replace p335 := eq_true p335; replace q335 := eq_true q335; have hcz11_0 : w10.cell? ⟨gb333, 0, none⟩ = some (.int .i64 a0_0) := (blk_cell BK333.out 0).trans rfl; have hcz11_1 : w10.cell? ⟨gb333, 1, none⟩ = some (.int .i64 a0_1) := (blk_cell BK333.out 1).trans rfl; have hcz11_2 : w10.cell? ⟨gb333, 2, none⟩ = some (.int .i64 a0_2) := (blk_cell BK333.out 2).trans rfl; have hcz11_3 : w10.cell? ⟨gb333, 3, none⟩ = some (.int .i64 a0_3) := (blk_cell BK333.out 3).trans rfl; have hcz11_4 : w10.cell? ⟨gb333, 4, none⟩ = some (.slice A0_4 l0_4.length c0_4) := (blk_cell BK333.out 4).trans rfl; have hcz11_5 : w10.cell? ⟨gb333, 5, none⟩ = some (.slice A0_5 l0_5.length c0_5) := (blk_cell BK333.out 5).trans rfl; have hfz11_0 := blk_frozen BK333.out 0; have hfz11_1 := blk_frozen BK333.out 1; have hfz11_2 := blk_frozen BK333.out 2; have hfz11_3 := blk_frozen BK333.out 3; have hfz11_4 := blk_frozen BK333.out 4; have hfz11_5 := blk_frozen BK333.out 5))
          repeat (go_quiet (first | ((with_reducible refine gate_dst (N := 2) rfl ?_); (try (refine gate_guard (by rfl) ?_; dsimp only)); refine box_event ?hg (N := 2) ?hd (cs := #[.int .i64 a0_0, .int .i64 a0_1, .int .i64 a0_2, .int .i64 a0_3, .slice A0_4 l0_4.length c0_4, .slice A0_5 l0_5.length c0_5]) (t := 25) ?hr ?_; (case hd => rfl); (case hg => rfl); (case hr => first | (go_simp; done) | (go_simp; rfl)); intro gb333 hg w10 hbox hb; have n0_ := Aside0.mk (below_step (by repeat (first | (with_reducible first | exact HB.out | apply below_alloc | apply pw_below_drewN | apply below_drew1) | exact HB.out)) hb); have n1_ := Aside0.mk (hbox); have n2_ := Aside0.mk ((by rw [hg]; exact (below_size (by repeat (first | (with_reducible first | exact HB.out | apply below_alloc | apply pw_below_drewN | apply below_drew1) | exact HB.out))) : w.heap.size ≤ gb333)); have n3_ := Aside0.mk ((by rw [hg]; exact (below_size (by repeat (first | (with_reducible first | exact HB.out | apply below_alloc | apply pw_below_drewN | apply below_drew1) | exact HB.out))) : w.heap.size ≤ gb333)); clear HB; have HB := n0_; have BK333 := n1_; have GW333 := n2_; have GE333 := n3_; clear n0_ n1_ n2_ n3_; clear hb hbox hg) | (go_at_call 125; (with_reducible refine (set_May.calls k _ _ l1 true _ ?side1 ?side2 A3.out).mono ?_); (case side1 => repeat (first | exact (Kd.C_below HR1.out HB.out) | (with_reducible refine Kd.C_alloc ?_ _) | (with_reducible refine Kd.C_drewN ?_ _) | (with_reducible refine Kd.C_drew ?_))); (case side2 => exact HC1.out); rintro e w' ⟨rfl, ⟨nd, rfl⟩⟩; (try first | exact ⟨rfl, _, World.drewN_drewN _ _ _⟩ | exact ⟨rfl, _, Eq.trans (World.drewN_drewN _ _ _) (congrArg (World.drewN _) (Nat.add_assoc _ _ _))⟩); have p335 : 0 ≤ ((ji7) : Int) := of_decide_eq_true (by first | (with_reducible assumption) | assumption); have q335 : (ji7) < (l1.length : Int) := of_decide_eq_true (by first | (with_reducible assumption) | assumption); obtain ⟨ad335, e335, hx335_0⟩ := Kd.at_int HR1.out (ji7) p335 q335; cases e335; replace hx335_0 := (HB.out.cell (World.block_lt_of_cell? w _ hx335_0)).trans hx335_0; replace p335 := eq_true p335; replace q335 := eq_true q335; have hcz11_0 : w10.cell? ⟨gb333, 0, none⟩ = some (.int .i64 a0_0) := (blk_cell BK333.out 0).trans rfl; have hcz11_1 : w10.cell? ⟨gb333, 1, none⟩ = some (.int .i64 a0_1) := (blk_cell BK333.out 1).trans rfl; have hcz11_2 : w10.cell? ⟨gb333, 2, none⟩ = some (.int .i64 a0_2) := (blk_cell BK333.out 2).trans rfl; have hcz11_3 : w10.cell? ⟨gb333, 3, none⟩ = some (.int .i64 a0_3) := (blk_cell BK333.out 3).trans rfl; have hcz11_4 : w10.cell? ⟨gb333, 4, none⟩ = some (.slice A0_4 l0_4.length c0_4) := (blk_cell BK333.out 4).trans rfl; have hcz11_5 : w10.cell? ⟨gb333, 5, none⟩ = some (.slice A0_5 l0_5.length c0_5) := (blk_cell BK333.out 5).trans rfl; have hfz11_0 := blk_frozen BK333.out 0; have hfz11_1 := blk_frozen BK333.out 1; have hfz11_2 := blk_frozen BK333.out 2; have hfz11_3 := blk_frozen BK333.out 3; have hfz11_4 := blk_frozen BK333.out 4; have hfz11_5 := blk_frozen BK333.out 5)); try go_wp2_with (first | ((with_reducible refine gate_dst (N := 2) rfl ?_); (try (refine gate_guard (by rfl) ?_; dsimp only)); refine box_event ?hg (N := 2) ?hd (cs := #[.int .i64 a0_0, .int .i64 a0_1, .int .i64 a0_2, .int .i64 a0_3, .slice A0_4 l0_4.length c0_4, .slice A0_5 l0_5.length c0_5]) (t := 25) ?hr ?_; (case hd => rfl); (case hg => rfl); (case hr => first | (go_simp; done) | (go_simp; rfl)); intro gb333 hg w10 hbox hb; have n0_ := Aside0.mk (below_step (by repeat (first | (with_reducible first | exact HB.out | apply below_alloc | apply pw_below_drewN | apply below_drew1) | exact HB.out)) hb); have n1_ := Aside0.mk (hbox); have n2_ := Aside0.mk ((by rw [hg]; exact (below_size (by repeat (first | (with_reducible first | exact HB.out | apply below_alloc | apply pw_below_drewN | apply below_drew1) | exact HB.out))) : w.heap.size ≤ gb333)); have n3_ := Aside0.mk ((by rw [hg]; exact (below_size (by repeat (first | (with_reducible first | exact HB.out | apply below_alloc | apply pw_below_drewN | apply below_drew1) | exact HB.out))) : w.heap.size ≤ gb333)); clear HB; have HB := n0_; have BK333 := n1_; have GW333 := n2_; have GE333 := n3_; clear n0_ n1_ n2_ n3_; clear hb hbox hg) | (go_at_call 125; (with_reducible refine (set_May.calls k _ _ l1 true _ ?side1 ?side2 A3.out).mono ?_); (case side1 => repeat (first | exact (Kd.C_below HR1.out HB.out) | (with_reducible refine Kd.C_alloc ?_ _) | (with_reducible refine Kd.C_drewN ?_ _) | (with_reducible refine Kd.C_drew ?_))); (case side2 => exact HC1.out); rintro e w' ⟨rfl, ⟨nd, rfl⟩⟩; (try first | exact ⟨rfl, _, World.drewN_drewN _ _ _⟩ | exact ⟨rfl, _, Eq.trans (World.drewN_drewN _ _ _) (congrArg (World.drewN _) (Nat.add_assoc _ _ _))⟩); have p335 : 0 ≤ ((ji7) : Int) := of_decide_eq_true (by first | (with_reducible assumption) | assumption); have q335 : (ji7) < (l1.length : Int) := of_decide_eq_true (by first | (with_reducible assumption) | assumption); obtain ⟨ad335, e335, hx335_0⟩ := Kd.at_int HR1.out (ji7) p335 q335; cases e335; replace hx335_0 := (HB.out.cell (World.block_lt_of_cell? w _ hx335_0)).trans hx335_0; replace p335 := eq_true p335; replace q335 := eq_true q335; have hcz11_0 : w10.cell? ⟨gb333, 0, none⟩ = some (.int .i64 a0_0) := (blk_cell BK333.out 0).trans rfl; have hcz11_1 : w10.cell? ⟨gb333, 1, none⟩ = some (.int .i64 a0_1) := (blk_cell BK333.out 1).trans rfl; have hcz11_2 : w10.cell? ⟨gb333, 2, none⟩ = some (.int .i64 a0_2) := (blk_cell BK333.out 2).trans rfl; have hcz11_3 : w10.cell? ⟨gb333, 3, none⟩ = some (.int .i64 a0_3) := (blk_cell BK333.out 3).trans rfl; have hcz11_4 : w10.cell? ⟨gb333, 4, none⟩ = some (.slice A0_4 l0_4.length c0_4) := (blk_cell BK333.out 4).trans rfl; have hcz11_5 : w10.cell? ⟨gb333, 5, none⟩ = some (.slice A0_5 l0_5.length c0_5) := (blk_cell BK333.out 5).trans rfl; have hfz11_0 := blk_frozen BK333.out 0; have hfz11_1 := blk_frozen BK333.out 1; have hfz11_2 := blk_frozen BK333.out 2; have hfz11_3 := blk_frozen BK333.out 3; have hfz11_4 := blk_frozen BK333.out 4; have hfz11_5 := blk_frozen BK333.out 5)))
          go_ret
          exact ⟨by first | rfl | (simp [errW_none, errW_some] <;> rfl) | (simp only [← hji7]; first | rfl | (simp [errW_none, errW_some] <;> rfl)) | (simp [*, errW_none, errW_some] <;> rfl), by repeat (first | (with_reducible first | exact HB.out | apply below_alloc | apply pw_below_drewN | apply below_drew1 | refine below_set ?_ GE333.out) | exact HB.out)⟩
        · rw [if_neg c9] at H
          exact absurd H (by simp)
      · rw [if_neg c8] at H
        exact absurd H (by simp)
  · replace c4 := Bool.eq_false_iff.mpr c4
    subst c4
    have H1 : (some false) = some r := by rw [if_neg (show ¬ (false = true) by decide)] at H; exact H
    clear H
    have H := H1
    clear H1
    obtain rfl := Option.some.inj H
    go_enter Tryz.func96, Tryz.ntmps96
    go_wp2_with (first | ((with_reducible refine gate_dst (N := 2) rfl ?_); (try (refine gate_guard (by rfl) ?_; dsimp only)); refine box_event ?hg (N := 2) ?hd (cs := #[.int .i64 a0_0, .int .i64 a0_1, .int .i64 a0_2, .int .i64 a0_3, .slice A0_4 l0_4.length c0_4, .slice A0_5 l0_5.length c0_5]) (t := 25) ?hr ?_; (case hd => rfl); (case hg => rfl); (case hr => first | (go_simp; done) | (go_simp; rfl)); intro gb333 hg w12 hbox hb; have n0_ := Aside0.mk (below_step (by repeat (first | (with_reducible first | exact HB.out | apply below_alloc | apply pw_below_drewN | apply below_drew1) | exact HB.out)) hb); have n1_ := Aside0.mk (hbox); have n2_ := Aside0.mk ((by rw [hg]; exact (below_size (by repeat (first | (with_reducible first | exact HB.out | apply below_alloc | apply pw_below_drewN | apply below_drew1) | exact HB.out))) : w.heap.size ≤ gb333)); have n3_ := Aside0.mk ((by rw [hg]; exact (below_size (by repeat (first | (with_reducible first | exact HB.out | apply below_alloc | apply pw_below_drewN | apply below_drew1) | exact HB.out))) : w.heap.size ≤ gb333)); clear HB; have HB := n0_; have BK333 := n1_; have GW333 := n2_; have GE333 := n3_; clear n0_ n1_ n2_ n3_; clear hb hbox hg) | (go_at_call 125; (with_reducible refine (set_May.calls k _ _ l1 false _ ?side1 ?side2 A3.out).mono ?_); (case side1 => repeat (first | exact (Kd.C_below HR1.out HB.out) | (with_reducible refine Kd.C_alloc ?_ _) | (with_reducible refine Kd.C_drewN ?_ _) | (with_reducible refine Kd.C_drew ?_))); (case side2 => exact HC1.out); rintro e w' ⟨rfl, ⟨nd, rfl⟩⟩; (try first | exact ⟨rfl, _, World.drewN_drewN _ _ _⟩ | exact ⟨rfl, _, Eq.trans (World.drewN_drewN _ _ _) (congrArg (World.drewN _) (Nat.add_assoc _ _ _))⟩)))
    repeat (go_quiet (first | ((with_reducible refine gate_dst (N := 2) rfl ?_); (try (refine gate_guard (by rfl) ?_; dsimp only)); refine box_event ?hg (N := 2) ?hd (cs := #[.int .i64 a0_0, .int .i64 a0_1, .int .i64 a0_2, .int .i64 a0_3, .slice A0_4 l0_4.length c0_4, .slice A0_5 l0_5.length c0_5]) (t := 25) ?hr ?_; (case hd => rfl); (case hg => rfl); (case hr => first | (go_simp; done) | (go_simp; rfl)); intro gb333 hg w12 hbox hb; have n0_ := Aside0.mk (below_step (by repeat (first | (with_reducible first | exact HB.out | apply below_alloc | apply pw_below_drewN | apply below_drew1) | exact HB.out)) hb); have n1_ := Aside0.mk (hbox); have n2_ := Aside0.mk ((by rw [hg]; exact (below_size (by repeat (first | (with_reducible first | exact HB.out | apply below_alloc | apply pw_below_drewN | apply below_drew1) | exact HB.out))) : w.heap.size ≤ gb333)); have n3_ := Aside0.mk ((by rw [hg]; exact (below_size (by repeat (first | (with_reducible first | exact HB.out | apply below_alloc | apply pw_below_drewN | apply below_drew1) | exact HB.out))) : w.heap.size ≤ gb333)); clear HB; have HB := n0_; have BK333 := n1_; have GW333 := n2_; have GE333 := n3_; clear n0_ n1_ n2_ n3_; clear hb hbox hg) | (go_at_call 125; (with_reducible refine (set_May.calls k _ _ l1 false _ ?side1 ?side2 A3.out).mono ?_); (case side1 => repeat (first | exact (Kd.C_below HR1.out HB.out) | (with_reducible refine Kd.C_alloc ?_ _) | (with_reducible refine Kd.C_drewN ?_ _) | (with_reducible refine Kd.C_drew ?_))); (case side2 => exact HC1.out); rintro e w' ⟨rfl, ⟨nd, rfl⟩⟩; (try first | exact ⟨rfl, _, World.drewN_drewN _ _ _⟩ | exact ⟨rfl, _, Eq.trans (World.drewN_drewN _ _ _) (congrArg (World.drewN _) (Nat.add_assoc _ _ _))⟩))); try go_wp2_with (first | ((with_reducible refine gate_dst (N := 2) rfl ?_); (try (refine gate_guard (by rfl) ?_; dsimp only)); refine box_event ?hg (N := 2) ?hd (cs := #[.int .i64 a0_0, .int .i64 a0_1, .int .i64 a0_2, .int .i64 a0_3, .slice A0_4 l0_4.length c0_4, .slice A0_5 l0_5.length c0_5]) (t := 25) ?hr ?_; (case hd => rfl); (case hg => rfl); (case hr => first | (go_simp; done) | (go_simp; rfl)); intro gb333 hg w12 hbox hb; have n0_ := Aside0.mk (below_step (by repeat (first | (with_reducible first | exact HB.out | apply below_alloc | apply pw_below_drewN | apply below_drew1) | exact HB.out)) hb); have n1_ := Aside0.mk (hbox); have n2_ := Aside0.mk ((by rw [hg]; exact (below_size (by repeat (first | (with_reducible first | exact HB.out | apply below_alloc | apply pw_below_drewN | apply below_drew1) | exact HB.out))) : w.heap.size ≤ gb333)); have n3_ := Aside0.mk ((by rw [hg]; exact (below_size (by repeat (first | (with_reducible first | exact HB.out | apply below_alloc | apply pw_below_drewN | apply below_drew1) | exact HB.out))) : w.heap.size ≤ gb333)); clear HB; have HB := n0_; have BK333 := n1_; have GW333 := n2_; have GE333 := n3_; clear n0_ n1_ n2_ n3_; clear hb hbox hg) | (go_at_call 125; (with_reducible refine (set_May.calls k _ _ l1 false _ ?side1 ?side2 A3.out).mono ?_); (case side1 => repeat (first | exact (Kd.C_below HR1.out HB.out) | (with_reducible refine Kd.C_alloc ?_ _) | (with_reducible refine Kd.C_drewN ?_ _) | (with_reducible refine Kd.C_drew ?_))); (case side2 => exact HC1.out); rintro e w' ⟨rfl, ⟨nd, rfl⟩⟩; (try first | exact ⟨rfl, _, World.drewN_drewN _ _ _⟩ | exact ⟨rfl, _, Eq.trans (World.drewN_drewN _ _ _) (congrArg (World.drewN _) (Nat.add_assoc _ _ _))⟩))))
    go_ret
    exact ⟨by first | rfl | (simp [errW_none, errW_some] <;> rfl) | (simp [*, errW_none, errW_some] <;> rfl), by repeat (first | (with_reducible first | exact HB.out | apply below_alloc | apply pw_below_drewN | apply below_drew1 | refine below_set ?_ GE333.out) | exact HB.out)⟩

-- NOT PRINTED: function 55 (indep_May)

-- NOT PRINTED: function 130 (matroid_Image)

-- NOT PRINTED: function 132 (indep_summed)

/-! ### indep_chosen: function 169 -/
def indep_chosen.l0 : Nat → List (List Int) → List (List Int) → List Int → Int → Int → Option ((List (List Int)))
  | 0, _, _, _, _, _ => none
  | k + 1, x0, x5, x11, x12, x13 => if x13 < x12 then (if 0 ≤ x13 then (if x13 < (x11.length : Int) then (if 0 ≤ (rd x11 x13) then (if (rd x11 x13) < (x0.length : Int) then (if x13 < (x5.length : Int) then (indep_chosen.l0 k x0 (x5.set (x13 : Int).toNat (rd_L1 x0 (rd x11 x13))) x11 x12 (wrap64 (x13 + 1))) else (none)) else (none)) else (none)) else (none)) else (none)) else (some x5)
def indep_chosen.f (k : Nat) (l0 : List (List Int)) (l1 : List Int) : Option ((List (List Int))) := if 0 ≤ (l1.length : Int) then (if ((l1.length : Int) : Int).toNat ≤ 11728124029610 then (indep_chosen.l0 k l0 (List.replicate ((l1.length : Int) : Int).toNat []) l1 (l1.length : Int) 0) else (none)) else (none)
theorem indep_chosen.mono_l : ∀ k, (∀ y0 y1 y2 y3 y4, LeO (indep_chosen.l0 k y0 y1 y2 y3 y4) (indep_chosen.l0 (k + 1) y0 y1 y2 y3 y4))
  | 0 => fun _ _ _ _ _ r h => by simp [indep_chosen.l0] at h
  | k + 1 => by
    have ih0 := indep_chosen.mono_l k
    · intro y0 y1 y2 y3 y4
      unfold indep_chosen.l0
      repeat' first
      | (with_reducible exact ih0 _ _ _ _ _)
      | (with_reducible exact LeO.refl _)
      | (with_reducible exact LeO.none _)
      | (with_reducible refine LeO.ite ?_ ?_)
      | (with_reducible refine LeO.bind ?_ (fun _ => ?_))
      | exact ih0 _ _ _ _ _
      | exact LeO.none _
      | refine LeO.ite ?_ ?_
      | refine LeO.bind ?_ (fun _ => ?_)
theorem indep_chosen.mono : ∀ a0 a1 k, LeO (indep_chosen.f k a0 a1) (indep_chosen.f (k + 1) a0 a1) := by
  intro a0 a1 k
  have ih0 := indep_chosen.mono_l k
  unfold indep_chosen.f
  repeat' first
      | (with_reducible exact ih0 _ _ _ _ _)
      | (with_reducible exact LeO.refl _)
      | (with_reducible exact LeO.none _)
      | (with_reducible refine LeO.ite ?_ ?_)
      | (with_reducible refine LeO.bind ?_ (fun _ => ?_))
      | exact ih0 _ _ _ _ _
      | exact LeO.none _
      | refine LeO.ite ?_ ?_
      | refine LeO.bind ?_ (fun _ => ?_)
set_option maxHeartbeats 8000000 in
set_option maxRecDepth 100000 in
theorem indep_chosen.calls (k : Nat) (P0_ : Nat → Prop) (A0 : Option Addr) (c0 : Nat) (l0 : List (List Int)) (A1 : Option Addr) (c1 : Nat) (l1 : List Int) (r : List (List Int)) (w : World) (hs0 : Kd.V (Kd.slice 3 (Kd.int .i64)) 28 w w.heap.size (fun k_ => P0_ k_) (.slice A0 l0.length c0) l0) (hr1 : Kd.C (Kd.int .i64) w A1 l1.length l1) (hc1 : l1.length ≤ c1) (h : indep_chosen.f k l0 l1 = some r) :
    Calls Tryz.prog 169 #[.slice A0 l0.length c0, .slice A1 l1.length c1] w fun e w' => ∃ v0_ : Value, e = .returned (v0_) ∧ Kd.N (Kd.slice 3 (Kd.int .i64)) 28 w' w.heap.size (fun k_ => (P0_ k_ ∨ w.heap.size ≤ k_)) v0_ r ∧ Below w.heap.size w w' := by
  have HO0 := Aside0.mk (show Kd.V (Kd.slice 3 (Kd.int .i64)) 28 w w.heap.size (fun k_ => (P0_ k_ ∨ w.heap.size ≤ k_)) (.slice A0 l0.length c0) l0 from Kd.V_mono hs0 (fun k_ hk => .inl hk))
  have HR1 := Aside0.mk hr1
  have HC1 := Aside0.mk hc1
  clear hr1 hc1
  have HB := Aside0.mk (Below.refl w.heap.size w)
  have H : (if 0 ≤ (l1.length : Int) then (if ((l1.length : Int) : Int).toNat ≤ 11728124029610 then (indep_chosen.l0 k l0 (List.replicate ((l1.length : Int) : Int).toNat []) l1 (l1.length : Int) 0) else (none)) else (none)) = some r := h
  clear h
  by_cases c3 : 0 ≤ (l1.length : Int)
  · rw [if_pos c3] at H
    have c3b0 := eq_true c3
    have c3b1 : decide (0 ≤ (l1.length : Int)) = true := decide_eq_true c3
    clear c3
    by_cases c4 : ((l1.length : Int) : Int).toNat ≤ 11728124029610
    · rw [if_pos c4] at H
      have c4b0 := eq_true c4
      have c4b1 : decide (((l1.length : Int) : Int).toNat ≤ 11728124029610) = true := decide_eq_true c4
      clear c4
      obtain ⟨y345, hy345⟩ : ∃ y_ : List (List Int), y_ = (List.replicate ((l1.length : Int) : Int).toNat []) := ⟨_, rfl⟩
      replace H : (indep_chosen.l0 k l0 y345 l1 (l1.length : Int) 0) = some r := by first | (rw [hy345]; with_reducible exact H) | (have H2_ := (Option.bind_some _ _).symm.trans H; rw [hy345]; with_reducible exact H2_) | (have H2_ := (Option.bind_some _ _).symm.trans H; with_reducible exact H2_) | with_reducible exact H | (rw [hy345]; exact H) | exact H
      have Ny345 := Aside0.mk hy345
      clear hy345
      have H' := Aside0.mk H
      clear H
      go_enter Tryz.func169, Tryz.ntmps169
      go_wp2_with (first | ((with_reducible refine gate_dst (N := 10) rfl ?_); refine Kd.N_make (Kd.slice 3 (Kd.int .i64)) _ 28 rfl (N' := 10) rfl 22 _ _ rfl (l1.length : Int) rfl rfl Tryz.underlying22 (.slice none 0 0) 24 info28 rfl (by decide) (by omega) [] (ok := fun k_ => w.heap.size ≤ k_) (okp := fun _ => False) (Kd.FK_slice_mk (Nat.le_refl _) (Kd.F_nil _ _ _)) (fun _ hk => hk.elim) (Nat.le_refl _) (of_decide_eq_true (by first | (with_reducible assumption) | assumption)) (Nat.le_trans (Nat.mul_le_mul_right _ (of_decide_eq_true (by first | (with_reducible assumption) | assumption) : (l1.length : Int).toNat ≤ 11728124029610)) (by omega)) (Below.refl _ _) (Nat.le_refl _) ?_; intro v346 w5 ho6 hb hg_ hnew_; clear hg_ hnew_; (first | rw [← Ny345.out] at ho6 | (simp only [Int.reduceToNat] at ho6; rw [← Ny345.out] at ho6)); have n0_ := Aside0.mk (Kd.V_elder' (by (with_reducible repeat (first | apply Kd.V_alloc | apply Kd.V_drewN | apply Kd.V_drew)); exact HO0.out) (Kd.N_base ho6) hb); have n1_ := Aside0.mk (Kd.N_lower (Kd.N_mono (ok' := fun k_ => (P0_ k_ ∨ w.heap.size ≤ k_)) ho6 (fun k_ hk_ => (.inr (Nat.le_trans (below_size (by repeat (first | (with_reducible first | exact HB.out | apply below_alloc | apply pw_below_drewN | apply below_drew1) | exact HB.out))) hk_)))) (below_size (by repeat (first | (with_reducible first | exact HB.out | apply below_alloc | apply pw_below_drewN | apply below_drew1) | exact HB.out)))); have n2_ := Aside0.mk (below_step (by repeat (first | (with_reducible first | exact HB.out | apply below_alloc | apply pw_below_drewN | apply below_drew1) | exact HB.out)) hb); clear HO0; clear HB; have HO0 := n0_; have HO347 := n1_; have HB := n2_; clear n0_ n1_ n2_; clear hb ho6))
      go_loopg [13] k (fun kq v13 w' => ∃ (x5_1 : List (List Int)) (x13_1 : Int), v13 = .int .i64 x13_1 ∧ Aside0 (indep_chosen.l0 kq l0 x5_1 l1 (l1.length : Int) x13_1 = some r) ∧ Aside0 (kq ≤ k) ∧ Aside0 (Kd.V (Kd.slice 3 (Kd.int .i64)) 28 w' w.heap.size (fun k_ => (P0_ k_ ∨ w.heap.size ≤ k_) ∧ some k_ ≠ (v346 : Value).ownBlock) (.slice A0 l0.length c0) l0) ∧ Aside0 (Kd.N (Kd.slice 3 (Kd.int .i64)) 28 w' w.heap.size (fun k_ => (P0_ k_ ∨ w.heap.size ≤ k_)) v346 x5_1) ∧ Aside0 (Below w.heap.size w w'))
      case atStart => exact ⟨(y345), (0), (by first | rfl | (simp; done) | (simp [*]; done)), H', ⟨Nat.le_refl _⟩, ⟨by (with_reducible repeat (first | apply Kd.V_alloc | apply Kd.V_drewN | apply Kd.V_drew)); exact HO0.out⟩, ⟨by (with_reducible repeat (first | apply Kd.N_alloc | apply Kd.N_drewN | apply Kd.N_drew)); exact HO347.out⟩, ⟨by repeat (first | (with_reducible first | exact HB.out | apply below_alloc | apply pw_below_drewN | apply below_drew1) | exact HB.out)⟩⟩
      case round =>
        clear H'
        try clear c1
        try clear p2
        try clear c3
        try clear c3b0
        try clear c3b1
        try clear c4
        try clear c4b0
        try clear c4b1
        obtain ⟨x5_1, x13_1, rfl, HA, HK1, HO_0, HO_5, HB⟩ := hrel
        cases gk with
        | zero => exact absurd HA.out (by simp [indep_chosen.l0])
        | succ k1 =>
          have H := HA.out
          clear HA
          simp only [indep_chosen.l0] at H
          by_cases c7 : x13_1 < (l1.length : Int)
          · rw [if_pos c7] at H
            have c7b0 : decide (x13_1 < (l1.length : Int)) = true := decide_eq_true c7
            clear c7
            by_cases c8 : 0 ≤ x13_1
            · rw [if_pos c8] at H
              have c8b0 : decide (0 ≤ x13_1) = true := decide_eq_true c8
              clear c8
              by_cases c9 : x13_1 < (l1.length : Int)
              · rw [if_pos c9] at H
                have c9b0 : decide (x13_1 < (l1.length : Int)) = true := decide_eq_true c9
                clear c9
                by_cases c10 : 0 ≤ (rd l1 x13_1)
                · rw [if_pos c10] at H
                  have c10b0 : decide (0 ≤ (rd l1 x13_1)) = true := decide_eq_true c10
                  clear c10
                  by_cases c11 : (rd l1 x13_1) < (l0.length : Int)
                  · rw [if_pos c11] at H
                    have c11b0 : decide ((rd l1 x13_1) < (l0.length : Int)) = true := decide_eq_true c11
                    clear c11
                    by_cases c12 : x13_1 < (x5_1.length : Int)
                    · rw [if_pos c12] at H
                      have c12b0 : decide (x13_1 < (x5_1.length : Int)) = true := decide_eq_true c12
                      clear c12
                      obtain ⟨y350, hy350⟩ : ∃ y_ : List (List Int), y_ = (x5_1.set (x13_1 : Int).toNat (rd_L1 l0 (rd l1 x13_1))) := ⟨_, rfl⟩
                      replace H : (indep_chosen.l0 k1 l0 y350 l1 (l1.length : Int) (wrap64 (x13_1 + 1))) = some r := by first | (rw [hy350]; with_reducible exact H) | (have H2_ := (Option.bind_some _ _).symm.trans H; rw [hy350]; with_reducible exact H2_) | (have H2_ := (Option.bind_some _ _).symm.trans H; with_reducible exact H2_) | with_reducible exact H | (rw [hy350]; exact H) | exact H
                      have Ny350 := Aside0.mk hy350
                      clear hy350
                      have H' := Aside0.mk H
                      clear H
                      have p348 : 0 ≤ (x13_1 : Int) := of_decide_eq_true (by first | (with_reducible assumption) | assumption)
                      have q348 : x13_1 < (l1.length : Int) := of_decide_eq_true (by first | (with_reducible assumption) | assumption)
                      obtain ⟨ad348, e348, hx348_0⟩ := Kd.at_int HR1.out x13_1 p348 q348
                      cases e348
                      replace hx348_0 := (HB.out.cell (World.block_lt_of_cell? w _ hx348_0)).trans hx348_0
                      replace p348 := eq_true p348
                      replace q348 := eq_true q348
                      have p349 : 0 ≤ ((rd l1 x13_1) : Int) := of_decide_eq_true (by first | (with_reducible assumption) | assumption)
                      have q349 : (rd l1 x13_1) < (l0.length : Int) := of_decide_eq_true (by first | (with_reducible assumption) | assumption)
                      obtain ⟨ad349, A349_0, c349_0, e349, hx349_0, hl349_0, hi349_0⟩ := at_L1 (Kd.V_reads' HO_0.out).2.2 (rd l1 x13_1) p349 q349
                      cases e349
                      obtain ⟨ce349, hce349, hMe349, hcc349⟩ := Kd.V_get HO_0.out [] (rd l1 x13_1) p349 (by first | exact q349 | exact of_decide_eq_true (by first | (with_reducible assumption) | assumption) | (have e_ := (Kd.V_reads' HO_0.out).1; omega))
                      obtain ⟨ua349_0, uc349_0, rfl, ul349_0, ge349_0⟩ := Kd.FK_slice_open hMe349
                      have hv349_0 := hcc349 0 _ rfl
                      rw [Nat.add_zero, show ((Kd.slice 3 (Kd.int .i64))).sz = 1 from rfl, Nat.mul_one] at hv349_0
                      replace hv349_0 := Option.some.inj (hv349_0.symm.trans hx349_0)
                      injection hv349_0 with hva_ hvn_ hvc_
                      rw [hva_] at ge349_0
                      rw [hvc_] at ul349_0
                      have HL349_0 := Aside0.mk (show Kd.V (Kd.int .i64) 3 _ w.heap.size _ _ (rd_L1 l0 (rd l1 x13_1)) from Kd.V_mk ul349_0 ge349_0)
                      clear hva_ hvn_ hvc_ ge349_0 ul349_0
                      clear hcc349 hce349
                      have HR349_0 := Aside0.mk hi349_0
                      have HC349_0 := Aside0.mk hl349_0
                      clear hi349_0 hl349_0
                      replace p349 := eq_true p349
                      replace q349 := eq_true q349
                      have p13 : 0 ≤ (x13_1 : Int) := of_decide_eq_true (by first | (with_reducible assumption) | assumption)
                      have q13 : (x13_1 : Int) < ((x5_1.length : Int) : Int) := of_decide_eq_true (by first | (with_reducible assumption) | assumption)
                      obtain ⟨go13, co13, eo13, gb13, gl13, cl13, HG13⟩ := Kd.N_form HO_5.out (by omega)
                      (first | cases eo13 | (injection eo13 with ea_ en_ ec_; (first | subst ea_ | (injection ea_ with ea_; subst ea_)); subst ec_; clear en_))
                      have GB13 := Aside0.mk gb13
                      have GG13 := Aside0.mk HG13
                      clear gb13 gl13 HG13
                      obtain ⟨ce13, hcl13, hM13, hcc13, hfr13⟩ := Kd.N_elem HO_5.out [] (x13_1 : Int) p13 q13
                      obtain ⟨ua13_0, uc13_0, rfl, ul13_0, ge13_0⟩ := Kd.FK_slice_open hM13
                      have hx13_0 := hcc13 0 _ rfl
                      have hf13_0 := hfr13 0
                      (try simp only [show ((Kd.slice 3 (Kd.int .i64))).sz = 1 from rfl, Nat.mul_one, Nat.add_zero] at hx13_0)
                      (try simp only [show ((Kd.slice 3 (Kd.int .i64))).sz = 1 from rfl, Nat.mul_one, Nat.add_zero] at hf13_0)
                      clear hcl13 hcc13 hfr13 hM13
                      replace p13 := eq_true p13
                      replace q13 := eq_true q13
                      have HX14 := Aside0.mk (show Kd.N (Kd.slice 3 (Kd.int .i64)) 28 wr w.heap.size (fun k_ => (P0_ k_ ∨ w.heap.size ≤ k_)) (.slice (some ⟨go13, 0, none⟩) x5_1.length co13) x5_1 from (by (with_reducible repeat (first | apply Kd.N_alloc | apply Kd.N_drewN | apply Kd.N_drew)); exact HO_5.out))
                      obtain ⟨ce14, hcl14, hM14, hcc14, hfr14⟩ := Kd.N_elem HX14.out [] (x13_1 : Int) (of_decide_eq_true (by first | (with_reducible assumption) | assumption)) (by have h_ : (x13_1 : Int) < ((x5_1.length : Int) : Int) := of_decide_eq_true (by first | (with_reducible assumption) | assumption); first | exact h_ | (have e_ := (Kd.N_reads' HO_5.out).1; omega) | simpa using h_)
                      obtain ⟨ua14_0, uc14_0, rfl, ul14_0, ge14_0⟩ := Kd.FK_slice_open hM14
                      have HP14 := Kd.N_seg HX14.out (x13_1 : Int) (of_decide_eq_true (by first | (with_reducible assumption) | assumption)) (by have h_ : (x13_1 : Int) < ((x5_1.length : Int) : Int) := of_decide_eq_true (by first | (with_reducible assumption) | assumption); first | exact h_ | (have e_ := (Kd.N_reads' HO_5.out).1; omega) | simpa using h_) (seg := [.slice A349_0 (rd_L1 l0 (rd l1 x13_1)).length c349_0]) (j := 0) hcl14 hcc14 (show 1 ≤ 1 from by decide) (x' := rd_L1 l0 (rd l1 x13_1)) (Kd.FK_slice_mk (Kd.V_reads' (Kd.V_mono (ok' := (fun k_ => ((fun k_ => (P0_ k_ ∨ w.heap.size ≤ k_))) k_ ∧ k_ ≠ go13)) (HL349_0.out) (fun k_ hk => ⟨hk.1, fun e_ => (hk.2) (by rw [e_]; rfl)⟩))).2.1 (Kd.V_F (Kd.V_mono (ok' := (fun k_ => ((fun k_ => (P0_ k_ ∨ w.heap.size ≤ k_))) k_ ∧ k_ ≠ go13)) (HL349_0.out) (fun k_ hk => ⟨hk.1, fun e_ => (hk.2) (by rw [e_]; rfl)⟩)))) (fun _ hk => hk)
                      have hx14_0 := hcc14 0 _ rfl
                      (try simp only [show ((Kd.slice 3 (Kd.int .i64))).sz = 1 from rfl, Nat.mul_one, Nat.add_zero] at hx14_0)
                      have hf14_0 := hfr14 0
                      (try simp only [show ((Kd.slice 3 (Kd.int .i64))).sz = 1 from rfl, Nat.mul_one, Nat.add_zero] at hf14_0)
                      clear hcl14 hcc14 hfr14 hM14
                      (try simp only [show ((Kd.slice 3 (Kd.int .i64))).sz = 1 from rfl, Nat.mul_one, Nat.add_zero] at HP14)
                      (try simp only [show ((Kd.slice 3 (Kd.int .i64))).sz = 1 from rfl, Nat.mul_one, Nat.add_zero] at HP14)
                      go_wp2_with (first | ((with_reducible refine gate_store (t := 28) (p := 24) rfl ?_); refine store_event (t := 28) (p := 24) (v := ?vo_w15) (w1 := (wr.setCell ⟨go13, (x13_1 : Int).toNat, none⟩ (.slice A349_0 (rd_L1 l0 (rd l1 x13_1)).length c349_0))) ?hg ?ho ?hn ?hr ?_; (case ho => rfl); (case hg => rfl); (case hn => rfl); (case hr => first | (go_simp; done) | (go_simp; rfl)); intro w15 hw; have hg : wr.grownBy w15 (some go13) := (by rw [hw]; exact HP14.2); have hp_ : Kd.N (Kd.slice 3 (Kd.int .i64)) 28 w15 w.heap.size (fun k_ => (P0_ k_ ∨ w.heap.size ≤ k_)) (.slice (some ⟨go13, 0, none⟩) x5_1.length co13) y350 := (by rw [hw, Ny350.out]; exact HP14.1); clear HP14; have n0_ := Aside0.mk (Kd.V_afterv (v := (.slice (some ⟨go13, 0, none⟩) x5_1.length co13)) (v1 := (.slice (some ⟨go13, 0, none⟩) x5_1.length co13)) (ok := (fun k_ => (P0_ k_ ∨ w.heap.size ≤ k_))) (by (with_reducible repeat (first | apply Kd.V_alloc | apply Kd.V_drewN | apply Kd.V_drew)); exact HO_0.out) hg (.inl rfl)); have n1_ := Aside0.mk (hp_); have n2_ := Aside0.mk (Kd.V_afterv (v := (.slice (some ⟨go13, 0, none⟩) x5_1.length co13)) (v1 := (.slice (some ⟨go13, 0, none⟩) x5_1.length co13)) (ok := (fun k_ => (P0_ k_ ∨ w.heap.size ≤ k_))) (by (with_reducible repeat (first | apply Kd.V_alloc | apply Kd.V_drewN | apply Kd.V_drew)); exact HL349_0.out) hg (.inl rfl)); have n3_ := Aside0.mk ((by rw [hw]; exact below_set (HB.out) GB13.out : Below w.heap.size w w15)); clear HO_0; clear HO_5; clear HL349_0; clear HB; have HO_0 := n0_; have HO_5 := n1_; have HL349_0 := n2_; have HB := n3_; clear n0_ n1_ n2_ n3_; clear hg hw hp_))
                      go_roundg k1
                      case measure => have := HK1.out; omega
                      case rel => exact ⟨(y350), (wrap64 (x13_1 + 1)), (by first | rfl | (simp; done) | (simp [*]; done)), H', ⟨by have := HK1.out; omega⟩, ⟨by (with_reducible repeat (first | apply Kd.V_alloc | apply Kd.V_drewN | apply Kd.V_drew)); exact HO_0.out⟩, ⟨by (with_reducible repeat (first | apply Kd.N_alloc | apply Kd.N_drewN | apply Kd.N_drew)); exact HO_5.out⟩, ⟨by repeat (first | (with_reducible first | exact HB.out | apply below_alloc | apply pw_below_drewN | apply below_drew1) | exact HB.out)⟩⟩
                    · rw [if_neg c12] at H
                      exact absurd H (by simp)
                  · rw [if_neg c11] at H
                    exact absurd H (by simp)
                · rw [if_neg c10] at H
                  exact absurd H (by simp)
              · rw [if_neg c9] at H
                exact absurd H (by simp)
            · rw [if_neg c8] at H
              exact absurd H (by simp)
          · rw [if_neg c7] at H
            have c7b0 : decide (x13_1 < (l1.length : Int)) = false := decide_eq_false c7
            clear c7
            obtain rfl := Option.some.inj H
            go_wp2
            go_ret
            exact ⟨_, by first | rfl | (simp [errW_none, errW_some] <;> rfl) | (simp [*, errW_none, errW_some] <;> rfl), by (with_reducible repeat (first | apply Kd.N_alloc | apply Kd.N_drewN | apply Kd.N_drew)); exact HO_5.out, by repeat (first | (with_reducible first | exact HB.out | apply below_alloc | apply pw_below_drewN | apply below_drew1) | exact HB.out)⟩
    · rw [if_neg c4] at H
      exact absurd H (by simp)
  · rw [if_neg c3] at H
    exact absurd H (by simp)

-- NOT PRINTED: function 141 (join_forest_root)

-- NOT PRINTED: function 178 (join_forest_join)

-- NOT PRINTED: function 140 (join_newForest)

-- NOT PRINTED: function 170 (join_Rank)

-- NOT PRINTED: function 171 (indep_classes)

-- NOT PRINTED: function 213 (match_pairs_reach)

-- NOT PRINTED: function 198 (match_greatest)

-- NOT PRINTED: function 172 (match_Max)

-- NOT PRINTED: function 222 (elim_stair_reduce)

-- NOT PRINTED: function 224 (modp_Inv)

-- NOT PRINTED: function 219 (elim_stair_add)

-- NOT PRINTED: function 214 (elim_climb)

-- NOT PRINTED: function 199 (elim_Basis)

-- NOT PRINTED: function 173 (elim_Rank)

-- NOT PRINTED: function 133 (indep_plain)

-- NOT PRINTED: function 97 (indep_rank)

-- NOT PRINTED: function 158 (indep_Indep)

-- NOT PRINTED: function 144 (union_classes_arcs)

-- NOT PRINTED: function 108 (union_classes_graph)

-- NOT PRINTED: function 109 (union_classes_shift)

-- NOT PRINTED: function 79 (union_Max)

-- NOT PRINTED: function 80 (api_Matroid_80)

-- NOT PRINTED: function 46 (bases_classes)

-- NOT PRINTED: function 56 (indep_Rank)

-- NOT PRINTED: function 47 (span_All)

-- NOT PRINTED: function 17 (bases_Pack)

-- NOT PRINTED: function 18 (bases_Cover)

/-! ### greenwoodref02_May: function 44 -/
def greenwoodref02_May.l0 : Nat → List Int → Int → Option (Bool)
  | 0, _, _ => none
  | k + 1, x0, x3 => if x3 < (x0.length : Int) then (if 0 ≤ x3 then (if (rd x0 x3) < 0 then (some false) else (if (rd x0 x3) > 1099511627776 then (some false) else (if x3 > 0 then (if 0 ≤ (wrap64 (x3 - 1)) then (if (wrap64 (x3 - 1)) < (x0.length : Int) then (if (rd x0 x3) ≤ (rd x0 (wrap64 (x3 - 1))) then (some false) else (greenwoodref02_May.l0 k x0 (wrap64 (x3 + 1)))) else (none)) else (none)) else (greenwoodref02_May.l0 k x0 (wrap64 (x3 + 1)))))) else (none)) else (some true)
def greenwoodref02_May.f (k : Nat) (l0 : List Int) : Option (Bool) := greenwoodref02_May.l0 k l0 0
theorem greenwoodref02_May.mono_l : ∀ k, (∀ y0 y1, LeO (greenwoodref02_May.l0 k y0 y1) (greenwoodref02_May.l0 (k + 1) y0 y1))
  | 0 => fun _ _ r h => by simp [greenwoodref02_May.l0] at h
  | k + 1 => by
    have ih0 := greenwoodref02_May.mono_l k
    · intro y0 y1
      unfold greenwoodref02_May.l0
      repeat' first
      | (with_reducible exact ih0 _ _)
      | (with_reducible exact LeO.refl _)
      | (with_reducible exact LeO.none _)
      | (with_reducible refine LeO.ite ?_ ?_)
      | (with_reducible refine LeO.bind ?_ (fun _ => ?_))
      | exact ih0 _ _
      | exact LeO.none _
      | refine LeO.ite ?_ ?_
      | refine LeO.bind ?_ (fun _ => ?_)
theorem greenwoodref02_May.mono : ∀ a0 k, LeO (greenwoodref02_May.f k a0) (greenwoodref02_May.f (k + 1) a0) := by
  intro a0 k
  have ih0 := greenwoodref02_May.mono_l k
  unfold greenwoodref02_May.f
  repeat' first
      | (with_reducible exact ih0 _ _)
      | (with_reducible exact LeO.refl _)
      | (with_reducible exact LeO.none _)
      | (with_reducible refine LeO.ite ?_ ?_)
      | (with_reducible refine LeO.bind ?_ (fun _ => ?_))
      | exact ih0 _ _
      | exact LeO.none _
      | refine LeO.ite ?_ ?_
      | refine LeO.bind ?_ (fun _ => ?_)
set_option maxHeartbeats 8000000 in
set_option maxRecDepth 100000 in
theorem greenwoodref02_May.calls (k : Nat) (A0 : Option Addr) (c0 : Nat) (l0 : List Int) (r : Bool) (w : World) (hr0 : Kd.C (Kd.int .i64) w A0 l0.length l0) (hc0 : l0.length ≤ c0) (h : greenwoodref02_May.f k l0 = some r) :
    Calls Tryz.prog 44 #[.slice A0 l0.length c0] w fun e w' => e = .returned (.bool r) ∧ Drawn0 w w' := by
  have HR0 := Aside0.mk hr0
  have HC0 := Aside0.mk hc0
  clear hr0 hc0
  have H : (greenwoodref02_May.l0 k l0 0) = some r := h
  clear h
  have H' := Aside0.mk H
  clear H
  go_enter Tryz.func44, Tryz.ntmps44
  go_wp2
  repeat (go_quiet (fail); try go_wp2)
  go_loopg [3] k (fun kq v3 w' => ∃ (x3_1 : Int), v3 = .int .i64 x3_1 ∧ Aside0 (greenwoodref02_May.l0 kq l0 x3_1 = some r) ∧ Aside0 (kq ≤ k) ∧ Drawn0 w w')
  case atStart => exact ⟨(0), (by first | rfl | (simp; done) | (simp [*]; done)), H', ⟨Nat.le_refl _⟩, by repeat (first | exact Drawn0.refl _ | apply Drawn0.step)⟩
  case round =>
    clear H'
    obtain ⟨x3_1, rfl, HA, HK1, ⟨m1, rfl⟩⟩ := hrel
    cases gk with
    | zero => exact absurd HA.out (by simp [greenwoodref02_May.l0])
    | succ k1 =>
      have H := HA.out
      clear HA
      simp only [greenwoodref02_May.l0] at H
      by_cases c2 : x3_1 < (l0.length : Int)
      · rw [if_pos c2] at H
        have c2b0 : decide (x3_1 < (l0.length : Int)) = true := decide_eq_true c2
        clear c2
        by_cases c3 : 0 ≤ x3_1
        · rw [if_pos c3] at H
          have c3b0 : decide (0 ≤ x3_1) = true := decide_eq_true c3
          clear c3
          by_cases c4 : (rd l0 x3_1) < 0
          · rw [if_pos c4] at H
            have c4b0 : decide ((rd l0 x3_1) < 0) = true := decide_eq_true c4
            clear c4
            obtain rfl := Option.some.inj H
            have p382 : 0 ≤ (x3_1 : Int) := of_decide_eq_true (by first | (with_reducible assumption) | assumption)
            have q382 : x3_1 < (l0.length : Int) := of_decide_eq_true (by first | (with_reducible assumption) | assumption)
            obtain ⟨ad382, e382, hx382_0⟩ := Kd.at_int HR0.out x3_1 p382 q382
            cases e382
            replace p382 := eq_true p382
            replace q382 := eq_true q382
            go_wp2
            repeat (go_quiet (fail); try go_wp2)
            go_ret
            exact ⟨by first | rfl | (simp; done) | (simp [*]; done), by repeat (first | exact Drawn0.refl _ | apply Drawn0.step)⟩
          · rw [if_neg c4] at H
            have c4b0 : decide ((rd l0 x3_1) < 0) = false := decide_eq_false c4
            clear c4
            by_cases c5 : (rd l0 x3_1) > 1099511627776
            · rw [if_pos c5] at H
              have c5b0 : decide (1099511627776 < (rd l0 x3_1)) = true := decide_eq_true c5
              clear c5
              obtain rfl := Option.some.inj H
              have p382 : 0 ≤ (x3_1 : Int) := of_decide_eq_true (by first | (with_reducible assumption) | assumption)
              have q382 : x3_1 < (l0.length : Int) := of_decide_eq_true (by first | (with_reducible assumption) | assumption)
              obtain ⟨ad382, e382, hx382_0⟩ := Kd.at_int HR0.out x3_1 p382 q382
              cases e382
              replace p382 := eq_true p382
              replace q382 := eq_true q382
              have p383 : 0 ≤ (x3_1 : Int) := of_decide_eq_true (by first | (with_reducible assumption) | assumption)
              have q383 : x3_1 < (l0.length : Int) := of_decide_eq_true (by first | (with_reducible assumption) | assumption)
              obtain ⟨ad383, e383, hx383_0⟩ := Kd.at_int HR0.out x3_1 p383 q383
              obtain rfl : ad382 = ad383 := (by injection e383)
              replace p383 := eq_true p383
              replace q383 := eq_true q383
              go_wp2
              repeat (go_quiet (fail); try go_wp2)
              go_ret
              exact ⟨by first | rfl | (simp; done) | (simp [*]; done), by repeat (first | exact Drawn0.refl _ | apply Drawn0.step)⟩
            · rw [if_neg c5] at H
              have c5b0 : decide (1099511627776 < (rd l0 x3_1)) = false := decide_eq_false c5
              clear c5
              by_cases c6 : x3_1 > 0
              · rw [if_pos c6] at H
                have c6b0 : decide (0 < x3_1) = true := decide_eq_true c6
                clear c6
                obtain ⟨ji7, hji7⟩ : ∃ j_ : Int, (wrap64 (x3_1 - 1)) = j_ := ⟨_, rfl⟩
                replace H : (if 0 ≤ (ji7) then (if (ji7) < (l0.length : Int) then (if (rd l0 x3_1) ≤ (rd l0 (ji7)) then (some false) else (greenwoodref02_May.l0 k1 l0 (wrap64 (x3_1 + 1)))) else (none)) else (none)) = some r := by first | (rw [hji7] at H; exact H) | (simp only [hji7] at H ⊢; exact H)
                have hji7w : (IntKind.i64.wrap (x3_1 - 1)) = ji7 := (i64_w _).trans hji7
                by_cases c8 : 0 ≤ (ji7)
                · rw [if_pos c8] at H
                  have c8b0 : decide (0 ≤ (ji7)) = true := decide_eq_true c8
                  clear c8
                  by_cases c9 : (ji7) < (l0.length : Int)
                  · rw [if_pos c9] at H
                    have c9b0 : decide ((ji7) < (l0.length : Int)) = true := decide_eq_true c9
                    clear c9
                    by_cases c10 : (rd l0 x3_1) ≤ (rd l0 (ji7))
                    · rw [if_pos c10] at H
                      have c10b0 : decide ((rd l0 x3_1) ≤ (rd l0 (ji7))) = true := decide_eq_true c10
                      clear c10
                      obtain rfl := Option.some.inj H
                      have p382 : 0 ≤ (x3_1 : Int) := of_decide_eq_true (by first | (with_reducible assumption) | assumption)
                      have q382 : x3_1 < (l0.length : Int) := of_decide_eq_true (by first | (with_reducible assumption) | assumption)
                      obtain ⟨ad382, e382, hx382_0⟩ := Kd.at_int HR0.out x3_1 p382 q382
                      cases e382
                      replace p382 := eq_true p382
                      replace q382 := eq_true q382
                      have p383 : 0 ≤ (x3_1 : Int) := of_decide_eq_true (by first | (with_reducible assumption) | assumption)
                      have q383 : x3_1 < (l0.length : Int) := of_decide_eq_true (by first | (with_reducible assumption) | assumption)
                      obtain ⟨ad383, e383, hx383_0⟩ := Kd.at_int HR0.out x3_1 p383 q383
                      obtain rfl : ad382 = ad383 := (by injection e383)
                      replace p383 := eq_true p383
                      replace q383 := eq_true q383
                      have p384 : 0 ≤ (x3_1 : Int) := of_decide_eq_true (by first | (with_reducible assumption) | assumption)
                      have q384 : x3_1 < (l0.length : Int) := of_decide_eq_true (by first | (with_reducible assumption) | assumption)
                      obtain ⟨ad384, e384, hx384_0⟩ := Kd.at_int HR0.out x3_1 p384 q384
                      obtain rfl : ad382 = ad384 := (by injection e384)
                      replace p384 := eq_true p384
                      replace q384 := eq_true q384
                      have p385 : 0 ≤ ((ji7) : Int) := of_decide_eq_true (by first | (with_reducible assumption) | assumption)
                      have q385 : (ji7) < (l0.length : Int) := of_decide_eq_true (by first | (with_reducible assumption) | assumption)
                      obtain ⟨ad385, e385, hx385_0⟩ := Kd.at_int HR0.out (ji7) p385 q385
                      obtain rfl : ad382 = ad385 := (by injection e385)
                      replace p385 := eq_true p385
                      replace q385 := eq_true q385
                      go_wp2
                      repeat (go_quiet (fail); try go_wp2)
                      go_ret
                      exact ⟨by first | rfl | (simp; done) | (simp only [← hji7] <;> (first | rfl | simp)) | (simp [*]; done), by repeat (first | exact Drawn0.refl _ | apply Drawn0.step)⟩
                    · rw [if_neg c10] at H
                      have c10b0 : decide ((rd l0 x3_1) ≤ (rd l0 (ji7))) = false := decide_eq_false c10
                      clear c10
                      have H' := Aside0.mk H
                      clear H
                      have p382 : 0 ≤ (x3_1 : Int) := of_decide_eq_true (by first | (with_reducible assumption) | assumption)
                      have q382 : x3_1 < (l0.length : Int) := of_decide_eq_true (by first | (with_reducible assumption) | assumption)
                      obtain ⟨ad382, e382, hx382_0⟩ := Kd.at_int HR0.out x3_1 p382 q382
                      cases e382
                      replace p382 := eq_true p382
                      replace q382 := eq_true q382
                      have p383 : 0 ≤ (x3_1 : Int) := of_decide_eq_true (by first | (with_reducible assumption) | assumption)
                      have q383 : x3_1 < (l0.length : Int) := of_decide_eq_true (by first | (with_reducible assumption) | assumption)
                      obtain ⟨ad383, e383, hx383_0⟩ := Kd.at_int HR0.out x3_1 p383 q383
                      obtain rfl : ad382 = ad383 := (by injection e383)
                      replace p383 := eq_true p383
                      replace q383 := eq_true q383
                      have p384 : 0 ≤ (x3_1 : Int) := of_decide_eq_true (by first | (with_reducible assumption) | assumption)
                      have q384 : x3_1 < (l0.length : Int) := of_decide_eq_true (by first | (with_reducible assumption) | assumption)
                      obtain ⟨ad384, e384, hx384_0⟩ := Kd.at_int HR0.out x3_1 p384 q384
                      obtain rfl : ad382 = ad384 := (by injection e384)
                      replace p384 := eq_true p384
                      replace q384 := eq_true q384
                      have p385 : 0 ≤ ((ji7) : Int) := of_decide_eq_true (by first | (with_reducible assumption) | assumption)
                      have q385 : (ji7) < (l0.length : Int) := of_decide_eq_true (by first | (with_reducible assumption) | assumption)
                      obtain ⟨ad385, e385, hx385_0⟩ := Kd.at_int HR0.out (ji7) p385 q385
                      obtain rfl : ad382 = ad385 := (by injection e385)
                      replace p385 := eq_true p385
                      replace q385 := eq_true q385
                      go_wp2
                      repeat (go_quiet (fail); try go_wp2)
                      go_roundg k1
                      case measure => have := HK1.out; omega
                      case rel => exact ⟨(wrap64 (x3_1 + 1)), (by first | rfl | (simp; done) | (simp [*]; done)), H', ⟨by have := HK1.out; omega⟩, by repeat (first | exact Drawn0.refl _ | apply Drawn0.step)⟩
                  · rw [if_neg c9] at H
                    exact absurd H (by simp)
                · rw [if_neg c8] at H
                  exact absurd H (by simp)
              · rw [if_neg c6] at H
                have c6b0 : decide (0 < x3_1) = false := decide_eq_false c6
                clear c6
                have H' := Aside0.mk H
                clear H
                have p382 : 0 ≤ (x3_1 : Int) := of_decide_eq_true (by first | (with_reducible assumption) | assumption)
                have q382 : x3_1 < (l0.length : Int) := of_decide_eq_true (by first | (with_reducible assumption) | assumption)
                obtain ⟨ad382, e382, hx382_0⟩ := Kd.at_int HR0.out x3_1 p382 q382
                cases e382
                replace p382 := eq_true p382
                replace q382 := eq_true q382
                have p383 : 0 ≤ (x3_1 : Int) := of_decide_eq_true (by first | (with_reducible assumption) | assumption)
                have q383 : x3_1 < (l0.length : Int) := of_decide_eq_true (by first | (with_reducible assumption) | assumption)
                obtain ⟨ad383, e383, hx383_0⟩ := Kd.at_int HR0.out x3_1 p383 q383
                obtain rfl : ad382 = ad383 := (by injection e383)
                replace p383 := eq_true p383
                replace q383 := eq_true q383
                go_wp2
                repeat (go_quiet (fail); try go_wp2)
                go_roundg k1
                case measure => have := HK1.out; omega
                case rel => exact ⟨(wrap64 (x3_1 + 1)), (by first | rfl | (simp; done) | (simp [*]; done)), H', ⟨by have := HK1.out; omega⟩, by repeat (first | exact Drawn0.refl _ | apply Drawn0.step)⟩
        · rw [if_neg c3] at H
          exact absurd H (by simp)
      · rw [if_neg c2] at H
        have c2b0 : decide (x3_1 < (l0.length : Int)) = false := decide_eq_false c2
        clear c2
        obtain rfl := Option.some.inj H
        go_wp2
        repeat (go_quiet (fail); try go_wp2)
        go_ret
        exact ⟨by first | rfl | (simp; done) | (simp [*]; done), by repeat (first | exact Drawn0.refl _ | apply Drawn0.step)⟩

-- NOT PRINTED: function 14 (greenwoodlaw17_fixed)

/-! ### greenwoodref09_nests: function 100 -/
def greenwoodref09_nests.f (a0 : Int) : Option (Bool) := if a0 ≥ 5 then (some (decide (a0 ≤ 9))) else (some false)
set_option maxHeartbeats 8000000 in
set_option maxRecDepth 100000 in
theorem greenwoodref09_nests.calls (a0 : Int) (r : Bool) (w : World) (h : greenwoodref09_nests.f a0 = some r) :
    Calls Tryz.prog 100 #[.int .i64 a0] w fun e w' => e = .returned (.bool r) ∧ Drawn0 w w' := by
  have H : (if a0 ≥ 5 then (some (decide (a0 ≤ 9))) else (some false)) = some r := h
  clear h
  by_cases c2 : a0 ≥ 5
  · rw [if_pos c2] at H
    have c2b0 : decide (5 ≤ a0) = true := decide_eq_true c2
    clear c2
    obtain rfl := Option.some.inj H
    go_enter Tryz.func100, Tryz.ntmps100
    go_wp2
    go_ret
    exact ⟨by first | rfl | (simp; done) | (simp [*]; done), by repeat (first | exact Drawn0.refl _ | apply Drawn0.step)⟩
  · rw [if_neg c2] at H
    have c2b0 : decide (5 ≤ a0) = false := decide_eq_false c2
    clear c2
    obtain rfl := Option.some.inj H
    go_enter Tryz.func100, Tryz.ntmps100
    go_wp2
    go_ret
    exact ⟨by first | rfl | (simp; done) | (simp [*]; done), by repeat (first | exact Drawn0.refl _ | apply Drawn0.step)⟩

/-! ### greenwoodref09_deep: function 65 -/
mutual
def greenwoodref09_deep.l0 : Nat → Int → Int → Int → Int → Int → Int → Int → List (List Int) → List (S25) → Option (Int)
  | 0, _, _, _, _, _, _, _, _, _ => none
  | k + 1, x1, x5, x6, x389000, x389001, x389002, x389003, x389004, x389005 => if x6 < (x389005.length : Int) then (if x1 > 0 then ((greenwoodref09_nests.f x389000).bind fun t389 => (if t389 = true then (if 0 ≤ x6 then ((greenwoodref09_deep.f k ((rd_T25 x389005 x6).f0) ((rd_T25 x389005 x6).f1) ((rd_T25 x389005 x6).f2) ((rd_T25 x389005 x6).f3) ((rd_T25 x389005 x6).f4) ((rd_T25 x389005 x6).f5) (wrap64 (x1 - 1))).bind fun t391 => (greenwoodref09_deep.l0 k x1 (mx x5 t391) (wrap64 (x6 + 1)) x389000 x389001 x389002 x389003 x389004 x389005)) else (none)) else (some (wrap64 (x5 + 1))))) else (some (wrap64 (x5 + 1)))) else (some (wrap64 (x5 + 1)))
def greenwoodref09_deep.f : Nat → Int → Int → Int → Int → List (List Int) → List (S25) → Int → Option (Int)
  | 0, _, _, _, _, _, _, _ => none
  | k + 1, a0_0, a0_1, a0_2, a0_3, l0_4, l0_5, a1 => greenwoodref09_deep.l0 k a1 0 0 a0_0 a0_1 a0_2 a0_3 l0_4 l0_5
end
theorem greenwoodref09_deep.mono_l : ∀ k, (∀ y0 y1 y2 y3 y4 y5 y6, LeO (greenwoodref09_deep.f k y0 y1 y2 y3 y4 y5 y6) (greenwoodref09_deep.f (k + 1) y0 y1 y2 y3 y4 y5 y6)) ∧ (∀ y0 y1 y2 y3 y4 y5 y6 y7 y8, LeO (greenwoodref09_deep.l0 k y0 y1 y2 y3 y4 y5 y6 y7 y8) (greenwoodref09_deep.l0 (k + 1) y0 y1 y2 y3 y4 y5 y6 y7 y8))
  | 0 => ⟨fun _ _ _ _ _ _ _ r h => by simp [greenwoodref09_deep.f] at h, fun _ _ _ _ _ _ _ _ _ r h => by simp [greenwoodref09_deep.l0] at h⟩
  | k + 1 => by
    obtain ⟨ih0, ih1⟩ := greenwoodref09_deep.mono_l k
    refine ⟨?_, ?_⟩
    · intro y0 y1 y2 y3 y4 y5 y6
      unfold greenwoodref09_deep.f
      repeat' first
      | (with_reducible exact ih0 _ _ _ _ _ _ _)
      | (with_reducible exact ih1 _ _ _ _ _ _ _ _ _)
      | (with_reducible exact LeO.refl _)
      | (with_reducible exact LeO.none _)
      | (with_reducible refine LeO.ite ?_ ?_)
      | (with_reducible refine LeO.bind ?_ (fun _ => ?_))
      | exact ih0 _ _ _ _ _ _ _
      | exact ih1 _ _ _ _ _ _ _ _ _
      | exact LeO.none _
      | refine LeO.ite ?_ ?_
      | refine LeO.bind ?_ (fun _ => ?_)
    · intro y0 y1 y2 y3 y4 y5 y6 y7 y8
      unfold greenwoodref09_deep.l0
      repeat' first
      | (with_reducible exact ih0 _ _ _ _ _ _ _)
      | (with_reducible exact ih1 _ _ _ _ _ _ _ _ _)
      | (with_reducible exact LeO.refl _)
      | (with_reducible exact LeO.none _)
      | (with_reducible refine LeO.ite ?_ ?_)
      | (with_reducible refine LeO.bind ?_ (fun _ => ?_))
      | exact ih0 _ _ _ _ _ _ _
      | exact ih1 _ _ _ _ _ _ _ _ _
      | exact LeO.none _
      | refine LeO.ite ?_ ?_
      | refine LeO.bind ?_ (fun _ => ?_)
theorem greenwoodref09_deep.mono : ∀ a0 a1 a2 a3 a4 a5 a6 k, LeO (greenwoodref09_deep.f k a0 a1 a2 a3 a4 a5 a6) (greenwoodref09_deep.f (k + 1) a0 a1 a2 a3 a4 a5 a6) := by
  intro a0 a1 a2 a3 a4 a5 a6 k
  obtain ⟨ih0, ih1⟩ := greenwoodref09_deep.mono_l k
  exact ih0 a0 a1 a2 a3 a4 a5 a6
set_option maxHeartbeats 8000000 in
set_option maxRecDepth 100000 in
theorem greenwoodref09_deep.calls (k : Nat) : ∀ (a0_0 : Int) (a0_1 : Int) (a0_2 : Int) (a0_3 : Int) (A0_4 : Option Addr) (c0_4 : Nat) (l0_4 : List (List Int)) (A0_5 : Option Addr) (c0_5 : Nat) (l0_5 : List (S25)) (a1 : Int) (r : Int) (w : World) (hr0_4 : Kd.C (Kd.slice 3 (Kd.int .i64)) w A0_4 l0_4.length l0_4) (hc0_4 : l0_4.length ≤ c0_4) (hr0_5 : Kd.C k25 w A0_5 l0_5.length l0_5) (hc0_5 : l0_5.length ≤ c0_5) (h : greenwoodref09_deep.f k a0_0 a0_1 a0_2 a0_3 l0_4 l0_5 a1 = some r),
    Calls Tryz.prog 65 #[.agg #[.int .i64 a0_0, .int .i64 a0_1, .int .i64 a0_2, .int .i64 a0_3, .slice A0_4 l0_4.length c0_4, .slice A0_5 l0_5.length c0_5], .int .i64 a1] w fun e w' => e = .returned (.int .i64 r) ∧ Below w.heap.size w w' := by
  induction k using Nat.strongRecOn with
  | _ k ih =>
  intro a0_0 a0_1 a0_2 a0_3 A0_4 c0_4 l0_4 A0_5 c0_5 l0_5 a1 r w hr0_4 hc0_4 hr0_5 hc0_5 h
  cases k with
  | zero => exact absurd h (by simp [greenwoodref09_deep.f])
  | succ k =>
  simp only [greenwoodref09_deep.f] at h
  have hu25 := Tryz.underlying25
  have HR0_4 := Aside0.mk hr0_4
  have HC0_4 := Aside0.mk hc0_4
  clear hr0_4 hc0_4
  have HR0_5 := Aside0.mk hr0_5
  have HC0_5 := Aside0.mk hc0_5
  clear hr0_5 hc0_5
  have HB := Aside0.mk (Below.refl w.heap.size w)
  have H : (greenwoodref09_deep.l0 k a1 0 0 a0_0 a0_1 a0_2 a0_3 l0_4 l0_5) = some r := h
  clear h
  have H' := Aside0.mk H
  clear H
  go_enter Tryz.func65, Tryz.ntmps65
  go_wp2_with (first | ((with_reducible refine gate_dst (N := 2) rfl ?_); refine box_event ?hg (N := 2) ?hd (cs := #[.int .i64 a0_0, .int .i64 a0_1, .int .i64 a0_2, .int .i64 a0_3, .slice A0_4 l0_4.length c0_4, .slice A0_5 l0_5.length c0_5]) (t := 25) ?hr ?_; (case hd => rfl); (case hg => rfl); (case hr => first | (go_simp; done) | (go_simp; rfl)); intro gb388 hg w3 hbox hb; have n0_ := Aside0.mk (below_step (by repeat (first | (with_reducible first | exact HB.out | apply below_alloc | apply pw_below_drewN | apply below_drew1) | exact HB.out)) hb); have n1_ := Aside0.mk (hbox); have n2_ := Aside0.mk ((by rw [hg]; exact (below_size (by repeat (first | (with_reducible first | exact HB.out | apply below_alloc | apply pw_below_drewN | apply below_drew1) | exact HB.out))) : w.heap.size ≤ gb388)); have n3_ := Aside0.mk ((by rw [hg]; exact (below_size (by repeat (first | (with_reducible first | exact HB.out | apply below_alloc | apply pw_below_drewN | apply below_drew1) | exact HB.out))) : w.heap.size ≤ gb388)); clear HB; have HB := n0_; have BK388 := n1_; have GW388 := n2_; have GE388 := n3_; clear n0_ n1_ n2_ n3_; clear hb hbox hg))
  go_loopg [5, 6] k (fun kq v5 v6 w' => ∃ (x5_1 : Int) (x6_1 : Int), v5 = .int .i64 x5_1 ∧ v6 = .int .i64 x6_1 ∧ Aside0 (greenwoodref09_deep.l0 kq a1 x5_1 x6_1 a0_0 a0_1 a0_2 a0_3 l0_4 l0_5 = some r) ∧ Aside0 (kq ≤ k) ∧ Aside0 (w'.heap[gb388]? = some (.cells #[.int .i64 a0_0, .int .i64 a0_1, .int .i64 a0_2, .int .i64 a0_3, (.slice A0_4 l0_4.length c0_4), (.slice A0_5 l0_5.length c0_5)] 25 (0, 0))) ∧ Aside0 (Below w.heap.size w w'))
  case atStart => exact ⟨(0), (0), (by first | rfl | (simp; done) | (simp [*]; done)), (by first | rfl | (simp; done) | (simp [*]; done)), H', ⟨Nat.le_refl _⟩, ⟨by (with_reducible repeat (first | refine blk_drewN ?_ _ | refine blk_drew ?_ | refine blk_alloc ?_ _)); exact BK388.out⟩, ⟨by repeat (first | (with_reducible first | exact HB.out | apply below_alloc | apply pw_below_drewN | apply below_drew1 | refine below_set ?_ GE388.out) | exact HB.out)⟩⟩
  case round =>
    clear H'
    try clear p2
    obtain ⟨x5_1, x6_1, rfl, rfl, HA, HK1, BK388, HB⟩ := hrel
    cases gk with
    | zero => exact absurd HA.out (by simp [greenwoodref09_deep.l0])
    | succ k1 =>
      have H := HA.out
      clear HA
      simp only [greenwoodref09_deep.l0] at H
      by_cases c4 : x6_1 < (l0_5.length : Int)
      · rw [if_pos c4] at H
        have c4b0 : decide (x6_1 < (l0_5.length : Int)) = true := decide_eq_true c4
        clear c4
        by_cases c5 : a1 > 0
        · rw [if_pos c5] at H
          have c5b0 : decide (0 < a1) = true := decide_eq_true c5
          clear c5
          replace H := Option.bind_eq_some_iff.mp H
          obtain ⟨t389, A60, H⟩ := H
          replace H : (if t389 = true then (if 0 ≤ x6_1 then ((greenwoodref09_deep.f k1 ((rd_T25 l0_5 x6_1).f0) ((rd_T25 l0_5 x6_1).f1) ((rd_T25 l0_5 x6_1).f2) ((rd_T25 l0_5 x6_1).f3) ((rd_T25 l0_5 x6_1).f4) ((rd_T25 l0_5 x6_1).f5) (wrap64 (a1 - 1))).bind fun t391 => (greenwoodref09_deep.l0 k1 a1 (mx x5_1 t391) (wrap64 (x6_1 + 1)) a0_0 a0_1 a0_2 a0_3 l0_4 l0_5)) else (none)) else (some (wrap64 (x5_1 + 1)))) = some r := H
          have A6 := Aside0.mk A60
          clear A60
          by_cases c7 : t389 = true
          · subst c7
            have H1 : (if 0 ≤ x6_1 then ((greenwoodref09_deep.f k1 ((rd_T25 l0_5 x6_1).f0) ((rd_T25 l0_5 x6_1).f1) ((rd_T25 l0_5 x6_1).f2) ((rd_T25 l0_5 x6_1).f3) ((rd_T25 l0_5 x6_1).f4) ((rd_T25 l0_5 x6_1).f5) (wrap64 (a1 - 1))).bind fun t391 => (greenwoodref09_deep.l0 k1 a1 (mx x5_1 t391) (wrap64 (x6_1 + 1)) a0_0 a0_1 a0_2 a0_3 l0_4 l0_5)) else (none)) = some r := by rw [if_pos rfl] at H; exact H
            clear H
            have H := H1
            clear H1
            by_cases c8 : 0 ≤ x6_1
            · rw [if_pos c8] at H
              have c8b0 : decide (0 ≤ x6_1) = true := decide_eq_true c8
              clear c8
              replace H := Option.bind_eq_some_iff.mp H
              obtain ⟨t391, A90, H⟩ := H
              replace H : (greenwoodref09_deep.l0 k1 a1 (mx x5_1 t391) (wrap64 (x6_1 + 1)) a0_0 a0_1 a0_2 a0_3 l0_4 l0_5) = some r := H
              have A9 := Aside0.mk A90
              clear A90
              obtain ⟨ji10, hji10⟩ : ∃ j_ : Int, (mx x5_1 t391) = j_ := ⟨_, rfl⟩
              replace H : (greenwoodref09_deep.l0 k1 a1 ji10 (wrap64 (x6_1 + 1)) a0_0 a0_1 a0_2 a0_3 l0_4 l0_5) = some r := by first | (rw [hji10] at H; exact H) | (simp only [hji10] at H ⊢; exact H)
              (try rw [hji10] at A6)
              (try rw [hji10] at A9)
              have hji10_ : (if x5_1 < t391 then t391 else x5_1) = ji10 := hji10
              have H' := Aside0.mk H
              clear H
              have hcz11_0 : wr.cell? ⟨gb388, 0, none⟩ = some (.int .i64 a0_0) := (blk_cell BK388.out 0).trans rfl
              have hcz11_1 : wr.cell? ⟨gb388, 1, none⟩ = some (.int .i64 a0_1) := (blk_cell BK388.out 1).trans rfl
              have hcz11_2 : wr.cell? ⟨gb388, 2, none⟩ = some (.int .i64 a0_2) := (blk_cell BK388.out 2).trans rfl
              have hcz11_3 : wr.cell? ⟨gb388, 3, none⟩ = some (.int .i64 a0_3) := (blk_cell BK388.out 3).trans rfl
              have hcz11_4 : wr.cell? ⟨gb388, 4, none⟩ = some (.slice A0_4 l0_4.length c0_4) := (blk_cell BK388.out 4).trans rfl
              have hcz11_5 : wr.cell? ⟨gb388, 5, none⟩ = some (.slice A0_5 l0_5.length c0_5) := (blk_cell BK388.out 5).trans rfl
              have hfz11_0 := blk_frozen BK388.out 0
              have hfz11_1 := blk_frozen BK388.out 1
              have hfz11_2 := blk_frozen BK388.out 2
              have hfz11_3 := blk_frozen BK388.out 3
              have hfz11_4 := blk_frozen BK388.out 4
              have hfz11_5 := blk_frozen BK388.out 5
              go_wp2_with (first | (go_at_call 100; (with_reducible refine (greenwoodref09_nests.calls a0_0 true _ A6.out).mono ?_); rintro e w' ⟨rfl, ⟨nd, rfl⟩⟩; have p390 : 0 ≤ (x6_1 : Int) := of_decide_eq_true (by first | (with_reducible assumption) | assumption); have q390 : x6_1 < (l0_5.length : Int) := of_decide_eq_true (by first | (with_reducible assumption) | assumption); obtain ⟨ad390, A390_4, c390_4, A390_5, c390_5, e390, hx390_0, hx390_1, hx390_2, hx390_3, hx390_4, hx390_5, hl390_4, hi390_4, hl390_5, hi390_5⟩ := at_T25 HR0_5.out x6_1 p390 q390; cases e390; replace hx390_0 := (HB.out.cell (World.block_lt_of_cell? w _ hx390_0)).trans hx390_0; replace hx390_1 := (HB.out.cell (World.block_lt_of_cell? w _ hx390_1)).trans hx390_1; replace hx390_2 := (HB.out.cell (World.block_lt_of_cell? w _ hx390_2)).trans hx390_2; replace hx390_3 := (HB.out.cell (World.block_lt_of_cell? w _ hx390_3)).trans hx390_3; replace hx390_4 := (HB.out.cell (World.block_lt_of_cell? w _ hx390_4)).trans hx390_4; replace hx390_5 := (HB.out.cell (World.block_lt_of_cell? w _ hx390_5)).trans hx390_5; have HR390_4 := Aside0.mk hi390_4; have HC390_4 := Aside0.mk hl390_4; clear hi390_4 hl390_4; have HR390_5 := Aside0.mk hi390_5; have HC390_5 := Aside0.mk hl390_5; clear hi390_5 hl390_5; replace p390 := eq_true p390; replace q390 := eq_true q390) | ((with_reducible refine gate_callee (f := 65) rfl ?_); refine goesL_ (some 31) rfl rfl Tryz.func65 (by kernel_rfl) rfl #[.agg #[.int .i64 ((rd_T25 l0_5 x6_1).f0), .int .i64 ((rd_T25 l0_5 x6_1).f1), .int .i64 ((rd_T25 l0_5 x6_1).f2), .int .i64 ((rd_T25 l0_5 x6_1).f3), .slice A390_4 ((rd_T25 l0_5 x6_1).f4).length c390_4, .slice A390_5 ((rd_T25 l0_5 x6_1).f5).length c390_5], .int .i64 (wrap64 (a1 - 1))] rfl (by (try simp only [List.map_toArray, List.map_cons, List.map_nil]); first | done | rfl | (simp only [List.length_drop, List.length_take]; rfl)) ?_; (with_reducible refine (ih k1 (by have := HK1.out; omega) ((rd_T25 l0_5 x6_1).f0) ((rd_T25 l0_5 x6_1).f1) ((rd_T25 l0_5 x6_1).f2) ((rd_T25 l0_5 x6_1).f3) _ _ ((rd_T25 l0_5 x6_1).f4) _ _ ((rd_T25 l0_5 x6_1).f5) (wrap64 (a1 - 1)) t391 _ ?side1 ?side2 ?side3 ?side4 A9.out).mono ?_); (case side1 => repeat (first | exact (Kd.C_below HR390_4.out (by repeat (first | (with_reducible first | exact HB.out | apply below_alloc | apply pw_below_drewN | apply below_drew1 | refine below_set ?_ GE388.out) | exact HB.out))) | (with_reducible refine Kd.C_alloc ?_ _) | (with_reducible refine Kd.C_drewN ?_ _) | (with_reducible refine Kd.C_drew ?_))); (case side2 => exact HC390_4.out); (case side3 => repeat (first | exact (Kd.C_below HR390_5.out (by repeat (first | (with_reducible first | exact HB.out | apply below_alloc | apply pw_below_drewN | apply below_drew1 | refine below_set ?_ GE388.out) | exact HB.out))) | (with_reducible refine Kd.C_alloc ?_ _) | (with_reducible refine Kd.C_drewN ?_ _) | (with_reducible refine Kd.C_drew ?_))); (case side4 => exact HC390_5.out); rintro e w12 ⟨rfl, hb⟩; refine ⟨_, rfl, ?_⟩; have n0_ := Aside0.mk (blk_below (g := gb388) (o := .cells #[.int .i64 a0_0, .int .i64 a0_1, .int .i64 a0_2, .int .i64 a0_3, .slice A0_4 l0_4.length c0_4, .slice (some ad390) l0_5.length c0_5] 25 (0, 0)) (by (with_reducible repeat (first | refine blk_drewN ?_ _ | refine blk_drew ?_ | refine blk_alloc ?_ _)); exact BK388.out) hb); have n1_ := Aside0.mk (below_step (by repeat (first | (with_reducible first | exact HB.out | apply below_alloc | apply pw_below_drewN | apply below_drew1 | refine below_set ?_ GE388.out) | exact HB.out)) hb); clear BK388; clear HB; have BK388 := n0_; have HB := n1_; clear n0_ n1_; (try clear hb); (try clear hb2); (try clear hk); (try clear hi)))
              go_roundg k1
              case measure => have := HK1.out; omega
              case rel => exact ⟨(ji10), (wrap64 (x6_1 + 1)), (by first | rfl | (simp; done) | (simp only [← hji10] <;> (first | rfl | simp)) | (simp [*]; done)), (by first | rfl | (simp; done) | (simp [*]; done)), H', ⟨by have := HK1.out; omega⟩, ⟨by (with_reducible repeat (first | refine blk_drewN ?_ _ | refine blk_drew ?_ | refine blk_alloc ?_ _)); exact BK388.out⟩, ⟨by repeat (first | (with_reducible first | exact HB.out | apply below_alloc | apply pw_below_drewN | apply below_drew1 | refine below_set ?_ GE388.out) | exact HB.out)⟩⟩
            · rw [if_neg c8] at H
              exact absurd H (by simp)
          · replace c7 := Bool.eq_false_iff.mpr c7
            subst c7
            have H1 : (some (wrap64 (x5_1 + 1))) = some r := by rw [if_neg (show ¬ (false = true) by decide)] at H; exact H
            clear H
            have H := H1
            clear H1
            obtain rfl := Option.some.inj H
            have hcz13_0 : wr.cell? ⟨gb388, 0, none⟩ = some (.int .i64 a0_0) := (blk_cell BK388.out 0).trans rfl
            have hcz13_1 : wr.cell? ⟨gb388, 1, none⟩ = some (.int .i64 a0_1) := (blk_cell BK388.out 1).trans rfl
            have hcz13_2 : wr.cell? ⟨gb388, 2, none⟩ = some (.int .i64 a0_2) := (blk_cell BK388.out 2).trans rfl
            have hcz13_3 : wr.cell? ⟨gb388, 3, none⟩ = some (.int .i64 a0_3) := (blk_cell BK388.out 3).trans rfl
            have hcz13_4 : wr.cell? ⟨gb388, 4, none⟩ = some (.slice A0_4 l0_4.length c0_4) := (blk_cell BK388.out 4).trans rfl
            have hcz13_5 : wr.cell? ⟨gb388, 5, none⟩ = some (.slice A0_5 l0_5.length c0_5) := (blk_cell BK388.out 5).trans rfl
            have hfz13_0 := blk_frozen BK388.out 0
            have hfz13_1 := blk_frozen BK388.out 1
            have hfz13_2 := blk_frozen BK388.out 2
            have hfz13_3 := blk_frozen BK388.out 3
            have hfz13_4 := blk_frozen BK388.out 4
            have hfz13_5 := blk_frozen BK388.out 5
            go_wp2_with (first | (go_at_call 100; (with_reducible refine (greenwoodref09_nests.calls a0_0 false _ A6.out).mono ?_); rintro e w' ⟨rfl, ⟨nd, rfl⟩⟩))
            go_ret
            exact ⟨by first | rfl | (simp [errW_none, errW_some] <;> rfl) | (simp [*, errW_none, errW_some] <;> rfl), by repeat (first | (with_reducible first | exact HB.out | apply below_alloc | apply pw_below_drewN | apply below_drew1 | refine below_set ?_ GE388.out) | exact HB.out)⟩
        · rw [if_neg c5] at H
          have c5b0 : decide (0 < a1) = false := decide_eq_false c5
          clear c5
          obtain rfl := Option.some.inj H
          have hcz14_0 : wr.cell? ⟨gb388, 0, none⟩ = some (.int .i64 a0_0) := (blk_cell BK388.out 0).trans rfl
          have hcz14_1 : wr.cell? ⟨gb388, 1, none⟩ = some (.int .i64 a0_1) := (blk_cell BK388.out 1).trans rfl
          have hcz14_2 : wr.cell? ⟨gb388, 2, none⟩ = some (.int .i64 a0_2) := (blk_cell BK388.out 2).trans rfl
          have hcz14_3 : wr.cell? ⟨gb388, 3, none⟩ = some (.int .i64 a0_3) := (blk_cell BK388.out 3).trans rfl
          have hcz14_4 : wr.cell? ⟨gb388, 4, none⟩ = some (.slice A0_4 l0_4.length c0_4) := (blk_cell BK388.out 4).trans rfl
          have hcz14_5 : wr.cell? ⟨gb388, 5, none⟩ = some (.slice A0_5 l0_5.length c0_5) := (blk_cell BK388.out 5).trans rfl
          have hfz14_0 := blk_frozen BK388.out 0
          have hfz14_1 := blk_frozen BK388.out 1
          have hfz14_2 := blk_frozen BK388.out 2
          have hfz14_3 := blk_frozen BK388.out 3
          have hfz14_4 := blk_frozen BK388.out 4
          have hfz14_5 := blk_frozen BK388.out 5
          go_wp2
          go_ret
          exact ⟨by first | rfl | (simp [errW_none, errW_some] <;> rfl) | (simp [*, errW_none, errW_some] <;> rfl), by repeat (first | (with_reducible first | exact HB.out | apply below_alloc | apply pw_below_drewN | apply below_drew1 | refine below_set ?_ GE388.out) | exact HB.out)⟩
      · rw [if_neg c4] at H
        have c4b0 : decide (x6_1 < (l0_5.length : Int)) = false := decide_eq_false c4
        clear c4
        obtain rfl := Option.some.inj H
        have hcz15_0 : wr.cell? ⟨gb388, 0, none⟩ = some (.int .i64 a0_0) := (blk_cell BK388.out 0).trans rfl
        have hcz15_1 : wr.cell? ⟨gb388, 1, none⟩ = some (.int .i64 a0_1) := (blk_cell BK388.out 1).trans rfl
        have hcz15_2 : wr.cell? ⟨gb388, 2, none⟩ = some (.int .i64 a0_2) := (blk_cell BK388.out 2).trans rfl
        have hcz15_3 : wr.cell? ⟨gb388, 3, none⟩ = some (.int .i64 a0_3) := (blk_cell BK388.out 3).trans rfl
        have hcz15_4 : wr.cell? ⟨gb388, 4, none⟩ = some (.slice A0_4 l0_4.length c0_4) := (blk_cell BK388.out 4).trans rfl
        have hcz15_5 : wr.cell? ⟨gb388, 5, none⟩ = some (.slice A0_5 l0_5.length c0_5) := (blk_cell BK388.out 5).trans rfl
        have hfz15_0 := blk_frozen BK388.out 0
        have hfz15_1 := blk_frozen BK388.out 1
        have hfz15_2 := blk_frozen BK388.out 2
        have hfz15_3 := blk_frozen BK388.out 3
        have hfz15_4 := blk_frozen BK388.out 4
        have hfz15_5 := blk_frozen BK388.out 5
        go_wp2
        go_ret
        exact ⟨by first | rfl | (simp [errW_none, errW_some] <;> rfl) | (simp [*, errW_none, errW_some] <;> rfl), by repeat (first | (with_reducible first | exact HB.out | apply below_alloc | apply pw_below_drewN | apply below_drew1 | refine below_set ?_ GE388.out) | exact HB.out)⟩

/-! ### greenwoodref09_Deep: function 33 -/
def greenwoodref09_Deep.f (k : Nat) (a0_0 : Int) (a0_1 : Int) (a0_2 : Int) (a0_3 : Int) (l0_4 : List (List Int)) (l0_5 : List (S25)) : Option (Int) := (greenwoodref09_deep.f k a0_0 a0_1 a0_2 a0_3 l0_4 l0_5 4).bind fun t393 => (some t393)
theorem greenwoodref09_Deep.mono : ∀ a0 a1 a2 a3 a4 a5 k, LeO (greenwoodref09_Deep.f k a0 a1 a2 a3 a4 a5) (greenwoodref09_Deep.f (k + 1) a0 a1 a2 a3 a4 a5) := by
  intro a0 a1 a2 a3 a4 a5 k
  unfold greenwoodref09_Deep.f
  repeat' first
      | (with_reducible exact greenwoodref09_deep.mono _ _ _ _ _ _ _ _)
      | (with_reducible exact LeO.refl _)
      | (with_reducible exact LeO.none _)
      | (with_reducible refine LeO.ite ?_ ?_)
      | (with_reducible refine LeO.bind ?_ (fun _ => ?_))
      | exact greenwoodref09_deep.mono _ _ _ _ _ _ _ _
      | exact LeO.none _
      | refine LeO.ite ?_ ?_
      | refine LeO.bind ?_ (fun _ => ?_)
set_option maxHeartbeats 8000000 in
set_option maxRecDepth 100000 in
theorem greenwoodref09_Deep.calls (k : Nat) (a0_0 : Int) (a0_1 : Int) (a0_2 : Int) (a0_3 : Int) (A0_4 : Option Addr) (c0_4 : Nat) (l0_4 : List (List Int)) (A0_5 : Option Addr) (c0_5 : Nat) (l0_5 : List (S25)) (r : Int) (w : World) (hr0_4 : Kd.C (Kd.slice 3 (Kd.int .i64)) w A0_4 l0_4.length l0_4) (hc0_4 : l0_4.length ≤ c0_4) (hr0_5 : Kd.C k25 w A0_5 l0_5.length l0_5) (hc0_5 : l0_5.length ≤ c0_5) (h : greenwoodref09_Deep.f k a0_0 a0_1 a0_2 a0_3 l0_4 l0_5 = some r) :
    Calls Tryz.prog 33 #[.agg #[.int .i64 a0_0, .int .i64 a0_1, .int .i64 a0_2, .int .i64 a0_3, .slice A0_4 l0_4.length c0_4, .slice A0_5 l0_5.length c0_5]] w fun e w' => e = .returned (.int .i64 r) ∧ Below w.heap.size w w' := by
  have hu25 := Tryz.underlying25
  have HR0_4 := Aside0.mk hr0_4
  have HC0_4 := Aside0.mk hc0_4
  clear hr0_4 hc0_4
  have HR0_5 := Aside0.mk hr0_5
  have HC0_5 := Aside0.mk hc0_5
  clear hr0_5 hc0_5
  have HB := Aside0.mk (Below.refl w.heap.size w)
  have H : ((greenwoodref09_deep.f k a0_0 a0_1 a0_2 a0_3 l0_4 l0_5 4).bind fun t393 => (some t393)) = some r := h
  clear h
  replace H := Option.bind_eq_some_iff.mp H
  obtain ⟨t393, A20, H⟩ := H
  replace H : (some t393) = some r := H
  have A2 := Aside0.mk A20
  clear A20
  obtain rfl := Option.some.inj H
  go_enter Tryz.func33, Tryz.ntmps33
  go_wp2_with (first | ((with_reducible refine gate_dst (N := 1) rfl ?_); refine box_event ?hg (N := 1) ?hd (cs := #[.int .i64 a0_0, .int .i64 a0_1, .int .i64 a0_2, .int .i64 a0_3, .slice A0_4 l0_4.length c0_4, .slice A0_5 l0_5.length c0_5]) (t := 25) ?hr ?_; (case hd => rfl); (case hg => rfl); (case hr => first | (go_simp; done) | (go_simp; rfl)); intro gb392 hg w3 hbox hb; have n0_ := Aside0.mk (below_step (by repeat (first | (with_reducible first | exact HB.out | apply below_alloc | apply pw_below_drewN | apply below_drew1) | exact HB.out)) hb); have n1_ := Aside0.mk (hbox); have n2_ := Aside0.mk ((by rw [hg]; exact (below_size (by repeat (first | (with_reducible first | exact HB.out | apply below_alloc | apply pw_below_drewN | apply below_drew1) | exact HB.out))) : w.heap.size ≤ gb392)); have n3_ := Aside0.mk ((by rw [hg]; exact (below_size (by repeat (first | (with_reducible first | exact HB.out | apply below_alloc | apply pw_below_drewN | apply below_drew1) | exact HB.out))) : w.heap.size ≤ gb392)); clear HB; have HB := n0_; have BK392 := n1_; have GW392 := n2_; have GE392 := n3_; clear n0_ n1_ n2_ n3_; clear hb hbox hg; have hcz4_0 : w3.cell? ⟨gb392, 0, none⟩ = some (.int .i64 a0_0) := (blk_cell BK392.out 0).trans rfl; have hcz4_1 : w3.cell? ⟨gb392, 1, none⟩ = some (.int .i64 a0_1) := (blk_cell BK392.out 1).trans rfl; have hcz4_2 : w3.cell? ⟨gb392, 2, none⟩ = some (.int .i64 a0_2) := (blk_cell BK392.out 2).trans rfl; have hcz4_3 : w3.cell? ⟨gb392, 3, none⟩ = some (.int .i64 a0_3) := (blk_cell BK392.out 3).trans rfl; have hcz4_4 : w3.cell? ⟨gb392, 4, none⟩ = some (.slice A0_4 l0_4.length c0_4) := (blk_cell BK392.out 4).trans rfl; have hcz4_5 : w3.cell? ⟨gb392, 5, none⟩ = some (.slice A0_5 l0_5.length c0_5) := (blk_cell BK392.out 5).trans rfl; have hfz4_0 := blk_frozen BK392.out 0; have hfz4_1 := blk_frozen BK392.out 1; have hfz4_2 := blk_frozen BK392.out 2; have hfz4_3 := blk_frozen BK392.out 3; have hfz4_4 := blk_frozen BK392.out 4; have hfz4_5 := blk_frozen BK392.out 5) | ((with_reducible refine gate_callee (f := 65) rfl ?_); refine goesL_ (some 4) rfl rfl Tryz.func65 (by kernel_rfl) rfl #[.agg #[.int .i64 a0_0, .int .i64 a0_1, .int .i64 a0_2, .int .i64 a0_3, .slice A0_4 l0_4.length c0_4, .slice A0_5 l0_5.length c0_5], .int .i64 4] rfl (by (try simp only [List.map_toArray, List.map_cons, List.map_nil]); first | done | rfl | (simp only [List.length_drop, List.length_take]; rfl)) ?_; (with_reducible refine (greenwoodref09_deep.calls k a0_0 a0_1 a0_2 a0_3 _ _ l0_4 _ _ l0_5 4 t393 _ ?side1 ?side2 ?side3 ?side4 A2.out).mono ?_); (case side1 => repeat (first | exact (Kd.C_below HR0_4.out HB.out) | (with_reducible refine Kd.C_alloc ?_ _) | (with_reducible refine Kd.C_drewN ?_ _) | (with_reducible refine Kd.C_drew ?_))); (case side2 => exact HC0_4.out); (case side3 => repeat (first | exact (Kd.C_below HR0_5.out HB.out) | (with_reducible refine Kd.C_alloc ?_ _) | (with_reducible refine Kd.C_drewN ?_ _) | (with_reducible refine Kd.C_drew ?_))); (case side4 => exact HC0_5.out); rintro e w5 ⟨rfl, hb⟩; refine ⟨_, rfl, ?_⟩; have n0_ := Aside0.mk (blk_below (g := gb392) (o := .cells #[.int .i64 a0_0, .int .i64 a0_1, .int .i64 a0_2, .int .i64 a0_3, .slice A0_4 l0_4.length c0_4, .slice A0_5 l0_5.length c0_5] 25 (0, 0)) (by (with_reducible repeat (first | refine blk_drewN ?_ _ | refine blk_drew ?_ | refine blk_alloc ?_ _)); exact BK392.out) hb); have n1_ := Aside0.mk (below_step (by repeat (first | (with_reducible first | exact HB.out | apply below_alloc | apply pw_below_drewN | apply below_drew1 | refine below_set ?_ GE392.out) | exact HB.out)) hb); clear BK392; clear HB; have BK392 := n0_; have HB := n1_; clear n0_ n1_; (try clear hb); (try clear hb2); (try clear hk); (try clear hi)))
  go_ret
  exact ⟨by first | rfl | (simp [errW_none, errW_some] <;> rfl) | (simp [*, errW_none, errW_some] <;> rfl), by repeat (first | (with_reducible first | exact HB.out | apply below_alloc | apply pw_below_drewN | apply below_drew1 | refine below_set ?_ GE392.out) | exact HB.out)⟩

end Go.Proofs.YtmcloifhgbehdaaGreatDoor.PBasesSteps
