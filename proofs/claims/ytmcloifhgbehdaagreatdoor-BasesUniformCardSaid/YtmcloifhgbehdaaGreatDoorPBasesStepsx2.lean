-- PRINTED BY print.sh 35421559b90ae4d0a3588c463048766b98c2df88dd9212a6774a882060cdf62d: not written by this session
import Derived.Test.YtmcloifhgbehdaaGreatDoorPBasesStepsx0
import Derived.Test.YtmcloifhgbehdaaGreatDoorPBasesStepsx1
namespace Go.Proofs.YtmcloifhgbehdaaGreatDoor.PBasesSteps
open Go.RowKit Go.Proofs.YtmcloifhgbehdaaGreatDoorW.PrintWords Go.Proofs.YtmcloifhgbehdaaGreatDoorW.PrintLast Go.Proofs.YtmcloifhgbehdaaGreatDoorW.PrintMore
attribute [local go_sem] max2_int min2_int max_two min_two max_three min_three max_four min_four   -- for this text's walks alone
set_option linter.unusedVariables false
set_option linter.unusedSimpArgs false

/-! ### set_merge: function 98 -/
mutual
def set_merge.j0 : Nat → List Int → List Int → Bool → Bool → Bool → Bool → Option (List Int)
  | 0, _, _, _, _, _, _ => none
  | k + 1, x0, x1, x2, x3, x4, x21 => if x21 = true then (some ([] : List Int)) else (set_merge.l0 k x0 x1 x2 x3 x4 ([] : List Int))
def set_merge.l0 : Nat → List Int → List Int → Bool → Bool → Bool → List Int → Option (List Int)
  | 0, _, _, _, _, _, _ => none
  | k + 1, x0, x1, x2, x3, x4, x11 => if (x0.length : Int) > 0 then (set_merge.j2 k x0 x1 x2 x3 x4 x11 true) else (set_merge.j2 k x0 x1 x2 x3 x4 x11 (decide ((x1.length : Int) > 0)))
def set_merge.j2 : Nat → List Int → List Int → Bool → Bool → Bool → List Int → Bool → Option (List Int)
  | 0, _, _, _, _, _, _, _ => none
  | k + 1, x0, x1, x2, x3, x4, x11, x29 => if x29 = true then (if (x1.length : Int) = 0 then (set_merge.j3 k x0 x1 x2 x3 x4 x11 x4 true) else (if (x0.length : Int) > 0 then (if 0 < (x0.length : Int) then (if 0 < (x1.length : Int) then (set_merge.j3 k x0 x1 x2 x3 x4 x11 x4 (decide ((rd x0 0) < (rd x1 0)))) else (none)) else (none)) else (set_merge.j3 k x0 x1 x2 x3 x4 x11 x4 false))) else (some x11)
def set_merge.j3 : Nat → List Int → List Int → Bool → Bool → Bool → List Int → Bool → Bool → Option (List Int)
  | 0, _, _, _, _, _, _, _, _ => none
  | k + 1, x0, x1, x2, x3, x4, x11, x13, x38 => if x38 = true then (if 0 < (x0.length : Int) then (if 1 ≤ (x0.length : Int) then ((some (x0.drop 1 : List Int)).bind fun y124 => (if x2 = true then (if x11.length < 17592186044416 then (set_merge.l0 k y124 x1 x2 x3 x4 (x11 ++ [rd x0 0])) else (none)) else (set_merge.l0 k y124 x1 x2 x3 x4 x11))) else (none)) else (none)) else (if (x0.length : Int) = 0 then (set_merge.j4 k x0 x1 x2 x3 x4 x11 x13 true) else (if 0 < (x1.length : Int) then (if 0 < (x0.length : Int) then (set_merge.j4 k x0 x1 x2 x3 x4 x11 x13 (decide ((rd x1 0) < (rd x0 0)))) else (none)) else (none)))
def set_merge.j4 : Nat → List Int → List Int → Bool → Bool → Bool → List Int → Bool → Bool → Option (List Int)
  | 0, _, _, _, _, _, _, _, _ => none
  | k + 1, x0, x1, x2, x3, x4, x11, x13, x62 => if x62 = true then (if 0 < (x1.length : Int) then (if 1 ≤ (x1.length : Int) then ((some (x1.drop 1 : List Int)).bind fun y135 => (if x3 = true then (if x11.length < 17592186044416 then (set_merge.l0 k x0 y135 x2 x3 x4 (x11 ++ [rd x1 0])) else (none)) else (set_merge.l0 k x0 y135 x2 x3 x4 x11))) else (none)) else (none)) else (if 0 < (x0.length : Int) then (if 1 ≤ (x0.length : Int) then ((some (x0.drop 1 : List Int)).bind fun y144 => (if 1 ≤ (x1.length : Int) then ((some (x1.drop 1 : List Int)).bind fun y149 => (if x13 = true then (if x11.length < 17592186044416 then (set_merge.l0 k y144 y149 x2 x3 x4 (x11 ++ [rd x0 0])) else (none)) else (set_merge.l0 k y144 y149 x2 x3 x4 x11))) else (none))) else (none)) else (none))
end
def set_merge.f (k : Nat) (l0 : List Int) (l1 : List Int) (a2 : Bool) (a3 : Bool) (a4 : Bool) : Option (List Int) := (set_May.f k l0).bind fun t119 => (if t119 = true then ((set_May.f k l1).bind fun t120 => (set_merge.j0 k l0 l1 a2 a3 a4 (!t120))) else (set_merge.j0 k l0 l1 a2 a3 a4 true))
theorem set_merge.mono_l : ∀ k, (∀ y0 y1 y2 y3 y4 y5, LeO (set_merge.j0 k y0 y1 y2 y3 y4 y5) (set_merge.j0 (k + 1) y0 y1 y2 y3 y4 y5)) ∧ (∀ y0 y1 y2 y3 y4 y5, LeO (set_merge.l0 k y0 y1 y2 y3 y4 y5) (set_merge.l0 (k + 1) y0 y1 y2 y3 y4 y5)) ∧ (∀ y0 y1 y2 y3 y4 y5 y6, LeO (set_merge.j2 k y0 y1 y2 y3 y4 y5 y6) (set_merge.j2 (k + 1) y0 y1 y2 y3 y4 y5 y6)) ∧ (∀ y0 y1 y2 y3 y4 y5 y6 y7, LeO (set_merge.j3 k y0 y1 y2 y3 y4 y5 y6 y7) (set_merge.j3 (k + 1) y0 y1 y2 y3 y4 y5 y6 y7)) ∧ (∀ y0 y1 y2 y3 y4 y5 y6 y7, LeO (set_merge.j4 k y0 y1 y2 y3 y4 y5 y6 y7) (set_merge.j4 (k + 1) y0 y1 y2 y3 y4 y5 y6 y7))
  | 0 => ⟨fun _ _ _ _ _ _ r h => by simp [set_merge.j0] at h, fun _ _ _ _ _ _ r h => by simp [set_merge.l0] at h, fun _ _ _ _ _ _ _ r h => by simp [set_merge.j2] at h, fun _ _ _ _ _ _ _ _ r h => by simp [set_merge.j3] at h, fun _ _ _ _ _ _ _ _ r h => by simp [set_merge.j4] at h⟩
  | k + 1 => by
    obtain ⟨ih0, ih1, ih2, ih3, ih4⟩ := set_merge.mono_l k
    refine ⟨?_, ?_, ?_, ?_, ?_⟩
    · intro y0 y1 y2 y3 y4 y5
      unfold set_merge.j0
      repeat' first
      | (with_reducible exact ih0 _ _ _ _ _ _)
      | (with_reducible exact ih1 _ _ _ _ _ _)
      | (with_reducible exact ih2 _ _ _ _ _ _ _)
      | (with_reducible exact ih3 _ _ _ _ _ _ _ _)
      | (with_reducible exact ih4 _ _ _ _ _ _ _ _)
      | (with_reducible exact set_May.mono _ _)
      | (with_reducible exact LeO.refl _)
      | (with_reducible exact LeO.none _)
      | (with_reducible refine LeO.ite ?_ ?_)
      | (with_reducible refine LeO.bind ?_ (fun _ => ?_))
      | exact ih0 _ _ _ _ _ _
      | exact ih1 _ _ _ _ _ _
      | exact ih2 _ _ _ _ _ _ _
      | exact ih3 _ _ _ _ _ _ _ _
      | exact ih4 _ _ _ _ _ _ _ _
      | exact set_May.mono _ _
      | exact LeO.none _
      | refine LeO.ite ?_ ?_
      | refine LeO.bind ?_ (fun _ => ?_)
    · intro y0 y1 y2 y3 y4 y5
      unfold set_merge.l0
      repeat' first
      | (with_reducible exact ih0 _ _ _ _ _ _)
      | (with_reducible exact ih1 _ _ _ _ _ _)
      | (with_reducible exact ih2 _ _ _ _ _ _ _)
      | (with_reducible exact ih3 _ _ _ _ _ _ _ _)
      | (with_reducible exact ih4 _ _ _ _ _ _ _ _)
      | (with_reducible exact set_May.mono _ _)
      | (with_reducible exact LeO.refl _)
      | (with_reducible exact LeO.none _)
      | (with_reducible refine LeO.ite ?_ ?_)
      | (with_reducible refine LeO.bind ?_ (fun _ => ?_))
      | exact ih0 _ _ _ _ _ _
      | exact ih1 _ _ _ _ _ _
      | exact ih2 _ _ _ _ _ _ _
      | exact ih3 _ _ _ _ _ _ _ _
      | exact ih4 _ _ _ _ _ _ _ _
      | exact set_May.mono _ _
      | exact LeO.none _
      | refine LeO.ite ?_ ?_
      | refine LeO.bind ?_ (fun _ => ?_)
    · intro y0 y1 y2 y3 y4 y5 y6
      unfold set_merge.j2
      repeat' first
      | (with_reducible exact ih0 _ _ _ _ _ _)
      | (with_reducible exact ih1 _ _ _ _ _ _)
      | (with_reducible exact ih2 _ _ _ _ _ _ _)
      | (with_reducible exact ih3 _ _ _ _ _ _ _ _)
      | (with_reducible exact ih4 _ _ _ _ _ _ _ _)
      | (with_reducible exact set_May.mono _ _)
      | (with_reducible exact LeO.refl _)
      | (with_reducible exact LeO.none _)
      | (with_reducible refine LeO.ite ?_ ?_)
      | (with_reducible refine LeO.bind ?_ (fun _ => ?_))
      | exact ih0 _ _ _ _ _ _
      | exact ih1 _ _ _ _ _ _
      | exact ih2 _ _ _ _ _ _ _
      | exact ih3 _ _ _ _ _ _ _ _
      | exact ih4 _ _ _ _ _ _ _ _
      | exact set_May.mono _ _
      | exact LeO.none _
      | refine LeO.ite ?_ ?_
      | refine LeO.bind ?_ (fun _ => ?_)
    · intro y0 y1 y2 y3 y4 y5 y6 y7
      unfold set_merge.j3
      repeat' first
      | (with_reducible exact ih0 _ _ _ _ _ _)
      | (with_reducible exact ih1 _ _ _ _ _ _)
      | (with_reducible exact ih2 _ _ _ _ _ _ _)
      | (with_reducible exact ih3 _ _ _ _ _ _ _ _)
      | (with_reducible exact ih4 _ _ _ _ _ _ _ _)
      | (with_reducible exact set_May.mono _ _)
      | (with_reducible exact LeO.refl _)
      | (with_reducible exact LeO.none _)
      | (with_reducible refine LeO.ite ?_ ?_)
      | (with_reducible refine LeO.bind ?_ (fun _ => ?_))
      | exact ih0 _ _ _ _ _ _
      | exact ih1 _ _ _ _ _ _
      | exact ih2 _ _ _ _ _ _ _
      | exact ih3 _ _ _ _ _ _ _ _
      | exact ih4 _ _ _ _ _ _ _ _
      | exact set_May.mono _ _
      | exact LeO.none _
      | refine LeO.ite ?_ ?_
      | refine LeO.bind ?_ (fun _ => ?_)
    · intro y0 y1 y2 y3 y4 y5 y6 y7
      unfold set_merge.j4
      repeat' first
      | (with_reducible exact ih0 _ _ _ _ _ _)
      | (with_reducible exact ih1 _ _ _ _ _ _)
      | (with_reducible exact ih2 _ _ _ _ _ _ _)
      | (with_reducible exact ih3 _ _ _ _ _ _ _ _)
      | (with_reducible exact ih4 _ _ _ _ _ _ _ _)
      | (with_reducible exact set_May.mono _ _)
      | (with_reducible exact LeO.refl _)
      | (with_reducible exact LeO.none _)
      | (with_reducible refine LeO.ite ?_ ?_)
      | (with_reducible refine LeO.bind ?_ (fun _ => ?_))
      | exact ih0 _ _ _ _ _ _
      | exact ih1 _ _ _ _ _ _
      | exact ih2 _ _ _ _ _ _ _
      | exact ih3 _ _ _ _ _ _ _ _
      | exact ih4 _ _ _ _ _ _ _ _
      | exact set_May.mono _ _
      | exact LeO.none _
      | refine LeO.ite ?_ ?_
      | refine LeO.bind ?_ (fun _ => ?_)
theorem set_merge.mono : ∀ a0 a1 a2 a3 a4 k, LeO (set_merge.f k a0 a1 a2 a3 a4) (set_merge.f (k + 1) a0 a1 a2 a3 a4) := by
  intro a0 a1 a2 a3 a4 k
  obtain ⟨ih0, ih1, ih2, ih3, ih4⟩ := set_merge.mono_l k
  unfold set_merge.f
  repeat' first
      | (with_reducible exact ih0 _ _ _ _ _ _)
      | (with_reducible exact ih1 _ _ _ _ _ _)
      | (with_reducible exact ih2 _ _ _ _ _ _ _)
      | (with_reducible exact ih3 _ _ _ _ _ _ _ _)
      | (with_reducible exact ih4 _ _ _ _ _ _ _ _)
      | (with_reducible exact set_May.mono _ _)
      | (with_reducible exact LeO.refl _)
      | (with_reducible exact LeO.none _)
      | (with_reducible refine LeO.ite ?_ ?_)
      | (with_reducible refine LeO.bind ?_ (fun _ => ?_))
      | exact ih0 _ _ _ _ _ _
      | exact ih1 _ _ _ _ _ _
      | exact ih2 _ _ _ _ _ _ _
      | exact ih3 _ _ _ _ _ _ _ _
      | exact ih4 _ _ _ _ _ _ _ _
      | exact set_May.mono _ _
      | exact LeO.none _
      | refine LeO.ite ?_ ?_
      | refine LeO.bind ?_ (fun _ => ?_)
set_option maxHeartbeats 8000000 in
set_option maxRecDepth 100000 in
theorem set_merge.calls (k : Nat) (P0_ : Nat → Prop) (A0 : Option Addr) (c0 : Nat) (l0 : List Int) (P1_ : Nat → Prop) (A1 : Option Addr) (c1 : Nat) (l1 : List Int) (a2 : Bool) (a3 : Bool) (a4 : Bool) (r : List Int) (w : World) (hs0 : Kd.V (Kd.int .i64) 3 w w.heap.size (fun k_ => P0_ k_) (.slice A0 l0.length c0) l0) (hs1 : Kd.V (Kd.int .i64) 3 w w.heap.size (fun k_ => P1_ k_) (.slice A1 l1.length c1) l1) (h : set_merge.f k l0 l1 a2 a3 a4 = some r) :
    Calls Tryz.prog 98 #[.slice A0 l0.length c0, .slice A1 l1.length c1, .bool a2, .bool a3, .bool a4] w fun e w' => ∃ v0_ : Value, e = .returned (v0_) ∧ Kd.R (Kd.int .i64) 3 w' w.heap.size (fun k_ => (w.heap.size ≤ k_)) v0_ r ∧ Below w.heap.size w w' := by
  have HO0 := Aside0.mk (show Kd.V (Kd.int .i64) 3 w w.heap.size (fun k_ => ((P0_ k_ ∨ P1_ k_) ∨ w.heap.size ≤ k_)) (.slice A0 l0.length c0) l0 from Kd.V_mono hs0 (fun k_ hk => .inl (.inl hk)))
  have HO1 := Aside0.mk (show Kd.V (Kd.int .i64) 3 w w.heap.size (fun k_ => ((P0_ k_ ∨ P1_ k_) ∨ w.heap.size ≤ k_)) (.slice A1 l1.length c1) l1 from Kd.V_mono hs1 (fun k_ hk => .inl (.inr hk)))
  have HB := Aside0.mk (Below.refl w.heap.size w)
  have H : ((set_May.f k l0).bind fun t119 => (if t119 = true then ((set_May.f k l1).bind fun t120 => (set_merge.j0 k l0 l1 a2 a3 a4 (!t120))) else (set_merge.j0 k l0 l1 a2 a3 a4 true))) = some r := h
  clear h
  have HC6 := Aside0.mk H
  clear H
  go_enter Tryz.func98, Tryz.ntmps98
  go_upto_region 1 with (fail)
  repeat (go_quiet (fail); go_upto_region 1 with (fail))
  go_cut [21] (fun v21 wc => ∃ (kq : Nat) (x21_5 : Bool), v21 = .bool x21_5 ∧ Aside0 (set_merge.j0 kq l0 l1 a2 a3 a4 x21_5 = some r) ∧ Aside0 (kq ≤ k) ∧ Aside0 (Kd.V (Kd.int .i64) 3 wc w.heap.size (fun k_ => ((P0_ k_ ∨ P1_ k_) ∨ w.heap.size ≤ k_)) (.slice A0 l0.length c0) l0) ∧ Aside0 (Kd.V (Kd.int .i64) 3 wc w.heap.size (fun k_ => ((P0_ k_ ∨ P1_ k_) ∨ w.heap.size ≤ k_)) (.slice A1 l1.length c1) l1) ∧ Aside0 (Below w.heap.size w wc))
  case first =>
    have H := HC6.out
    clear HC6
    replace H := Option.bind_eq_some_iff.mp H
    obtain ⟨t119, A70, H⟩ := H
    replace H : (if t119 = true then ((set_May.f k l1).bind fun t120 => (set_merge.j0 k l0 l1 a2 a3 a4 (!t120))) else (set_merge.j0 k l0 l1 a2 a3 a4 true)) = some r := H
    have A7 := Aside0.mk A70
    clear A70
    by_cases c8 : t119 = true
    · subst c8
      have H1 : ((set_May.f k l1).bind fun t120 => (set_merge.j0 k l0 l1 a2 a3 a4 (!t120))) = some r := by rw [if_pos rfl] at H; exact H
      clear H
      have H := H1
      clear H1
      replace H := Option.bind_eq_some_iff.mp H
      obtain ⟨t120, A90, H⟩ := H
      replace H : (set_merge.j0 k l0 l1 a2 a3 a4 (!t120)) = some r := H
      have A9 := Aside0.mk A90
      clear A90
      have H' := Aside0.mk H
      clear H
      go_wp2_with (first | (go_at_call 125; (with_reducible refine (set_May.calls k _ _ l0 true _ ?side1 ?side2 A7.out).mono ?_); (case side1 => repeat (first | exact (Kd.V_reads' HO0.out).2.2 | (with_reducible refine Kd.C_alloc ?_ _) | (with_reducible refine Kd.C_drewN ?_ _) | (with_reducible refine Kd.C_drew ?_))); (case side2 => exact (Kd.V_reads' HO0.out).2.1); rintro e w' ⟨rfl, ⟨nd, rfl⟩⟩; (try first | exact ⟨rfl, _, World.drewN_drewN _ _ _⟩ | exact ⟨rfl, _, Eq.trans (World.drewN_drewN _ _ _) (congrArg (World.drewN _) (Nat.add_assoc _ _ _))⟩)) | (go_at_call 125; (with_reducible refine (set_May.calls k _ _ l1 t120 _ ?side1 ?side2 A9.out).mono ?_); (case side1 => repeat (first | exact (Kd.V_reads' HO1.out).2.2 | (with_reducible refine Kd.C_alloc ?_ _) | (with_reducible refine Kd.C_drewN ?_ _) | (with_reducible refine Kd.C_drew ?_))); (case side2 => exact (Kd.V_reads' HO1.out).2.1); rintro e w' ⟨rfl, ⟨nd, rfl⟩⟩; (try first | exact ⟨rfl, _, World.drewN_drewN _ _ _⟩ | exact ⟨rfl, _, Eq.trans (World.drewN_drewN _ _ _) (congrArg (World.drewN _) (Nat.add_assoc _ _ _))⟩)))
      repeat (go_quiet (first | (go_at_call 125; (with_reducible refine (set_May.calls k _ _ l0 true _ ?side1 ?side2 A7.out).mono ?_); (case side1 => repeat (first | exact (Kd.V_reads' HO0.out).2.2 | (with_reducible refine Kd.C_alloc ?_ _) | (with_reducible refine Kd.C_drewN ?_ _) | (with_reducible refine Kd.C_drew ?_))); (case side2 => exact (Kd.V_reads' HO0.out).2.1); rintro e w' ⟨rfl, ⟨nd, rfl⟩⟩; (try first | exact ⟨rfl, _, World.drewN_drewN _ _ _⟩ | exact ⟨rfl, _, Eq.trans (World.drewN_drewN _ _ _) (congrArg (World.drewN _) (Nat.add_assoc _ _ _))⟩)) | (go_at_call 125; (with_reducible refine (set_May.calls k _ _ l1 t120 _ ?side1 ?side2 A9.out).mono ?_); (case side1 => repeat (first | exact (Kd.V_reads' HO1.out).2.2 | (with_reducible refine Kd.C_alloc ?_ _) | (with_reducible refine Kd.C_drewN ?_ _) | (with_reducible refine Kd.C_drew ?_))); (case side2 => exact (Kd.V_reads' HO1.out).2.1); rintro e w' ⟨rfl, ⟨nd, rfl⟩⟩; (try first | exact ⟨rfl, _, World.drewN_drewN _ _ _⟩ | exact ⟨rfl, _, Eq.trans (World.drewN_drewN _ _ _) (congrArg (World.drewN _) (Nat.add_assoc _ _ _))⟩))); try go_wp2_with (first | (go_at_call 125; (with_reducible refine (set_May.calls k _ _ l0 true _ ?side1 ?side2 A7.out).mono ?_); (case side1 => repeat (first | exact (Kd.V_reads' HO0.out).2.2 | (with_reducible refine Kd.C_alloc ?_ _) | (with_reducible refine Kd.C_drewN ?_ _) | (with_reducible refine Kd.C_drew ?_))); (case side2 => exact (Kd.V_reads' HO0.out).2.1); rintro e w' ⟨rfl, ⟨nd, rfl⟩⟩; (try first | exact ⟨rfl, _, World.drewN_drewN _ _ _⟩ | exact ⟨rfl, _, Eq.trans (World.drewN_drewN _ _ _) (congrArg (World.drewN _) (Nat.add_assoc _ _ _))⟩)) | (go_at_call 125; (with_reducible refine (set_May.calls k _ _ l1 t120 _ ?side1 ?side2 A9.out).mono ?_); (case side1 => repeat (first | exact (Kd.V_reads' HO1.out).2.2 | (with_reducible refine Kd.C_alloc ?_ _) | (with_reducible refine Kd.C_drewN ?_ _) | (with_reducible refine Kd.C_drew ?_))); (case side2 => exact (Kd.V_reads' HO1.out).2.1); rintro e w' ⟨rfl, ⟨nd, rfl⟩⟩; (try first | exact ⟨rfl, _, World.drewN_drewN _ _ _⟩ | exact ⟨rfl, _, Eq.trans (World.drewN_drewN _ _ _) (congrArg (World.drewN _) (Nat.add_assoc _ _ _))⟩))))
      go_meet
      case rel => exact ⟨_, (!t120), (by first | rfl | (simp; done) | (simp [*]; done)), H', ⟨by first | omega | exact Nat.le_refl _⟩, ⟨by (with_reducible repeat (first | apply Kd.V_alloc | apply Kd.V_drewN | apply Kd.V_drew)); exact HO0.out⟩, ⟨by (with_reducible repeat (first | apply Kd.V_alloc | apply Kd.V_drewN | apply Kd.V_drew)); exact HO1.out⟩, ⟨by repeat (first | (with_reducible first | exact HB.out | apply below_alloc | apply pw_below_drewN | apply below_drew1) | exact HB.out)⟩⟩
    · replace c8 := Bool.eq_false_iff.mpr c8
      subst c8
      have H1 : (set_merge.j0 k l0 l1 a2 a3 a4 true) = some r := by rw [if_neg (show ¬ (false = true) by decide)] at H; exact H
      clear H
      have H := H1
      clear H1
      have H' := Aside0.mk H
      clear H
      go_wp2_with (first | (go_at_call 125; (with_reducible refine (set_May.calls k _ _ l0 false _ ?side1 ?side2 A7.out).mono ?_); (case side1 => repeat (first | exact (Kd.V_reads' HO0.out).2.2 | (with_reducible refine Kd.C_alloc ?_ _) | (with_reducible refine Kd.C_drewN ?_ _) | (with_reducible refine Kd.C_drew ?_))); (case side2 => exact (Kd.V_reads' HO0.out).2.1); rintro e w' ⟨rfl, ⟨nd, rfl⟩⟩; (try first | exact ⟨rfl, _, World.drewN_drewN _ _ _⟩ | exact ⟨rfl, _, Eq.trans (World.drewN_drewN _ _ _) (congrArg (World.drewN _) (Nat.add_assoc _ _ _))⟩)))
      repeat (go_quiet (first | (go_at_call 125; (with_reducible refine (set_May.calls k _ _ l0 false _ ?side1 ?side2 A7.out).mono ?_); (case side1 => repeat (first | exact (Kd.V_reads' HO0.out).2.2 | (with_reducible refine Kd.C_alloc ?_ _) | (with_reducible refine Kd.C_drewN ?_ _) | (with_reducible refine Kd.C_drew ?_))); (case side2 => exact (Kd.V_reads' HO0.out).2.1); rintro e w' ⟨rfl, ⟨nd, rfl⟩⟩; (try first | exact ⟨rfl, _, World.drewN_drewN _ _ _⟩ | exact ⟨rfl, _, Eq.trans (World.drewN_drewN _ _ _) (congrArg (World.drewN _) (Nat.add_assoc _ _ _))⟩))); try go_wp2_with (first | (go_at_call 125; (with_reducible refine (set_May.calls k _ _ l0 false _ ?side1 ?side2 A7.out).mono ?_); (case side1 => repeat (first | exact (Kd.V_reads' HO0.out).2.2 | (with_reducible refine Kd.C_alloc ?_ _) | (with_reducible refine Kd.C_drewN ?_ _) | (with_reducible refine Kd.C_drew ?_))); (case side2 => exact (Kd.V_reads' HO0.out).2.1); rintro e w' ⟨rfl, ⟨nd, rfl⟩⟩; (try first | exact ⟨rfl, _, World.drewN_drewN _ _ _⟩ | exact ⟨rfl, _, Eq.trans (World.drewN_drewN _ _ _) (congrArg (World.drewN _) (Nat.add_assoc _ _ _))⟩))))
      go_meet
      case rel => exact ⟨_, (true), (by first | rfl | (simp; done) | (simp [*]; done)), H', ⟨by first | omega | exact Nat.le_refl _⟩, ⟨by (with_reducible repeat (first | apply Kd.V_alloc | apply Kd.V_drewN | apply Kd.V_drew)); exact HO0.out⟩, ⟨by (with_reducible repeat (first | apply Kd.V_alloc | apply Kd.V_drewN | apply Kd.V_drew)); exact HO1.out⟩, ⟨by repeat (first | (with_reducible first | exact HB.out | apply below_alloc | apply pw_below_drewN | apply below_drew1) | exact HB.out)⟩⟩
  case rest =>
    clear HC6
    try clear c1
    try clear p2
    try clear c8
    try clear c9
    obtain ⟨kq, x21_5, rfl, HA, HJ5, HO_0, HO_1, HB⟩ := hcut
    cases kq with
    | zero => exact absurd HA.out (by simp [set_merge.j0])
    | succ kj5 =>
      have H := HA.out
      clear HA
      simp only [set_merge.j0] at H
      by_cases c10 : x21_5 = true
      · subst c10
        have H1 : (some ([] : List Int)) = some r := by rw [if_pos rfl] at H; exact H
        clear H
        have H := H1
        clear H1
        obtain rfl := Option.some.inj H
        go_wp2
        repeat (go_quiet (fail); try go_wp2)
        go_ret
        exact ⟨_, by first | rfl | (simp [errW_none, errW_some] <;> rfl) | (simp [*, errW_none, errW_some] <;> rfl), by first | exact Kd.R_nil _ _ _ _ _ | exact Kd.N_nil _ _ _ _ _ | exact Kd.V_nil _ _ _ _ _ | exact Kd.Q_nil _ _ _ _ _ | exact Kd.S_nil _ _ _ _ _, by repeat (first | (with_reducible first | exact HB.out | apply below_alloc | apply pw_below_drewN | apply below_drew1) | exact HB.out)⟩
      · replace c10 := Bool.eq_false_iff.mpr c10
        subst c10
        have H1 : (set_merge.l0 kj5 l0 l1 a2 a3 a4 ([] : List Int)) = some r := by rw [if_neg (show ¬ (false = true) by decide)] at H; exact H
        clear H
        have H := H1
        clear H1
        have H' := Aside0.mk H
        clear H
        go_wp2
        repeat (go_quiet (fail); try go_wp2)
        go_loopg [0, 1, 11] kj5 (fun kq v0 v1 v11 w' => ∃ (x0_2 : List Int) (x1_2 : List Int) (x11_2 : List Int), Aside0 (set_merge.l0 kq x0_2 x1_2 a2 a3 a4 x11_2 = some r) ∧ Aside0 (kq ≤ kj5) ∧ Aside0 (Kd.V (Kd.int .i64) 3 w' w.heap.size (fun k_ => ((P0_ k_ ∨ P1_ k_) ∨ w.heap.size ≤ k_) ∧ some k_ ≠ (v11 : Value).ownBlock) v0 x0_2) ∧ Aside0 (Kd.V (Kd.int .i64) 3 w' w.heap.size (fun k_ => ((P0_ k_ ∨ P1_ k_) ∨ w.heap.size ≤ k_) ∧ some k_ ≠ (v11 : Value).ownBlock) v1 x1_2) ∧ Aside0 (Kd.R (Kd.int .i64) 3 w' w.heap.size (fun k_ => (w.heap.size ≤ k_)) v11 x11_2) ∧ Aside0 (Below w.heap.size w w'))
        case atStart => exact ⟨(l0), (l1), (([] : List Int)), H', ⟨Nat.le_refl _⟩, ⟨by (with_reducible repeat (first | apply Kd.V_alloc | apply Kd.V_drewN | apply Kd.V_drew)); exact Kd.V_mono HO_0.out (fun _ hk => ⟨hk, (by simp [Value.ownBlock])⟩)⟩, ⟨by (with_reducible repeat (first | apply Kd.V_alloc | apply Kd.V_drewN | apply Kd.V_drew)); exact Kd.V_mono HO_1.out (fun _ hk => ⟨hk, (by simp [Value.ownBlock])⟩)⟩, ⟨by first | exact Kd.R_nil _ _ _ _ _ | exact Kd.N_nil _ _ _ _ _ | exact Kd.V_nil _ _ _ _ _ | exact Kd.Q_nil _ _ _ _ _ | exact Kd.S_nil _ _ _ _ _⟩, ⟨by repeat (first | (with_reducible first | exact HB.out | apply below_alloc | apply pw_below_drewN | apply below_drew1) | exact HB.out)⟩⟩
        case round =>
          clear H'
          try clear c1
          try clear p2
          try clear c8
          try clear c9
          try clear c10
          try clear p2
          obtain ⟨x0_2, x1_2, x11_2, HA, HK2, HO_0, HO_1, HO_11, HB⟩ := hrel
          cases gk with
          | zero => exact absurd HA.out (by simp [set_merge.l0])
          | succ k2 =>
            have H := HA.out
            clear HA
            simp only [set_merge.l0] at H
            have HC11 := Aside0.mk H
            clear H
            go_upto_region 4 with (fail)
            repeat (go_quiet (fail); go_upto_region 4 with (fail))
            go_cut [29] (fun v29 wc => ∃ (kq : Nat) (x29_10 : Bool), v29 = .bool x29_10 ∧ Aside0 (set_merge.j2 kq x0_2 x1_2 a2 a3 a4 x11_2 x29_10 = some r) ∧ Aside0 (kq ≤ k2) ∧ Aside0 (Kd.V (Kd.int .i64) 3 wc w.heap.size (fun k_ => ((P0_ k_ ∨ P1_ k_) ∨ w.heap.size ≤ k_) ∧ some k_ ≠ (u11 : Value).ownBlock) u0 x0_2) ∧ Aside0 (Kd.V (Kd.int .i64) 3 wc w.heap.size (fun k_ => ((P0_ k_ ∨ P1_ k_) ∨ w.heap.size ≤ k_) ∧ some k_ ≠ (u11 : Value).ownBlock) u1 x1_2) ∧ Aside0 (Kd.R (Kd.int .i64) 3 wc w.heap.size (fun k_ => (w.heap.size ≤ k_)) u11 x11_2) ∧ Aside0 (Below w.heap.size w wc))
            case first =>
              have H := HC11.out
              clear HC11
              by_cases c12 : (x0_2.length : Int) > 0
              · rw [if_pos c12] at H
                have c12b0 : decide (0 < (x0_2.length : Int)) = true := decide_eq_true c12
                have c12b1 : decide (0 < x0_2.length) = true := decide_eq_true (by omega)
                clear c12
                (first | rw [c12b0] | (simp only [i64_w, i32_w]; rw [c12b0]) | skip)
                have H' := Aside0.mk H
                clear H
                obtain ⟨Ao13, co13, eo13⟩ := Kd.V_slice HO_0.out
                subst eo13
                go_wp2
                repeat (go_quiet (fail); try go_wp2)
                go_meet
                case rel => exact ⟨_, (true), (by first | rfl | (simp; done) | (simp [*]; done)), H', ⟨by have := HJ5.out; have := HK2.out; first | omega | exact Nat.le_refl _⟩, ⟨by (with_reducible repeat (first | apply Kd.V_alloc | apply Kd.V_drewN | apply Kd.V_drew)); exact HO_0.out⟩, ⟨by (with_reducible repeat (first | apply Kd.V_alloc | apply Kd.V_drewN | apply Kd.V_drew)); exact HO_1.out⟩, ⟨by (with_reducible repeat (first | apply Kd.R_alloc | apply Kd.R_drewN | apply Kd.R_drew)); exact HO_11.out⟩, ⟨by repeat (first | (with_reducible first | exact HB.out | apply below_alloc | apply pw_below_drewN | apply below_drew1) | exact HB.out)⟩⟩
              · rw [if_neg c12] at H
                have c12b0 : decide (0 < (x0_2.length : Int)) = false := decide_eq_false c12
                have c12b1 : decide (0 < x0_2.length) = false := decide_eq_false (by omega)
                clear c12
                (first | rw [c12b0] | (simp only [i64_w, i32_w]; rw [c12b0]) | skip)
                have H' := Aside0.mk H
                clear H
                obtain ⟨Ao14, co14, eo14⟩ := Kd.V_slice HO_0.out
                subst eo14
                obtain ⟨Ao15, co15, eo15⟩ := Kd.V_slice HO_1.out
                subst eo15
                go_wp2
                repeat (go_quiet (fail); try go_wp2)
                go_meet
                case rel => exact ⟨_, (decide ((x1_2.length : Int) > 0)), (by first | rfl | (simp; done) | (simp [*]; done)), H', ⟨by have := HJ5.out; have := HK2.out; first | omega | exact Nat.le_refl _⟩, ⟨by (with_reducible repeat (first | apply Kd.V_alloc | apply Kd.V_drewN | apply Kd.V_drew)); exact HO_0.out⟩, ⟨by (with_reducible repeat (first | apply Kd.V_alloc | apply Kd.V_drewN | apply Kd.V_drew)); exact HO_1.out⟩, ⟨by (with_reducible repeat (first | apply Kd.R_alloc | apply Kd.R_drewN | apply Kd.R_drew)); exact HO_11.out⟩, ⟨by repeat (first | (with_reducible first | exact HB.out | apply below_alloc | apply pw_below_drewN | apply below_drew1) | exact HB.out)⟩⟩
            case rest =>
              clear HC11
              try clear c1
              try clear p2
              try clear c8
              try clear c9
              try clear c10
              try clear c12
              try clear c12b0
              try clear c12b1
              try clear p2
              obtain ⟨kq, x29_10, rfl, HA, HJ10, HO_0, HO_1, HO_11, HB⟩ := hcut
              cases kq with
              | zero => exact absurd HA.out (by simp [set_merge.j2])
              | succ kj10 =>
                have H := HA.out
                clear HA
                simp only [set_merge.j2] at H
                by_cases c16 : x29_10 = true
                · subst c16
                  have H1 : (if (x1_2.length : Int) = 0 then (set_merge.j3 kj10 x0_2 x1_2 a2 a3 a4 x11_2 a4 true) else (if (x0_2.length : Int) > 0 then (if 0 < (x0_2.length : Int) then (if 0 < (x1_2.length : Int) then (set_merge.j3 kj10 x0_2 x1_2 a2 a3 a4 x11_2 a4 (decide ((rd x0_2 0) < (rd x1_2 0)))) else (none)) else (none)) else (set_merge.j3 kj10 x0_2 x1_2 a2 a3 a4 x11_2 a4 false))) = some r := by rw [if_pos rfl] at H; exact H
                  clear H
                  have H := H1
                  clear H1
                  have HC17 := Aside0.mk H
                  clear H
                  go_upto_region 7 with (fail)
                  repeat (go_quiet (fail); go_upto_region 7 with (fail))
                  go_cut [38] (fun v38 wc => ∃ (kq : Nat) (x38_16 : Bool), v38 = .bool x38_16 ∧ Aside0 (set_merge.j3 kq x0_2 x1_2 a2 a3 a4 x11_2 a4 x38_16 = some r) ∧ Aside0 (kq ≤ kj10) ∧ Aside0 (Kd.V (Kd.int .i64) 3 wc w.heap.size (fun k_ => ((P0_ k_ ∨ P1_ k_) ∨ w.heap.size ≤ k_) ∧ some k_ ≠ (u11 : Value).ownBlock) u0 x0_2) ∧ Aside0 (Kd.V (Kd.int .i64) 3 wc w.heap.size (fun k_ => ((P0_ k_ ∨ P1_ k_) ∨ w.heap.size ≤ k_) ∧ some k_ ≠ (u11 : Value).ownBlock) u1 x1_2) ∧ Aside0 (Kd.R (Kd.int .i64) 3 wc w.heap.size (fun k_ => (w.heap.size ≤ k_)) u11 x11_2) ∧ Aside0 (Below w.heap.size w wc))
                  case first =>
                    have H := HC17.out
                    clear HC17
                    by_cases c18 : (x1_2.length : Int) = 0
                    · rw [if_pos c18] at H
                      have c18b0 : ((x1_2.length : Int) == 0) = true := beq_iff_eq.mpr c18
                      have c18b1 : ((x1_2.length : Int) != 0) = false := bne_eq_false_iff_eq.mpr c18
                      clear c18
                      (first | rw [c18b0] | (simp only [i64_w, i32_w]; rw [c18b0]) | skip)
                      have H' := Aside0.mk H
                      clear H
                      obtain ⟨Ao19, co19, eo19⟩ := Kd.V_slice HO_1.out
                      subst eo19
                      go_wp2
                      repeat (go_quiet (fail); try go_wp2)
                      go_meet
                      case rel => exact ⟨_, (true), (by first | rfl | (simp; done) | (simp [*]; done)), H', ⟨by have := HJ5.out; have := HK2.out; have := HJ10.out; first | omega | exact Nat.le_refl _⟩, ⟨by (with_reducible repeat (first | apply Kd.V_alloc | apply Kd.V_drewN | apply Kd.V_drew)); exact HO_0.out⟩, ⟨by (with_reducible repeat (first | apply Kd.V_alloc | apply Kd.V_drewN | apply Kd.V_drew)); exact HO_1.out⟩, ⟨by (with_reducible repeat (first | apply Kd.R_alloc | apply Kd.R_drewN | apply Kd.R_drew)); exact HO_11.out⟩, ⟨by repeat (first | (with_reducible first | exact HB.out | apply below_alloc | apply pw_below_drewN | apply below_drew1) | exact HB.out)⟩⟩
                    · rw [if_neg c18] at H
                      have c18b0 : ((x1_2.length : Int) == 0) = false := beq_eq_false_iff_ne.mpr c18
                      have c18b1 : ((x1_2.length : Int) != 0) = true := bne_iff_ne.mpr c18
                      have c18b2 : ¬ (x1_2 = []) := fun h_ => c18 (by rw [h_]; rfl)
                      (first | rw [c18b0] | (simp only [i64_w, i32_w]; rw [c18b0]) | skip)
                      by_cases c20 : (x0_2.length : Int) > 0
                      · rw [if_pos c20] at H
                        have c20b0 : decide (0 < (x0_2.length : Int)) = true := decide_eq_true c20
                        have c20b1 : decide (0 < x0_2.length) = true := decide_eq_true (by omega)
                        clear c20
                        by_cases c21 : 0 < (x0_2.length : Int)
                        · rw [if_pos c21] at H
                          have c21b0 : decide (0 < (x0_2.length : Int)) = true := decide_eq_true c21
                          have c21b1 : decide (0 < x0_2.length) = true := decide_eq_true (by omega)
                          clear c21
                          by_cases c22 : 0 < (x1_2.length : Int)
                          · rw [if_pos c22] at H
                            have c22b0 : decide (0 < (x1_2.length : Int)) = true := decide_eq_true c22
                            have c22b1 : decide (0 < x1_2.length) = true := decide_eq_true (by omega)
                            clear c22
                            have H' := Aside0.mk H
                            clear H
                            obtain ⟨Ao23, co23, eo23⟩ := Kd.V_slice HO_1.out
                            subst eo23
                            obtain ⟨Ao24, co24, eo24⟩ := Kd.V_slice HO_0.out
                            subst eo24
                            have p121 : 0 ≤ (0 : Int) := (by omega)
                            have q121 : 0 < (x0_2.length : Int) := of_decide_eq_true (by first | (with_reducible assumption) | assumption)
                            obtain ⟨ad121, e121, hx121_0⟩ := Kd.at_int (Kd.V_reads' HO_0.out).2.2 0 p121 q121
                            cases e121
                            have qi121 : (0 < x0_2.length) = True := eq_true (by omega)
                            (try rw [show ((0 : Int)).toNat = 0 from rfl] at hx121_0)
                            (try rw [Addr.add_zero'] at hx121_0)
                            replace p121 := eq_true p121
                            replace q121 := eq_true q121
                            have p122 : 0 ≤ (0 : Int) := (by omega)
                            have q122 : 0 < (x1_2.length : Int) := of_decide_eq_true (by first | (with_reducible assumption) | assumption)
                            obtain ⟨ad122, e122, hx122_0⟩ := Kd.at_int (Kd.V_reads' HO_1.out).2.2 0 p122 q122
                            cases e122
                            have qi122 : (0 < x1_2.length) = True := eq_true (by omega)
                            (try rw [show ((0 : Int)).toNat = 0 from rfl] at hx122_0)
                            (try rw [Addr.add_zero'] at hx122_0)
                            replace p122 := eq_true p122
                            replace q122 := eq_true q122
                            go_wp2
                            repeat (go_quiet (fail); try go_wp2)
                            go_meet
                            case rel => exact ⟨_, (decide ((rd x0_2 0) < (rd x1_2 0))), (by first | rfl | (simp; done) | (simp [*]; done)), H', ⟨by have := HJ5.out; have := HK2.out; have := HJ10.out; first | omega | exact Nat.le_refl _⟩, ⟨by (with_reducible repeat (first | apply Kd.V_alloc | apply Kd.V_drewN | apply Kd.V_drew)); exact HO_0.out⟩, ⟨by (with_reducible repeat (first | apply Kd.V_alloc | apply Kd.V_drewN | apply Kd.V_drew)); exact HO_1.out⟩, ⟨by (with_reducible repeat (first | apply Kd.R_alloc | apply Kd.R_drewN | apply Kd.R_drew)); exact HO_11.out⟩, ⟨by repeat (first | (with_reducible first | exact HB.out | apply below_alloc | apply pw_below_drewN | apply below_drew1) | exact HB.out)⟩⟩
                          · rw [if_neg c22] at H
                            exact absurd H (by simp)
                        · rw [if_neg c21] at H
                          exact absurd H (by simp)
                      · rw [if_neg c20] at H
                        have c20b0 : decide (0 < (x0_2.length : Int)) = false := decide_eq_false c20
                        have c20b1 : decide (0 < x0_2.length) = false := decide_eq_false (by omega)
                        clear c20
                        have H' := Aside0.mk H
                        clear H
                        obtain ⟨Ao25, co25, eo25⟩ := Kd.V_slice HO_1.out
                        subst eo25
                        obtain ⟨Ao26, co26, eo26⟩ := Kd.V_slice HO_0.out
                        subst eo26
                        go_wp2
                        repeat (go_quiet (fail); try go_wp2)
                        go_meet
                        case rel => exact ⟨_, (false), (by first | rfl | (simp; done) | (simp [*]; done)), H', ⟨by have := HJ5.out; have := HK2.out; have := HJ10.out; first | omega | exact Nat.le_refl _⟩, ⟨by (with_reducible repeat (first | apply Kd.V_alloc | apply Kd.V_drewN | apply Kd.V_drew)); exact HO_0.out⟩, ⟨by (with_reducible repeat (first | apply Kd.V_alloc | apply Kd.V_drewN | apply Kd.V_drew)); exact HO_1.out⟩, ⟨by (with_reducible repeat (first | apply Kd.R_alloc | apply Kd.R_drewN | apply Kd.R_drew)); exact HO_11.out⟩, ⟨by repeat (first | (with_reducible first | exact HB.out | apply below_alloc | apply pw_below_drewN | apply below_drew1) | exact HB.out)⟩⟩
                  case rest =>
                    clear HC17
                    try clear c1
                    try clear p1
                    try clear q1
                    try clear hx1
                    try clear qi1
                    try clear c2
                    try clear p2
                    try clear c8
                    try clear c9
                    try clear c10
                    try clear c12
                    try clear c12b0
                    try clear c12b1
                    try clear p12
                    try clear q12
                    try clear hx12
                    try clear qi12
                    try clear c16
                    try clear c18
                    try clear c18b0
                    try clear c18b1
                    try clear c18b2
                    try clear c20
                    try clear c20b0
                    try clear c20b1
                    try clear c21
                    try clear c21b0
                    try clear c21b1
                    try clear c22
                    try clear c22b0
                    try clear c22b1
                    try clear hx121_0
                    try clear hx122_0
                    try clear p121
                    try clear p122
                    try clear p2
                    try clear q121
                    try clear q122
                    obtain ⟨kq, x38_16, rfl, HA, HJ16, HO_0, HO_1, HO_11, HB⟩ := hcut
                    cases kq with
                    | zero => exact absurd HA.out (by simp [set_merge.j3])
                    | succ kj16 =>
                      have H := HA.out
                      clear HA
                      simp only [set_merge.j3] at H
                      by_cases c27 : x38_16 = true
                      · subst c27
                        have H1 : (if 0 < (x0_2.length : Int) then (if 1 ≤ (x0_2.length : Int) then ((some (x0_2.drop 1 : List Int)).bind fun y124 => (if a2 = true then (if x11_2.length < 17592186044416 then (set_merge.l0 kj16 y124 x1_2 a2 a3 a4 (x11_2 ++ [rd x0_2 0])) else (none)) else (set_merge.l0 kj16 y124 x1_2 a2 a3 a4 x11_2))) else (none)) else (none)) = some r := by rw [if_pos rfl] at H; exact H
                        clear H
                        have H := H1
                        clear H1
                        by_cases c28 : 0 < (x0_2.length : Int)
                        · rw [if_pos c28] at H
                          have c28b0 : decide (0 < (x0_2.length : Int)) = true := decide_eq_true c28
                          have c28b1 : decide (0 < x0_2.length) = true := decide_eq_true (by omega)
                          clear c28
                          by_cases c29 : 1 ≤ (x0_2.length : Int)
                          · rw [if_pos c29] at H
                            have c29b0 := eq_true c29
                            have c29b1 : decide (1 ≤ (x0_2.length : Int)) = true := decide_eq_true c29
                            clear c29
                            obtain ⟨y124, hy124⟩ : ∃ y_ : List Int, y_ = (x0_2.drop 1) := ⟨_, rfl⟩
                            replace H : (if a2 = true then (if x11_2.length < 17592186044416 then (set_merge.l0 kj16 y124 x1_2 a2 a3 a4 (x11_2 ++ [rd x0_2 0])) else (none)) else (set_merge.l0 kj16 y124 x1_2 a2 a3 a4 x11_2)) = some r := by first | (rw [hy124]; with_reducible exact H) | (have H2_ := (Option.bind_some _ _).symm.trans H; rw [hy124]; with_reducible exact H2_) | (have H2_ := (Option.bind_some _ _).symm.trans H; with_reducible exact H2_) | with_reducible exact H | (rw [hy124]; exact H) | exact H
                            have Ny124 := Aside0.mk hy124
                            clear hy124
                            by_cases c30 : a2 = true
                            · subst c30
                              have H1 : (if x11_2.length < 17592186044416 then (set_merge.l0 kj16 y124 x1_2 true a3 a4 (x11_2 ++ [rd x0_2 0])) else (none)) = some r := by rw [if_pos rfl] at H; exact H
                              clear H
                              have H := H1
                              clear H1
                              by_cases c31 : x11_2.length < 17592186044416
                              · rw [if_pos c31] at H
                                have LMc31 := Aside0.mk c31
                                clear c31
                                obtain ⟨y129, hy129⟩ : ∃ y_ : List Int, y_ = (x11_2 ++ [rd x0_2 0]) := ⟨_, rfl⟩
                                replace H : (set_merge.l0 kj16 y124 x1_2 true a3 a4 y129) = some r := by first | (rw [hy129]; with_reducible exact H) | (have H2_ := (Option.bind_some _ _).symm.trans H; rw [hy129]; with_reducible exact H2_) | (have H2_ := (Option.bind_some _ _).symm.trans H; with_reducible exact H2_) | with_reducible exact H | (rw [hy129]; exact H) | exact H
                                have Ny129 := Aside0.mk hy129
                                clear hy129
                                have H' := Aside0.mk H
                                clear H
                                obtain ⟨Ao32, co32, eo32⟩ := Kd.V_slice HO_0.out
                                subst eo32
                                have p123 : 0 ≤ (0 : Int) := (by omega)
                                have q123 : 0 < (x0_2.length : Int) := of_decide_eq_true (by first | (with_reducible assumption) | assumption)
                                obtain ⟨ad123, e123, hx123_0⟩ := Kd.at_int (Kd.V_reads' HO_0.out).2.2 0 p123 q123
                                cases e123
                                have qi123 : (0 < x0_2.length) = True := eq_true (by omega)
                                (try rw [show ((0 : Int)).toNat = 0 from rfl] at hx123_0)
                                (try rw [Addr.add_zero'] at hx123_0)
                                replace p123 := eq_true p123
                                replace q123 := eq_true q123
                                have q33 : (1 : Int) ≤ ((x0_2.length : Int) : Int) := of_decide_eq_true (by first | (with_reducible assumption) | assumption)
                                obtain ⟨i033, hi033, _, hsz33, _⟩ := info_parts info3
                                have hroom33 : x0_2.length ≤ co32 := (Kd.V_reads' HO_0.out).2.1
                                have hC33 : Kd.F (Kd.int .i64) _ _ (some ad123) x0_2.length x0_2 := (Kd.V_at (base := w.heap.size) HO_0.out).2.2
                                have hcut33 := cut_from (P := Tryz.prog) 28 3 .i64 Tryz.underlying28 hi033 1 hsz33 (some ad123) x0_2.length co32 1 (by omega) q33
                                have hr33 := Kd.F_cut (m := (1 : Int).toNat) (c := co32) hC33 (by omega) hroom33
                                obtain ⟨A33, hA33⟩ : ∃ A1, A1 = (if co32 = (1 : Int).toNat then (some ad123) else ((some ad123) : Option Addr).map (·.add ((1 : Int).toNat * 1))) := ⟨_, rfl⟩
                                obtain ⟨c33, hc33⟩ : ∃ c1, c1 = co32 - (1 : Int).toNat := ⟨_, rfl⟩
                                have hy33 : y124.length = x0_2.length - (1 : Int).toNat := (by rw [Ny124.out, List.length_drop] <;> omega)
                                rw [show (x0_2).drop (1 : Int).toNat = y124 from Ny124.out.symm] at hr33
                                replace hr33 : Kd.F (Kd.int .i64) _ _ A33 y124.length y124 := (by rw [hA33]; exact hr33)
                                rw [← hy33, ← hA33, ← hc33] at hcut33
                                have HO128 := Aside0.mk (show Kd.V (Kd.int .i64) 3 _ w.heap.size _ (.slice A33 y124.length c33) y124 from Kd.V_mk (by rw [hy33, hc33]; exact Nat.sub_le_sub_right hroom33 _) hr33)
                                have HC128 := Aside0.mk (show y124.length ≤ c33 from by rw [hy33, hc33]; exact Nat.sub_le_sub_right hroom33 _)
                                clear hr33 hC33 hroom33 hi033 hsz33 hc33
                                have KY33 := Aside0.mk hy33
                                have KA33 := Aside0.mk hA33
                                clear hy33 hA33
                                replace q33 := eq_true q33
                                go_wp2_with (first | ((with_reducible refine gate_builtin (b := .append) (xs := #[.tmp 82, .tmp 84]) rfl ?_); (try (refine gate_guard (by rfl) ?_; dsimp only)); at_builtin; refine Kd.R_append (Kd.int .i64) (w0 := w) w.heap.size rfl (.tmp 82) (.tmp 84) 28 3 (.int .i64 0) 8 rfl Tryz.underlying28 info3 rfl (by decide) (by omega) u11 x11_2 (rd x0_2 0) [.int .i64 (rd x0_2 0)] (fun k_ => (w.heap.size ≤ k_)) (fun _ => False) rfl rfl ?aP (fun _ hk => hk.elim) ?aF ?aO ?aB ?aS ?aL ?_; (case aP => exact rfl); (case aB => exact (by repeat (first | (with_reducible first | exact HB.out | apply below_alloc | apply pw_below_drewN | apply below_drew1) | exact HB.out))); (case aF => exact (fun k_ hk => (Nat.le_trans (below_size (by repeat (first | (with_reducible first | exact HB.out | apply below_alloc | apply pw_below_drewN | apply below_drew1) | exact HB.out))) hk))); (case aO => exact (by (with_reducible repeat (first | apply Kd.R_alloc | apply Kd.R_drewN | apply Kd.R_drew)); exact HO_11.out)); (case aS => exact (below_size (by repeat (first | (with_reducible first | exact HB.out | apply below_alloc | apply pw_below_drewN | apply below_drew1) | exact HB.out)))); (case aL => have := LMc31.out; omega); intro v130 w34 ho hb hg hat; rw [← Ny129.out] at ho; have n0_ := Aside0.mk (Kd.V_afterv (ok := (fun k_ => ((P0_ k_ ∨ P1_ k_) ∨ w.heap.size ≤ k_))) (by (with_reducible repeat (first | apply Kd.V_alloc | apply Kd.V_drewN | apply Kd.V_drew)); exact HO_0.out) hg hat); have n1_ := Aside0.mk (Kd.V_afterv (ok := (fun k_ => ((P0_ k_ ∨ P1_ k_) ∨ w.heap.size ≤ k_))) (by (with_reducible repeat (first | apply Kd.V_alloc | apply Kd.V_drewN | apply Kd.V_drew)); exact HO_1.out) hg hat); have n2_ := Aside0.mk (Kd.V_afterv (ok := (fun k_ => ((P0_ k_ ∨ P1_ k_) ∨ w.heap.size ≤ k_))) (by (with_reducible repeat (first | apply Kd.V_alloc | apply Kd.V_drewN | apply Kd.V_drew)); exact HO128.out) hg hat); have n3_ := Aside0.mk (hb); have n4_ := Aside0.mk (ho); clear HO_0; clear HO_1; clear HO128; clear HB; clear HO_11; have HO_0 := n0_; have HO_1 := n1_; have HO128 := n2_; have HB := n3_; have HO131 := n4_; clear n0_ n1_ n2_ n3_ n4_; clear ho hb hg hat))
                                repeat (go_quiet (first | ((with_reducible refine gate_builtin (b := .append) (xs := #[.tmp 82, .tmp 84]) rfl ?_); (try (refine gate_guard (by rfl) ?_; dsimp only)); at_builtin; refine Kd.R_append (Kd.int .i64) (w0 := w) w.heap.size rfl (.tmp 82) (.tmp 84) 28 3 (.int .i64 0) 8 rfl Tryz.underlying28 info3 rfl (by decide) (by omega) u11 x11_2 (rd x0_2 0) [.int .i64 (rd x0_2 0)] (fun k_ => (w.heap.size ≤ k_)) (fun _ => False) rfl rfl ?aP (fun _ hk => hk.elim) ?aF ?aO ?aB ?aS ?aL ?_; (case aP => exact rfl); (case aB => exact (by repeat (first | (with_reducible first | exact HB.out | apply below_alloc | apply pw_below_drewN | apply below_drew1) | exact HB.out))); (case aF => exact (fun k_ hk => (Nat.le_trans (below_size (by repeat (first | (with_reducible first | exact HB.out | apply below_alloc | apply pw_below_drewN | apply below_drew1) | exact HB.out))) hk))); (case aO => exact (by (with_reducible repeat (first | apply Kd.R_alloc | apply Kd.R_drewN | apply Kd.R_drew)); exact HO_11.out)); (case aS => exact (below_size (by repeat (first | (with_reducible first | exact HB.out | apply below_alloc | apply pw_below_drewN | apply below_drew1) | exact HB.out)))); (case aL => have := LMc31.out; omega); intro v130 w34 ho hb hg hat; rw [← Ny129.out] at ho; have n0_ := Aside0.mk (Kd.V_afterv (ok := (fun k_ => ((P0_ k_ ∨ P1_ k_) ∨ w.heap.size ≤ k_))) (by (with_reducible repeat (first | apply Kd.V_alloc | apply Kd.V_drewN | apply Kd.V_drew)); exact HO_0.out) hg hat); have n1_ := Aside0.mk (Kd.V_afterv (ok := (fun k_ => ((P0_ k_ ∨ P1_ k_) ∨ w.heap.size ≤ k_))) (by (with_reducible repeat (first | apply Kd.V_alloc | apply Kd.V_drewN | apply Kd.V_drew)); exact HO_1.out) hg hat); have n2_ := Aside0.mk (Kd.V_afterv (ok := (fun k_ => ((P0_ k_ ∨ P1_ k_) ∨ w.heap.size ≤ k_))) (by (with_reducible repeat (first | apply Kd.V_alloc | apply Kd.V_drewN | apply Kd.V_drew)); exact HO128.out) hg hat); have n3_ := Aside0.mk (hb); have n4_ := Aside0.mk (ho); clear HO_0; clear HO_1; clear HO128; clear HB; clear HO_11; have HO_0 := n0_; have HO_1 := n1_; have HO128 := n2_; have HB := n3_; have HO131 := n4_; clear n0_ n1_ n2_ n3_ n4_; clear ho hb hg hat)); try go_wp2_with (first | ((with_reducible refine gate_builtin (b := .append) (xs := #[.tmp 82, .tmp 84]) rfl ?_); (try (refine gate_guard (by rfl) ?_; dsimp only)); at_builtin; refine Kd.R_append (Kd.int .i64) (w0 := w) w.heap.size rfl (.tmp 82) (.tmp 84) 28 3 (.int .i64 0) 8 rfl Tryz.underlying28 info3 rfl (by decide) (by omega) u11 x11_2 (rd x0_2 0) [.int .i64 (rd x0_2 0)] (fun k_ => (w.heap.size ≤ k_)) (fun _ => False) rfl rfl ?aP (fun _ hk => hk.elim) ?aF ?aO ?aB ?aS ?aL ?_; (case aP => exact rfl); (case aB => exact (by repeat (first | (with_reducible first | exact HB.out | apply below_alloc | apply pw_below_drewN | apply below_drew1) | exact HB.out))); (case aF => exact (fun k_ hk => (Nat.le_trans (below_size (by repeat (first | (with_reducible first | exact HB.out | apply below_alloc | apply pw_below_drewN | apply below_drew1) | exact HB.out))) hk))); (case aO => exact (by (with_reducible repeat (first | apply Kd.R_alloc | apply Kd.R_drewN | apply Kd.R_drew)); exact HO_11.out)); (case aS => exact (below_size (by repeat (first | (with_reducible first | exact HB.out | apply below_alloc | apply pw_below_drewN | apply below_drew1) | exact HB.out)))); (case aL => have := LMc31.out; omega); intro v130 w34 ho hb hg hat; rw [← Ny129.out] at ho; have n0_ := Aside0.mk (Kd.V_afterv (ok := (fun k_ => ((P0_ k_ ∨ P1_ k_) ∨ w.heap.size ≤ k_))) (by (with_reducible repeat (first | apply Kd.V_alloc | apply Kd.V_drewN | apply Kd.V_drew)); exact HO_0.out) hg hat); have n1_ := Aside0.mk (Kd.V_afterv (ok := (fun k_ => ((P0_ k_ ∨ P1_ k_) ∨ w.heap.size ≤ k_))) (by (with_reducible repeat (first | apply Kd.V_alloc | apply Kd.V_drewN | apply Kd.V_drew)); exact HO_1.out) hg hat); have n2_ := Aside0.mk (Kd.V_afterv (ok := (fun k_ => ((P0_ k_ ∨ P1_ k_) ∨ w.heap.size ≤ k_))) (by (with_reducible repeat (first | apply Kd.V_alloc | apply Kd.V_drewN | apply Kd.V_drew)); exact HO128.out) hg hat); have n3_ := Aside0.mk (hb); have n4_ := Aside0.mk (ho); clear HO_0; clear HO_1; clear HO128; clear HB; clear HO_11; have HO_0 := n0_; have HO_1 := n1_; have HO128 := n2_; have HB := n3_; have HO131 := n4_; clear n0_ n1_ n2_ n3_ n4_; clear ho hb hg hat)))
                                go_roundg kj16
                                case measure => have := HJ5.out; have := HK2.out; have := HJ10.out; have := HJ16.out; omega
                                case rel => exact ⟨(y124), (x1_2), (y129), H', ⟨by have := HJ5.out; have := HK2.out; have := HJ10.out; have := HJ16.out; omega⟩, ⟨by (with_reducible repeat (first | apply Kd.V_alloc | apply Kd.V_drewN | apply Kd.V_drew)); exact HO128.out⟩, ⟨by (with_reducible repeat (first | apply Kd.V_alloc | apply Kd.V_drewN | apply Kd.V_drew)); exact HO_1.out⟩, ⟨by (with_reducible repeat (first | apply Kd.R_alloc | apply Kd.R_drewN | apply Kd.R_drew)); exact HO131.out⟩, ⟨by repeat (first | (with_reducible first | exact HB.out | apply below_alloc | apply pw_below_drewN | apply below_drew1) | exact HB.out)⟩⟩
                              · rw [if_neg c31] at H
                                exact absurd H (by simp)
                            · replace c30 := Bool.eq_false_iff.mpr c30
                              subst c30
                              have H1 : (set_merge.l0 kj16 y124 x1_2 false a3 a4 x11_2) = some r := by rw [if_neg (show ¬ (false = true) by decide)] at H; exact H
                              clear H
                              have H := H1
                              clear H1
                              have H' := Aside0.mk H
                              clear H
                              obtain ⟨Ao35, co35, eo35⟩ := Kd.V_slice HO_0.out
                              subst eo35
                              have p123 : 0 ≤ (0 : Int) := (by omega)
                              have q123 : 0 < (x0_2.length : Int) := of_decide_eq_true (by first | (with_reducible assumption) | assumption)
                              obtain ⟨ad123, e123, hx123_0⟩ := Kd.at_int (Kd.V_reads' HO_0.out).2.2 0 p123 q123
                              cases e123
                              have qi123 : (0 < x0_2.length) = True := eq_true (by omega)
                              (try rw [show ((0 : Int)).toNat = 0 from rfl] at hx123_0)
                              (try rw [Addr.add_zero'] at hx123_0)
                              replace p123 := eq_true p123
                              replace q123 := eq_true q123
                              have q36 : (1 : Int) ≤ ((x0_2.length : Int) : Int) := of_decide_eq_true (by first | (with_reducible assumption) | assumption)
                              obtain ⟨i036, hi036, _, hsz36, _⟩ := info_parts info3
                              have hroom36 : x0_2.length ≤ co35 := (Kd.V_reads' HO_0.out).2.1
                              have hC36 : Kd.F (Kd.int .i64) _ _ (some ad123) x0_2.length x0_2 := (Kd.V_at (base := w.heap.size) HO_0.out).2.2
                              have hcut36 := cut_from (P := Tryz.prog) 28 3 .i64 Tryz.underlying28 hi036 1 hsz36 (some ad123) x0_2.length co35 1 (by omega) q36
                              have hr36 := Kd.F_cut (m := (1 : Int).toNat) (c := co35) hC36 (by omega) hroom36
                              obtain ⟨A36, hA36⟩ : ∃ A1, A1 = (if co35 = (1 : Int).toNat then (some ad123) else ((some ad123) : Option Addr).map (·.add ((1 : Int).toNat * 1))) := ⟨_, rfl⟩
                              obtain ⟨c36, hc36⟩ : ∃ c1, c1 = co35 - (1 : Int).toNat := ⟨_, rfl⟩
                              have hy36 : y124.length = x0_2.length - (1 : Int).toNat := (by rw [Ny124.out, List.length_drop] <;> omega)
                              rw [show (x0_2).drop (1 : Int).toNat = y124 from Ny124.out.symm] at hr36
                              replace hr36 : Kd.F (Kd.int .i64) _ _ A36 y124.length y124 := (by rw [hA36]; exact hr36)
                              rw [← hy36, ← hA36, ← hc36] at hcut36
                              have HO128 := Aside0.mk (show Kd.V (Kd.int .i64) 3 _ w.heap.size _ (.slice A36 y124.length c36) y124 from Kd.V_mk (by rw [hy36, hc36]; exact Nat.sub_le_sub_right hroom36 _) hr36)
                              have HC128 := Aside0.mk (show y124.length ≤ c36 from by rw [hy36, hc36]; exact Nat.sub_le_sub_right hroom36 _)
                              clear hr36 hC36 hroom36 hi036 hsz36 hc36
                              have KY36 := Aside0.mk hy36
                              have KA36 := Aside0.mk hA36
                              clear hy36 hA36
                              replace q36 := eq_true q36
                              go_wp2
                              repeat (go_quiet (fail); try go_wp2)
                              go_roundg kj16
                              case measure => have := HJ5.out; have := HK2.out; have := HJ10.out; have := HJ16.out; omega
                              case rel => exact ⟨(y124), (x1_2), (x11_2), H', ⟨by have := HJ5.out; have := HK2.out; have := HJ10.out; have := HJ16.out; omega⟩, ⟨by (with_reducible repeat (first | apply Kd.V_alloc | apply Kd.V_drewN | apply Kd.V_drew)); exact HO128.out⟩, ⟨by (with_reducible repeat (first | apply Kd.V_alloc | apply Kd.V_drewN | apply Kd.V_drew)); exact HO_1.out⟩, ⟨by (with_reducible repeat (first | apply Kd.R_alloc | apply Kd.R_drewN | apply Kd.R_drew)); exact HO_11.out⟩, ⟨by repeat (first | (with_reducible first | exact HB.out | apply below_alloc | apply pw_below_drewN | apply below_drew1) | exact HB.out)⟩⟩
                          · rw [if_neg c29] at H
                            exact absurd H (by simp)
                        · rw [if_neg c28] at H
                          exact absurd H (by simp)
                      · replace c27 := Bool.eq_false_iff.mpr c27
                        subst c27
                        have H1 : (if (x0_2.length : Int) = 0 then (set_merge.j4 kj16 x0_2 x1_2 a2 a3 a4 x11_2 a4 true) else (if 0 < (x1_2.length : Int) then (if 0 < (x0_2.length : Int) then (set_merge.j4 kj16 x0_2 x1_2 a2 a3 a4 x11_2 a4 (decide ((rd x1_2 0) < (rd x0_2 0)))) else (none)) else (none))) = some r := by rw [if_neg (show ¬ (false = true) by decide)] at H; exact H
                        clear H
                        have H := H1
                        clear H1
                        have HC37 := Aside0.mk H
                        clear H
                        go_upto_region 9 with (fail)
                        repeat (go_quiet (fail); go_upto_region 9 with (fail))
                        go_cut [62] (fun v62 wc => ∃ (kq : Nat) (x62_36 : Bool), v62 = .bool x62_36 ∧ Aside0 (set_merge.j4 kq x0_2 x1_2 a2 a3 a4 x11_2 a4 x62_36 = some r) ∧ Aside0 (kq ≤ kj16) ∧ Aside0 (Kd.V (Kd.int .i64) 3 wc w.heap.size (fun k_ => ((P0_ k_ ∨ P1_ k_) ∨ w.heap.size ≤ k_) ∧ some k_ ≠ (u11 : Value).ownBlock) u0 x0_2) ∧ Aside0 (Kd.V (Kd.int .i64) 3 wc w.heap.size (fun k_ => ((P0_ k_ ∨ P1_ k_) ∨ w.heap.size ≤ k_) ∧ some k_ ≠ (u11 : Value).ownBlock) u1 x1_2) ∧ Aside0 (Kd.R (Kd.int .i64) 3 wc w.heap.size (fun k_ => (w.heap.size ≤ k_)) u11 x11_2) ∧ Aside0 (Below w.heap.size w wc))
                        case first =>
                          have H := HC37.out
                          clear HC37
                          by_cases c38 : (x0_2.length : Int) = 0
                          · rw [if_pos c38] at H
                            have c38b0 : ((x0_2.length : Int) == 0) = true := beq_iff_eq.mpr c38
                            have c38b1 : ((x0_2.length : Int) != 0) = false := bne_eq_false_iff_eq.mpr c38
                            clear c38
                            (first | rw [c38b0] | (simp only [i64_w, i32_w]; rw [c38b0]) | skip)
                            have H' := Aside0.mk H
                            clear H
                            obtain ⟨Ao39, co39, eo39⟩ := Kd.V_slice HO_0.out
                            subst eo39
                            go_wp2
                            repeat (go_quiet (fail); try go_wp2)
                            go_meet
                            case rel => exact ⟨_, (true), (by first | rfl | (simp; done) | (simp [*]; done)), H', ⟨by have := HJ5.out; have := HK2.out; have := HJ10.out; have := HJ16.out; first | omega | exact Nat.le_refl _⟩, ⟨by (with_reducible repeat (first | apply Kd.V_alloc | apply Kd.V_drewN | apply Kd.V_drew)); exact HO_0.out⟩, ⟨by (with_reducible repeat (first | apply Kd.V_alloc | apply Kd.V_drewN | apply Kd.V_drew)); exact HO_1.out⟩, ⟨by (with_reducible repeat (first | apply Kd.R_alloc | apply Kd.R_drewN | apply Kd.R_drew)); exact HO_11.out⟩, ⟨by repeat (first | (with_reducible first | exact HB.out | apply below_alloc | apply pw_below_drewN | apply below_drew1) | exact HB.out)⟩⟩
                          · rw [if_neg c38] at H
                            have c38b0 : ((x0_2.length : Int) == 0) = false := beq_eq_false_iff_ne.mpr c38
                            have c38b1 : ((x0_2.length : Int) != 0) = true := bne_iff_ne.mpr c38
                            have c38b2 : ¬ (x0_2 = []) := fun h_ => c38 (by rw [h_]; rfl)
                            (first | rw [c38b0] | (simp only [i64_w, i32_w]; rw [c38b0]) | skip)
                            by_cases c40 : 0 < (x1_2.length : Int)
                            · rw [if_pos c40] at H
                              have c40b0 : decide (0 < (x1_2.length : Int)) = true := decide_eq_true c40
                              have c40b1 : decide (0 < x1_2.length) = true := decide_eq_true (by omega)
                              clear c40
                              by_cases c41 : 0 < (x0_2.length : Int)
                              · rw [if_pos c41] at H
                                have c41b0 : decide (0 < (x0_2.length : Int)) = true := decide_eq_true c41
                                have c41b1 : decide (0 < x0_2.length) = true := decide_eq_true (by omega)
                                clear c41
                                have H' := Aside0.mk H
                                clear H
                                obtain ⟨Ao42, co42, eo42⟩ := Kd.V_slice HO_0.out
                                subst eo42
                                obtain ⟨Ao43, co43, eo43⟩ := Kd.V_slice HO_1.out
                                subst eo43
                                have p132 : 0 ≤ (0 : Int) := (by omega)
                                have q132 : 0 < (x1_2.length : Int) := of_decide_eq_true (by first | (with_reducible assumption) | assumption)
                                obtain ⟨ad132, e132, hx132_0⟩ := Kd.at_int (Kd.V_reads' HO_1.out).2.2 0 p132 q132
                                cases e132
                                have qi132 : (0 < x1_2.length) = True := eq_true (by omega)
                                (try rw [show ((0 : Int)).toNat = 0 from rfl] at hx132_0)
                                (try rw [Addr.add_zero'] at hx132_0)
                                replace p132 := eq_true p132
                                replace q132 := eq_true q132
                                have p133 : 0 ≤ (0 : Int) := (by omega)
                                have q133 : 0 < (x0_2.length : Int) := of_decide_eq_true (by first | (with_reducible assumption) | assumption)
                                obtain ⟨ad133, e133, hx133_0⟩ := Kd.at_int (Kd.V_reads' HO_0.out).2.2 0 p133 q133
                                cases e133
                                have qi133 : (0 < x0_2.length) = True := eq_true (by omega)
                                (try rw [show ((0 : Int)).toNat = 0 from rfl] at hx133_0)
                                (try rw [Addr.add_zero'] at hx133_0)
                                replace p133 := eq_true p133
                                replace q133 := eq_true q133
                                go_wp2
                                repeat (go_quiet (fail); try go_wp2)
                                go_meet
                                case rel => exact ⟨_, (decide ((rd x1_2 0) < (rd x0_2 0))), (by first | rfl | (simp; done) | (simp [*]; done)), H', ⟨by have := HJ5.out; have := HK2.out; have := HJ10.out; have := HJ16.out; first | omega | exact Nat.le_refl _⟩, ⟨by (with_reducible repeat (first | apply Kd.V_alloc | apply Kd.V_drewN | apply Kd.V_drew)); exact HO_0.out⟩, ⟨by (with_reducible repeat (first | apply Kd.V_alloc | apply Kd.V_drewN | apply Kd.V_drew)); exact HO_1.out⟩, ⟨by (with_reducible repeat (first | apply Kd.R_alloc | apply Kd.R_drewN | apply Kd.R_drew)); exact HO_11.out⟩, ⟨by repeat (first | (with_reducible first | exact HB.out | apply below_alloc | apply pw_below_drewN | apply below_drew1) | exact HB.out)⟩⟩
                              · rw [if_neg c41] at H
                                exact absurd H (by simp)
                            · rw [if_neg c40] at H
                              exact absurd H (by simp)
                        case rest =>
                          clear HC37
                          try clear c1
                          try clear p1
                          try clear q1
                          try clear hx1
                          try clear qi1
                          try clear c2
                          try clear p2
                          try clear c3
                          try clear q3
                          try clear c4
                          try clear c8
                          try clear c9
                          try clear c10
                          try clear c12
                          try clear c12b0
                          try clear c12b1
                          try clear p12
                          try clear q12
                          try clear hx12
                          try clear qi12
                          try clear p13
                          try clear q13
                          try clear hx13
                          try clear qi13
                          try clear c16
                          try clear c18
                          try clear c18b0
                          try clear c18b1
                          try clear c18b2
                          try clear c20
                          try clear c20b0
                          try clear c20b1
                          try clear c21
                          try clear c21b0
                          try clear c21b1
                          try clear c22
                          try clear c22b0
                          try clear c22b1
                          try clear c27
                          try clear c28
                          try clear c28b0
                          try clear c28b1
                          try clear c29
                          try clear c29b0
                          try clear c29b1
                          try clear c30
                          try clear c31
                          try clear c33
                          try clear q33
                          try clear c36
                          try clear q36
                          try clear c38
                          try clear c38b0
                          try clear c38b1
                          try clear c38b2
                          try clear c40
                          try clear c40b0
                          try clear c40b1
                          try clear c41
                          try clear c41b0
                          try clear c41b1
                          try clear hx121_0
                          try clear hx122_0
                          try clear hx123_0
                          try clear hx132_0
                          try clear hx133_0
                          try clear p1
                          try clear p12
                          try clear p121
                          try clear p122
                          try clear p123
                          try clear p132
                          try clear p133
                          try clear p2
                          try clear q1
                          try clear q12
                          try clear q121
                          try clear q122
                          try clear q123
                          try clear q132
                          try clear q133
                          try clear q33
                          try clear q36
                          obtain ⟨kq, x62_36, rfl, HA, HJ36, HO_0, HO_1, HO_11, HB⟩ := hcut
                          cases kq with
                          | zero => exact absurd HA.out (by simp [set_merge.j4])
                          | succ kj36 =>
                            have H := HA.out
                            clear HA
                            simp only [set_merge.j4] at H
                            by_cases c44 : x62_36 = true
                            · subst c44
                              have H1 : (if 0 < (x1_2.length : Int) then (if 1 ≤ (x1_2.length : Int) then ((some (x1_2.drop 1 : List Int)).bind fun y135 => (if a3 = true then (if x11_2.length < 17592186044416 then (set_merge.l0 kj36 x0_2 y135 a2 a3 a4 (x11_2 ++ [rd x1_2 0])) else (none)) else (set_merge.l0 kj36 x0_2 y135 a2 a3 a4 x11_2))) else (none)) else (none)) = some r := by rw [if_pos rfl] at H; exact H
                              clear H
                              have H := H1
                              clear H1
                              by_cases c45 : 0 < (x1_2.length : Int)
                              · rw [if_pos c45] at H
                                have c45b0 : decide (0 < (x1_2.length : Int)) = true := decide_eq_true c45
                                have c45b1 : decide (0 < x1_2.length) = true := decide_eq_true (by omega)
                                clear c45
                                by_cases c46 : 1 ≤ (x1_2.length : Int)
                                · rw [if_pos c46] at H
                                  have c46b0 := eq_true c46
                                  have c46b1 : decide (1 ≤ (x1_2.length : Int)) = true := decide_eq_true c46
                                  clear c46
                                  obtain ⟨y135, hy135⟩ : ∃ y_ : List Int, y_ = (x1_2.drop 1) := ⟨_, rfl⟩
                                  replace H : (if a3 = true then (if x11_2.length < 17592186044416 then (set_merge.l0 kj36 x0_2 y135 a2 a3 a4 (x11_2 ++ [rd x1_2 0])) else (none)) else (set_merge.l0 kj36 x0_2 y135 a2 a3 a4 x11_2)) = some r := by first | (rw [hy135]; with_reducible exact H) | (have H2_ := (Option.bind_some _ _).symm.trans H; rw [hy135]; with_reducible exact H2_) | (have H2_ := (Option.bind_some _ _).symm.trans H; with_reducible exact H2_) | with_reducible exact H | (rw [hy135]; exact H) | exact H
                                  have Ny135 := Aside0.mk hy135
                                  clear hy135
                                  by_cases c47 : a3 = true
                                  · subst c47
                                    have H1 : (if x11_2.length < 17592186044416 then (set_merge.l0 kj36 x0_2 y135 a2 true a4 (x11_2 ++ [rd x1_2 0])) else (none)) = some r := by rw [if_pos rfl] at H; exact H
                                    clear H
                                    have H := H1
                                    clear H1
                                    by_cases c48 : x11_2.length < 17592186044416
                                    · rw [if_pos c48] at H
                                      have LMc48 := Aside0.mk c48
                                      clear c48
                                      obtain ⟨y140, hy140⟩ : ∃ y_ : List Int, y_ = (x11_2 ++ [rd x1_2 0]) := ⟨_, rfl⟩
                                      replace H : (set_merge.l0 kj36 x0_2 y135 a2 true a4 y140) = some r := by first | (rw [hy140]; with_reducible exact H) | (have H2_ := (Option.bind_some _ _).symm.trans H; rw [hy140]; with_reducible exact H2_) | (have H2_ := (Option.bind_some _ _).symm.trans H; with_reducible exact H2_) | with_reducible exact H | (rw [hy140]; exact H) | exact H
                                      have Ny140 := Aside0.mk hy140
                                      clear hy140
                                      have H' := Aside0.mk H
                                      clear H
                                      obtain ⟨Ao49, co49, eo49⟩ := Kd.V_slice HO_1.out
                                      subst eo49
                                      have p134 : 0 ≤ (0 : Int) := (by omega)
                                      have q134 : 0 < (x1_2.length : Int) := of_decide_eq_true (by first | (with_reducible assumption) | assumption)
                                      obtain ⟨ad134, e134, hx134_0⟩ := Kd.at_int (Kd.V_reads' HO_1.out).2.2 0 p134 q134
                                      cases e134
                                      have qi134 : (0 < x1_2.length) = True := eq_true (by omega)
                                      (try rw [show ((0 : Int)).toNat = 0 from rfl] at hx134_0)
                                      (try rw [Addr.add_zero'] at hx134_0)
                                      replace p134 := eq_true p134
                                      replace q134 := eq_true q134
                                      have q50 : (1 : Int) ≤ ((x1_2.length : Int) : Int) := of_decide_eq_true (by first | (with_reducible assumption) | assumption)
                                      obtain ⟨i050, hi050, _, hsz50, _⟩ := info_parts info3
                                      have hroom50 : x1_2.length ≤ co49 := (Kd.V_reads' HO_1.out).2.1
                                      have hC50 : Kd.F (Kd.int .i64) _ _ (some ad134) x1_2.length x1_2 := (Kd.V_at (base := w.heap.size) HO_1.out).2.2
                                      have hcut50 := cut_from (P := Tryz.prog) 28 3 .i64 Tryz.underlying28 hi050 1 hsz50 (some ad134) x1_2.length co49 1 (by omega) q50
                                      have hr50 := Kd.F_cut (m := (1 : Int).toNat) (c := co49) hC50 (by omega) hroom50
                                      obtain ⟨A50, hA50⟩ : ∃ A1, A1 = (if co49 = (1 : Int).toNat then (some ad134) else ((some ad134) : Option Addr).map (·.add ((1 : Int).toNat * 1))) := ⟨_, rfl⟩
                                      obtain ⟨c50, hc50⟩ : ∃ c1, c1 = co49 - (1 : Int).toNat := ⟨_, rfl⟩
                                      have hy50 : y135.length = x1_2.length - (1 : Int).toNat := (by rw [Ny135.out, List.length_drop] <;> omega)
                                      rw [show (x1_2).drop (1 : Int).toNat = y135 from Ny135.out.symm] at hr50
                                      replace hr50 : Kd.F (Kd.int .i64) _ _ A50 y135.length y135 := (by rw [hA50]; exact hr50)
                                      rw [← hy50, ← hA50, ← hc50] at hcut50
                                      have HO139 := Aside0.mk (show Kd.V (Kd.int .i64) 3 _ w.heap.size _ (.slice A50 y135.length c50) y135 from Kd.V_mk (by rw [hy50, hc50]; exact Nat.sub_le_sub_right hroom50 _) hr50)
                                      have HC139 := Aside0.mk (show y135.length ≤ c50 from by rw [hy50, hc50]; exact Nat.sub_le_sub_right hroom50 _)
                                      clear hr50 hC50 hroom50 hi050 hsz50 hc50
                                      have KY50 := Aside0.mk hy50
                                      have KA50 := Aside0.mk hA50
                                      clear hy50 hA50
                                      replace q50 := eq_true q50
                                      go_wp2_with (first | ((with_reducible refine gate_builtin (b := .append) (xs := #[.tmp 82, .tmp 84]) rfl ?_); (try (refine gate_guard (by rfl) ?_; dsimp only)); at_builtin; refine Kd.R_append (Kd.int .i64) (w0 := w) w.heap.size rfl (.tmp 82) (.tmp 84) 28 3 (.int .i64 0) 8 rfl Tryz.underlying28 info3 rfl (by decide) (by omega) u11 x11_2 (rd x1_2 0) [.int .i64 (rd x1_2 0)] (fun k_ => (w.heap.size ≤ k_)) (fun _ => False) rfl rfl ?aP (fun _ hk => hk.elim) ?aF ?aO ?aB ?aS ?aL ?_; (case aP => exact rfl); (case aB => exact (by repeat (first | (with_reducible first | exact HB.out | apply below_alloc | apply pw_below_drewN | apply below_drew1) | exact HB.out))); (case aF => exact (fun k_ hk => (Nat.le_trans (below_size (by repeat (first | (with_reducible first | exact HB.out | apply below_alloc | apply pw_below_drewN | apply below_drew1) | exact HB.out))) hk))); (case aO => exact (by (with_reducible repeat (first | apply Kd.R_alloc | apply Kd.R_drewN | apply Kd.R_drew)); exact HO_11.out)); (case aS => exact (below_size (by repeat (first | (with_reducible first | exact HB.out | apply below_alloc | apply pw_below_drewN | apply below_drew1) | exact HB.out)))); (case aL => have := LMc48.out; omega); intro v141 w51 ho hb hg hat; rw [← Ny140.out] at ho; have n0_ := Aside0.mk (Kd.V_afterv (ok := (fun k_ => ((P0_ k_ ∨ P1_ k_) ∨ w.heap.size ≤ k_))) (by (with_reducible repeat (first | apply Kd.V_alloc | apply Kd.V_drewN | apply Kd.V_drew)); exact HO_0.out) hg hat); have n1_ := Aside0.mk (Kd.V_afterv (ok := (fun k_ => ((P0_ k_ ∨ P1_ k_) ∨ w.heap.size ≤ k_))) (by (with_reducible repeat (first | apply Kd.V_alloc | apply Kd.V_drewN | apply Kd.V_drew)); exact HO_1.out) hg hat); have n2_ := Aside0.mk (Kd.V_afterv (ok := (fun k_ => ((P0_ k_ ∨ P1_ k_) ∨ w.heap.size ≤ k_))) (by (with_reducible repeat (first | apply Kd.V_alloc | apply Kd.V_drewN | apply Kd.V_drew)); exact HO139.out) hg hat); have n3_ := Aside0.mk (hb); have n4_ := Aside0.mk (ho); clear HO_0; clear HO_1; clear HO139; clear HB; clear HO_11; have HO_0 := n0_; have HO_1 := n1_; have HO139 := n2_; have HB := n3_; have HO142 := n4_; clear n0_ n1_ n2_ n3_ n4_; clear ho hb hg hat))
                                      repeat (go_quiet (first | ((with_reducible refine gate_builtin (b := .append) (xs := #[.tmp 82, .tmp 84]) rfl ?_); (try (refine gate_guard (by rfl) ?_; dsimp only)); at_builtin; refine Kd.R_append (Kd.int .i64) (w0 := w) w.heap.size rfl (.tmp 82) (.tmp 84) 28 3 (.int .i64 0) 8 rfl Tryz.underlying28 info3 rfl (by decide) (by omega) u11 x11_2 (rd x1_2 0) [.int .i64 (rd x1_2 0)] (fun k_ => (w.heap.size ≤ k_)) (fun _ => False) rfl rfl ?aP (fun _ hk => hk.elim) ?aF ?aO ?aB ?aS ?aL ?_; (case aP => exact rfl); (case aB => exact (by repeat (first | (with_reducible first | exact HB.out | apply below_alloc | apply pw_below_drewN | apply below_drew1) | exact HB.out))); (case aF => exact (fun k_ hk => (Nat.le_trans (below_size (by repeat (first | (with_reducible first | exact HB.out | apply below_alloc | apply pw_below_drewN | apply below_drew1) | exact HB.out))) hk))); (case aO => exact (by (with_reducible repeat (first | apply Kd.R_alloc | apply Kd.R_drewN | apply Kd.R_drew)); exact HO_11.out)); (case aS => exact (below_size (by repeat (first | (with_reducible first | exact HB.out | apply below_alloc | apply pw_below_drewN | apply below_drew1) | exact HB.out)))); (case aL => have := LMc48.out; omega); intro v141 w51 ho hb hg hat; rw [← Ny140.out] at ho; have n0_ := Aside0.mk (Kd.V_afterv (ok := (fun k_ => ((P0_ k_ ∨ P1_ k_) ∨ w.heap.size ≤ k_))) (by (with_reducible repeat (first | apply Kd.V_alloc | apply Kd.V_drewN | apply Kd.V_drew)); exact HO_0.out) hg hat); have n1_ := Aside0.mk (Kd.V_afterv (ok := (fun k_ => ((P0_ k_ ∨ P1_ k_) ∨ w.heap.size ≤ k_))) (by (with_reducible repeat (first | apply Kd.V_alloc | apply Kd.V_drewN | apply Kd.V_drew)); exact HO_1.out) hg hat); have n2_ := Aside0.mk (Kd.V_afterv (ok := (fun k_ => ((P0_ k_ ∨ P1_ k_) ∨ w.heap.size ≤ k_))) (by (with_reducible repeat (first | apply Kd.V_alloc | apply Kd.V_drewN | apply Kd.V_drew)); exact HO139.out) hg hat); have n3_ := Aside0.mk (hb); have n4_ := Aside0.mk (ho); clear HO_0; clear HO_1; clear HO139; clear HB; clear HO_11; have HO_0 := n0_; have HO_1 := n1_; have HO139 := n2_; have HB := n3_; have HO142 := n4_; clear n0_ n1_ n2_ n3_ n4_; clear ho hb hg hat)); try go_wp2_with (first | ((with_reducible refine gate_builtin (b := .append) (xs := #[.tmp 82, .tmp 84]) rfl ?_); (try (refine gate_guard (by rfl) ?_; dsimp only)); at_builtin; refine Kd.R_append (Kd.int .i64) (w0 := w) w.heap.size rfl (.tmp 82) (.tmp 84) 28 3 (.int .i64 0) 8 rfl Tryz.underlying28 info3 rfl (by decide) (by omega) u11 x11_2 (rd x1_2 0) [.int .i64 (rd x1_2 0)] (fun k_ => (w.heap.size ≤ k_)) (fun _ => False) rfl rfl ?aP (fun _ hk => hk.elim) ?aF ?aO ?aB ?aS ?aL ?_; (case aP => exact rfl); (case aB => exact (by repeat (first | (with_reducible first | exact HB.out | apply below_alloc | apply pw_below_drewN | apply below_drew1) | exact HB.out))); (case aF => exact (fun k_ hk => (Nat.le_trans (below_size (by repeat (first | (with_reducible first | exact HB.out | apply below_alloc | apply pw_below_drewN | apply below_drew1) | exact HB.out))) hk))); (case aO => exact (by (with_reducible repeat (first | apply Kd.R_alloc | apply Kd.R_drewN | apply Kd.R_drew)); exact HO_11.out)); (case aS => exact (below_size (by repeat (first | (with_reducible first | exact HB.out | apply below_alloc | apply pw_below_drewN | apply below_drew1) | exact HB.out)))); (case aL => have := LMc48.out; omega); intro v141 w51 ho hb hg hat; rw [← Ny140.out] at ho; have n0_ := Aside0.mk (Kd.V_afterv (ok := (fun k_ => ((P0_ k_ ∨ P1_ k_) ∨ w.heap.size ≤ k_))) (by (with_reducible repeat (first | apply Kd.V_alloc | apply Kd.V_drewN | apply Kd.V_drew)); exact HO_0.out) hg hat); have n1_ := Aside0.mk (Kd.V_afterv (ok := (fun k_ => ((P0_ k_ ∨ P1_ k_) ∨ w.heap.size ≤ k_))) (by (with_reducible repeat (first | apply Kd.V_alloc | apply Kd.V_drewN | apply Kd.V_drew)); exact HO_1.out) hg hat); have n2_ := Aside0.mk (Kd.V_afterv (ok := (fun k_ => ((P0_ k_ ∨ P1_ k_) ∨ w.heap.size ≤ k_))) (by (with_reducible repeat (first | apply Kd.V_alloc | apply Kd.V_drewN | apply Kd.V_drew)); exact HO139.out) hg hat); have n3_ := Aside0.mk (hb); have n4_ := Aside0.mk (ho); clear HO_0; clear HO_1; clear HO139; clear HB; clear HO_11; have HO_0 := n0_; have HO_1 := n1_; have HO139 := n2_; have HB := n3_; have HO142 := n4_; clear n0_ n1_ n2_ n3_ n4_; clear ho hb hg hat)))
                                      go_roundg kj36
                                      case measure => have := HJ5.out; have := HK2.out; have := HJ10.out; have := HJ16.out; have := HJ36.out; omega
                                      case rel => exact ⟨(x0_2), (y135), (y140), H', ⟨by have := HJ5.out; have := HK2.out; have := HJ10.out; have := HJ16.out; have := HJ36.out; omega⟩, ⟨by (with_reducible repeat (first | apply Kd.V_alloc | apply Kd.V_drewN | apply Kd.V_drew)); exact HO_0.out⟩, ⟨by (with_reducible repeat (first | apply Kd.V_alloc | apply Kd.V_drewN | apply Kd.V_drew)); exact HO139.out⟩, ⟨by (with_reducible repeat (first | apply Kd.R_alloc | apply Kd.R_drewN | apply Kd.R_drew)); exact HO142.out⟩, ⟨by repeat (first | (with_reducible first | exact HB.out | apply below_alloc | apply pw_below_drewN | apply below_drew1) | exact HB.out)⟩⟩
                                    · rw [if_neg c48] at H
                                      exact absurd H (by simp)
                                  · replace c47 := Bool.eq_false_iff.mpr c47
                                    subst c47
                                    have H1 : (set_merge.l0 kj36 x0_2 y135 a2 false a4 x11_2) = some r := by rw [if_neg (show ¬ (false = true) by decide)] at H; exact H
                                    clear H
                                    have H := H1
                                    clear H1
                                    have H' := Aside0.mk H
                                    clear H
                                    obtain ⟨Ao52, co52, eo52⟩ := Kd.V_slice HO_1.out
                                    subst eo52
                                    have p134 : 0 ≤ (0 : Int) := (by omega)
                                    have q134 : 0 < (x1_2.length : Int) := of_decide_eq_true (by first | (with_reducible assumption) | assumption)
                                    obtain ⟨ad134, e134, hx134_0⟩ := Kd.at_int (Kd.V_reads' HO_1.out).2.2 0 p134 q134
                                    cases e134
                                    have qi134 : (0 < x1_2.length) = True := eq_true (by omega)
                                    (try rw [show ((0 : Int)).toNat = 0 from rfl] at hx134_0)
                                    (try rw [Addr.add_zero'] at hx134_0)
                                    replace p134 := eq_true p134
                                    replace q134 := eq_true q134
                                    have q53 : (1 : Int) ≤ ((x1_2.length : Int) : Int) := of_decide_eq_true (by first | (with_reducible assumption) | assumption)
                                    obtain ⟨i053, hi053, _, hsz53, _⟩ := info_parts info3
                                    have hroom53 : x1_2.length ≤ co52 := (Kd.V_reads' HO_1.out).2.1
                                    have hC53 : Kd.F (Kd.int .i64) _ _ (some ad134) x1_2.length x1_2 := (Kd.V_at (base := w.heap.size) HO_1.out).2.2
                                    have hcut53 := cut_from (P := Tryz.prog) 28 3 .i64 Tryz.underlying28 hi053 1 hsz53 (some ad134) x1_2.length co52 1 (by omega) q53
                                    have hr53 := Kd.F_cut (m := (1 : Int).toNat) (c := co52) hC53 (by omega) hroom53
                                    obtain ⟨A53, hA53⟩ : ∃ A1, A1 = (if co52 = (1 : Int).toNat then (some ad134) else ((some ad134) : Option Addr).map (·.add ((1 : Int).toNat * 1))) := ⟨_, rfl⟩
                                    obtain ⟨c53, hc53⟩ : ∃ c1, c1 = co52 - (1 : Int).toNat := ⟨_, rfl⟩
                                    have hy53 : y135.length = x1_2.length - (1 : Int).toNat := (by rw [Ny135.out, List.length_drop] <;> omega)
                                    rw [show (x1_2).drop (1 : Int).toNat = y135 from Ny135.out.symm] at hr53
                                    replace hr53 : Kd.F (Kd.int .i64) _ _ A53 y135.length y135 := (by rw [hA53]; exact hr53)
                                    rw [← hy53, ← hA53, ← hc53] at hcut53
                                    have HO139 := Aside0.mk (show Kd.V (Kd.int .i64) 3 _ w.heap.size _ (.slice A53 y135.length c53) y135 from Kd.V_mk (by rw [hy53, hc53]; exact Nat.sub_le_sub_right hroom53 _) hr53)
                                    have HC139 := Aside0.mk (show y135.length ≤ c53 from by rw [hy53, hc53]; exact Nat.sub_le_sub_right hroom53 _)
                                    clear hr53 hC53 hroom53 hi053 hsz53 hc53
                                    have KY53 := Aside0.mk hy53
                                    have KA53 := Aside0.mk hA53
                                    clear hy53 hA53
                                    replace q53 := eq_true q53
                                    go_wp2
                                    repeat (go_quiet (fail); try go_wp2)
                                    go_roundg kj36
                                    case measure => have := HJ5.out; have := HK2.out; have := HJ10.out; have := HJ16.out; have := HJ36.out; omega
                                    case rel => exact ⟨(x0_2), (y135), (x11_2), H', ⟨by have := HJ5.out; have := HK2.out; have := HJ10.out; have := HJ16.out; have := HJ36.out; omega⟩, ⟨by (with_reducible repeat (first | apply Kd.V_alloc | apply Kd.V_drewN | apply Kd.V_drew)); exact HO_0.out⟩, ⟨by (with_reducible repeat (first | apply Kd.V_alloc | apply Kd.V_drewN | apply Kd.V_drew)); exact HO139.out⟩, ⟨by (with_reducible repeat (first | apply Kd.R_alloc | apply Kd.R_drewN | apply Kd.R_drew)); exact HO_11.out⟩, ⟨by repeat (first | (with_reducible first | exact HB.out | apply below_alloc | apply pw_below_drewN | apply below_drew1) | exact HB.out)⟩⟩
                                · rw [if_neg c46] at H
                                  exact absurd H (by simp)
                              · rw [if_neg c45] at H
                                exact absurd H (by simp)
                            · replace c44 := Bool.eq_false_iff.mpr c44
                              subst c44
                              have H1 : (if 0 < (x0_2.length : Int) then (if 1 ≤ (x0_2.length : Int) then ((some (x0_2.drop 1 : List Int)).bind fun y144 => (if 1 ≤ (x1_2.length : Int) then ((some (x1_2.drop 1 : List Int)).bind fun y149 => (if a4 = true then (if x11_2.length < 17592186044416 then (set_merge.l0 kj36 y144 y149 a2 a3 a4 (x11_2 ++ [rd x0_2 0])) else (none)) else (set_merge.l0 kj36 y144 y149 a2 a3 a4 x11_2))) else (none))) else (none)) else (none)) = some r := by rw [if_neg (show ¬ (false = true) by decide)] at H; exact H
                              clear H
                              have H := H1
                              clear H1
                              by_cases c54 : 0 < (x0_2.length : Int)
                              · rw [if_pos c54] at H
                                have c54b0 : decide (0 < (x0_2.length : Int)) = true := decide_eq_true c54
                                have c54b1 : decide (0 < x0_2.length) = true := decide_eq_true (by omega)
                                clear c54
                                by_cases c55 : 1 ≤ (x0_2.length : Int)
                                · rw [if_pos c55] at H
                                  have c55b0 := eq_true c55
                                  have c55b1 : decide (1 ≤ (x0_2.length : Int)) = true := decide_eq_true c55
                                  clear c55
                                  obtain ⟨y144, hy144⟩ : ∃ y_ : List Int, y_ = (x0_2.drop 1) := ⟨_, rfl⟩
                                  replace H : (if 1 ≤ (x1_2.length : Int) then ((some (x1_2.drop 1 : List Int)).bind fun y149 => (if a4 = true then (if x11_2.length < 17592186044416 then (set_merge.l0 kj36 y144 y149 a2 a3 a4 (x11_2 ++ [rd x0_2 0])) else (none)) else (set_merge.l0 kj36 y144 y149 a2 a3 a4 x11_2))) else (none)) = some r := by first | (rw [hy144]; with_reducible exact H) | (have H2_ := (Option.bind_some _ _).symm.trans H; rw [hy144]; with_reducible exact H2_) | (have H2_ := (Option.bind_some _ _).symm.trans H; with_reducible exact H2_) | with_reducible exact H | (rw [hy144]; exact H) | exact H
                                  have Ny144 := Aside0.mk hy144
                                  clear hy144
                                  by_cases c56 : 1 ≤ (x1_2.length : Int)
                                  · rw [if_pos c56] at H
                                    have c56b0 := eq_true c56
                                    have c56b1 : decide (1 ≤ (x1_2.length : Int)) = true := decide_eq_true c56
                                    clear c56
                                    obtain ⟨y149, hy149⟩ : ∃ y_ : List Int, y_ = (x1_2.drop 1) := ⟨_, rfl⟩
                                    replace H : (if a4 = true then (if x11_2.length < 17592186044416 then (set_merge.l0 kj36 y144 y149 a2 a3 a4 (x11_2 ++ [rd x0_2 0])) else (none)) else (set_merge.l0 kj36 y144 y149 a2 a3 a4 x11_2)) = some r := by first | (rw [hy149]; with_reducible exact H) | (have H2_ := (Option.bind_some _ _).symm.trans H; rw [hy149]; with_reducible exact H2_) | (have H2_ := (Option.bind_some _ _).symm.trans H; with_reducible exact H2_) | with_reducible exact H | (rw [hy149]; exact H) | exact H
                                    have Ny149 := Aside0.mk hy149
                                    clear hy149
                                    by_cases c57 : a4 = true
                                    · subst c57
                                      have H1 : (if x11_2.length < 17592186044416 then (set_merge.l0 kj36 y144 y149 a2 a3 true (x11_2 ++ [rd x0_2 0])) else (none)) = some r := by rw [if_pos rfl] at H; exact H
                                      clear H
                                      have H := H1
                                      clear H1
                                      by_cases c58 : x11_2.length < 17592186044416
                                      · rw [if_pos c58] at H
                                        have LMc58 := Aside0.mk c58
                                        clear c58
                                        obtain ⟨y154, hy154⟩ : ∃ y_ : List Int, y_ = (x11_2 ++ [rd x0_2 0]) := ⟨_, rfl⟩
                                        replace H : (set_merge.l0 kj36 y144 y149 a2 a3 true y154) = some r := by first | (rw [hy154]; with_reducible exact H) | (have H2_ := (Option.bind_some _ _).symm.trans H; rw [hy154]; with_reducible exact H2_) | (have H2_ := (Option.bind_some _ _).symm.trans H; with_reducible exact H2_) | with_reducible exact H | (rw [hy154]; exact H) | exact H
                                        have Ny154 := Aside0.mk hy154
                                        clear hy154
                                        have H' := Aside0.mk H
                                        clear H
                                        obtain ⟨Ao59, co59, eo59⟩ := Kd.V_slice HO_0.out
                                        subst eo59
                                        have p143 : 0 ≤ (0 : Int) := (by omega)
                                        have q143 : 0 < (x0_2.length : Int) := of_decide_eq_true (by first | (with_reducible assumption) | assumption)
                                        obtain ⟨ad143, e143, hx143_0⟩ := Kd.at_int (Kd.V_reads' HO_0.out).2.2 0 p143 q143
                                        cases e143
                                        have qi143 : (0 < x0_2.length) = True := eq_true (by omega)
                                        (try rw [show ((0 : Int)).toNat = 0 from rfl] at hx143_0)
                                        (try rw [Addr.add_zero'] at hx143_0)
                                        replace p143 := eq_true p143
                                        replace q143 := eq_true q143
                                        have q60 : (1 : Int) ≤ ((x0_2.length : Int) : Int) := of_decide_eq_true (by first | (with_reducible assumption) | assumption)
                                        obtain ⟨i060, hi060, _, hsz60, _⟩ := info_parts info3
                                        have hroom60 : x0_2.length ≤ co59 := (Kd.V_reads' HO_0.out).2.1
                                        have hC60 : Kd.F (Kd.int .i64) _ _ (some ad143) x0_2.length x0_2 := (Kd.V_at (base := w.heap.size) HO_0.out).2.2
                                        have hcut60 := cut_from (P := Tryz.prog) 28 3 .i64 Tryz.underlying28 hi060 1 hsz60 (some ad143) x0_2.length co59 1 (by omega) q60
                                        have hr60 := Kd.F_cut (m := (1 : Int).toNat) (c := co59) hC60 (by omega) hroom60
                                        obtain ⟨A60, hA60⟩ : ∃ A1, A1 = (if co59 = (1 : Int).toNat then (some ad143) else ((some ad143) : Option Addr).map (·.add ((1 : Int).toNat * 1))) := ⟨_, rfl⟩
                                        obtain ⟨c60, hc60⟩ : ∃ c1, c1 = co59 - (1 : Int).toNat := ⟨_, rfl⟩
                                        have hy60 : y144.length = x0_2.length - (1 : Int).toNat := (by rw [Ny144.out, List.length_drop] <;> omega)
                                        rw [show (x0_2).drop (1 : Int).toNat = y144 from Ny144.out.symm] at hr60
                                        replace hr60 : Kd.F (Kd.int .i64) _ _ A60 y144.length y144 := (by rw [hA60]; exact hr60)
                                        rw [← hy60, ← hA60, ← hc60] at hcut60
                                        have HO148 := Aside0.mk (show Kd.V (Kd.int .i64) 3 _ w.heap.size _ (.slice A60 y144.length c60) y144 from Kd.V_mk (by rw [hy60, hc60]; exact Nat.sub_le_sub_right hroom60 _) hr60)
                                        have HC148 := Aside0.mk (show y144.length ≤ c60 from by rw [hy60, hc60]; exact Nat.sub_le_sub_right hroom60 _)
                                        clear hr60 hC60 hroom60 hi060 hsz60 hc60
                                        have KY60 := Aside0.mk hy60
                                        have KA60 := Aside0.mk hA60
                                        clear hy60 hA60
                                        replace q60 := eq_true q60
                                        obtain ⟨Ao62, co62, eo62⟩ := Kd.V_slice HO_1.out
                                        subst eo62
                                        have q61 : (1 : Int) ≤ ((x1_2.length : Int) : Int) := of_decide_eq_true (by first | (with_reducible assumption) | assumption)
                                        obtain ⟨i061, hi061, _, hsz61, _⟩ := info_parts info3
                                        have hroom61 : x1_2.length ≤ co62 := (Kd.V_reads' HO_1.out).2.1
                                        have hC61 : Kd.F (Kd.int .i64) _ _ Ao62 x1_2.length x1_2 := (Kd.V_at (base := w.heap.size) HO_1.out).2.2
                                        have hcut61 := cut_from (P := Tryz.prog) 28 3 .i64 Tryz.underlying28 hi061 1 hsz61 Ao62 x1_2.length co62 1 (by omega) q61
                                        have hr61 := Kd.F_cut (m := (1 : Int).toNat) (c := co62) hC61 (by omega) hroom61
                                        obtain ⟨A61, hA61⟩ : ∃ A1, A1 = (if co62 = (1 : Int).toNat then Ao62 else (Ao62 : Option Addr).map (·.add ((1 : Int).toNat * 1))) := ⟨_, rfl⟩
                                        obtain ⟨c61, hc61⟩ : ∃ c1, c1 = co62 - (1 : Int).toNat := ⟨_, rfl⟩
                                        have hy61 : y149.length = x1_2.length - (1 : Int).toNat := (by rw [Ny149.out, List.length_drop] <;> omega)
                                        rw [show (x1_2).drop (1 : Int).toNat = y149 from Ny149.out.symm] at hr61
                                        replace hr61 : Kd.F (Kd.int .i64) _ _ A61 y149.length y149 := (by rw [hA61]; exact hr61)
                                        rw [← hy61, ← hA61, ← hc61] at hcut61
                                        have HO153 := Aside0.mk (show Kd.V (Kd.int .i64) 3 _ w.heap.size _ (.slice A61 y149.length c61) y149 from Kd.V_mk (by rw [hy61, hc61]; exact Nat.sub_le_sub_right hroom61 _) hr61)
                                        have HC153 := Aside0.mk (show y149.length ≤ c61 from by rw [hy61, hc61]; exact Nat.sub_le_sub_right hroom61 _)
                                        clear hr61 hC61 hroom61 hi061 hsz61 hc61
                                        have KY61 := Aside0.mk hy61
                                        have KA61 := Aside0.mk hA61
                                        clear hy61 hA61
                                        replace q61 := eq_true q61
                                        go_wp2_with (first | ((with_reducible refine gate_builtin (b := .append) (xs := #[.tmp 82, .tmp 84]) rfl ?_); (try (refine gate_guard (by rfl) ?_; dsimp only)); at_builtin; refine Kd.R_append (Kd.int .i64) (w0 := w) w.heap.size rfl (.tmp 82) (.tmp 84) 28 3 (.int .i64 0) 8 rfl Tryz.underlying28 info3 rfl (by decide) (by omega) u11 x11_2 (rd x0_2 0) [.int .i64 (rd x0_2 0)] (fun k_ => (w.heap.size ≤ k_)) (fun _ => False) rfl rfl ?aP (fun _ hk => hk.elim) ?aF ?aO ?aB ?aS ?aL ?_; (case aP => exact rfl); (case aB => exact (by repeat (first | (with_reducible first | exact HB.out | apply below_alloc | apply pw_below_drewN | apply below_drew1) | exact HB.out))); (case aF => exact (fun k_ hk => (Nat.le_trans (below_size (by repeat (first | (with_reducible first | exact HB.out | apply below_alloc | apply pw_below_drewN | apply below_drew1) | exact HB.out))) hk))); (case aO => exact (by (with_reducible repeat (first | apply Kd.R_alloc | apply Kd.R_drewN | apply Kd.R_drew)); exact HO_11.out)); (case aS => exact (below_size (by repeat (first | (with_reducible first | exact HB.out | apply below_alloc | apply pw_below_drewN | apply below_drew1) | exact HB.out)))); (case aL => have := LMc58.out; omega); intro v155 w63 ho hb hg hat; rw [← Ny154.out] at ho; have n0_ := Aside0.mk (Kd.V_afterv (ok := (fun k_ => ((P0_ k_ ∨ P1_ k_) ∨ w.heap.size ≤ k_))) (by (with_reducible repeat (first | apply Kd.V_alloc | apply Kd.V_drewN | apply Kd.V_drew)); exact HO_0.out) hg hat); have n1_ := Aside0.mk (Kd.V_afterv (ok := (fun k_ => ((P0_ k_ ∨ P1_ k_) ∨ w.heap.size ≤ k_))) (by (with_reducible repeat (first | apply Kd.V_alloc | apply Kd.V_drewN | apply Kd.V_drew)); exact HO_1.out) hg hat); have n2_ := Aside0.mk (Kd.V_afterv (ok := (fun k_ => ((P0_ k_ ∨ P1_ k_) ∨ w.heap.size ≤ k_))) (by (with_reducible repeat (first | apply Kd.V_alloc | apply Kd.V_drewN | apply Kd.V_drew)); exact HO148.out) hg hat); have n3_ := Aside0.mk (Kd.V_afterv (ok := (fun k_ => ((P0_ k_ ∨ P1_ k_) ∨ w.heap.size ≤ k_))) (by (with_reducible repeat (first | apply Kd.V_alloc | apply Kd.V_drewN | apply Kd.V_drew)); exact HO153.out) hg hat); have n4_ := Aside0.mk (hb); have n5_ := Aside0.mk (ho); clear HO_0; clear HO_1; clear HO148; clear HO153; clear HB; clear HO_11; have HO_0 := n0_; have HO_1 := n1_; have HO148 := n2_; have HO153 := n3_; have HB := n4_; have HO156 := n5_; clear n0_ n1_ n2_ n3_ n4_ n5_; clear ho hb hg hat))
                                        repeat (go_quiet (first | ((with_reducible refine gate_builtin (b := .append) (xs := #[.tmp 82, .tmp 84]) rfl ?_); (try (refine gate_guard (by rfl) ?_; dsimp only)); at_builtin; refine Kd.R_append (Kd.int .i64) (w0 := w) w.heap.size rfl (.tmp 82) (.tmp 84) 28 3 (.int .i64 0) 8 rfl Tryz.underlying28 info3 rfl (by decide) (by omega) u11 x11_2 (rd x0_2 0) [.int .i64 (rd x0_2 0)] (fun k_ => (w.heap.size ≤ k_)) (fun _ => False) rfl rfl ?aP (fun _ hk => hk.elim) ?aF ?aO ?aB ?aS ?aL ?_; (case aP => exact rfl); (case aB => exact (by repeat (first | (with_reducible first | exact HB.out | apply below_alloc | apply pw_below_drewN | apply below_drew1) | exact HB.out))); (case aF => exact (fun k_ hk => (Nat.le_trans (below_size (by repeat (first | (with_reducible first | exact HB.out | apply below_alloc | apply pw_below_drewN | apply below_drew1) | exact HB.out))) hk))); (case aO => exact (by (with_reducible repeat (first | apply Kd.R_alloc | apply Kd.R_drewN | apply Kd.R_drew)); exact HO_11.out)); (case aS => exact (below_size (by repeat (first | (with_reducible first | exact HB.out | apply below_alloc | apply pw_below_drewN | apply below_drew1) | exact HB.out)))); (case aL => have := LMc58.out; omega); intro v155 w63 ho hb hg hat; rw [← Ny154.out] at ho; have n0_ := Aside0.mk (Kd.V_afterv (ok := (fun k_ => ((P0_ k_ ∨ P1_ k_) ∨ w.heap.size ≤ k_))) (by (with_reducible repeat (first | apply Kd.V_alloc | apply Kd.V_drewN | apply Kd.V_drew)); exact HO_0.out) hg hat); have n1_ := Aside0.mk (Kd.V_afterv (ok := (fun k_ => ((P0_ k_ ∨ P1_ k_) ∨ w.heap.size ≤ k_))) (by (with_reducible repeat (first | apply Kd.V_alloc | apply Kd.V_drewN | apply Kd.V_drew)); exact HO_1.out) hg hat); have n2_ := Aside0.mk (Kd.V_afterv (ok := (fun k_ => ((P0_ k_ ∨ P1_ k_) ∨ w.heap.size ≤ k_))) (by (with_reducible repeat (first | apply Kd.V_alloc | apply Kd.V_drewN | apply Kd.V_drew)); exact HO148.out) hg hat); have n3_ := Aside0.mk (Kd.V_afterv (ok := (fun k_ => ((P0_ k_ ∨ P1_ k_) ∨ w.heap.size ≤ k_))) (by (with_reducible repeat (first | apply Kd.V_alloc | apply Kd.V_drewN | apply Kd.V_drew)); exact HO153.out) hg hat); have n4_ := Aside0.mk (hb); have n5_ := Aside0.mk (ho); clear HO_0; clear HO_1; clear HO148; clear HO153; clear HB; clear HO_11; have HO_0 := n0_; have HO_1 := n1_; have HO148 := n2_; have HO153 := n3_; have HB := n4_; have HO156 := n5_; clear n0_ n1_ n2_ n3_ n4_ n5_; clear ho hb hg hat)); try go_wp2_with (first | ((with_reducible refine gate_builtin (b := .append) (xs := #[.tmp 82, .tmp 84]) rfl ?_); (try (refine gate_guard (by rfl) ?_; dsimp only)); at_builtin; refine Kd.R_append (Kd.int .i64) (w0 := w) w.heap.size rfl (.tmp 82) (.tmp 84) 28 3 (.int .i64 0) 8 rfl Tryz.underlying28 info3 rfl (by decide) (by omega) u11 x11_2 (rd x0_2 0) [.int .i64 (rd x0_2 0)] (fun k_ => (w.heap.size ≤ k_)) (fun _ => False) rfl rfl ?aP (fun _ hk => hk.elim) ?aF ?aO ?aB ?aS ?aL ?_; (case aP => exact rfl); (case aB => exact (by repeat (first | (with_reducible first | exact HB.out | apply below_alloc | apply pw_below_drewN | apply below_drew1) | exact HB.out))); (case aF => exact (fun k_ hk => (Nat.le_trans (below_size (by repeat (first | (with_reducible first | exact HB.out | apply below_alloc | apply pw_below_drewN | apply below_drew1) | exact HB.out))) hk))); (case aO => exact (by (with_reducible repeat (first | apply Kd.R_alloc | apply Kd.R_drewN | apply Kd.R_drew)); exact HO_11.out)); (case aS => exact (below_size (by repeat (first | (with_reducible first | exact HB.out | apply below_alloc | apply pw_below_drewN | apply below_drew1) | exact HB.out)))); (case aL => have := LMc58.out; omega); intro v155 w63 ho hb hg hat; rw [← Ny154.out] at ho; have n0_ := Aside0.mk (Kd.V_afterv (ok := (fun k_ => ((P0_ k_ ∨ P1_ k_) ∨ w.heap.size ≤ k_))) (by (with_reducible repeat (first | apply Kd.V_alloc | apply Kd.V_drewN | apply Kd.V_drew)); exact HO_0.out) hg hat); have n1_ := Aside0.mk (Kd.V_afterv (ok := (fun k_ => ((P0_ k_ ∨ P1_ k_) ∨ w.heap.size ≤ k_))) (by (with_reducible repeat (first | apply Kd.V_alloc | apply Kd.V_drewN | apply Kd.V_drew)); exact HO_1.out) hg hat); have n2_ := Aside0.mk (Kd.V_afterv (ok := (fun k_ => ((P0_ k_ ∨ P1_ k_) ∨ w.heap.size ≤ k_))) (by (with_reducible repeat (first | apply Kd.V_alloc | apply Kd.V_drewN | apply Kd.V_drew)); exact HO148.out) hg hat); have n3_ := Aside0.mk (Kd.V_afterv (ok := (fun k_ => ((P0_ k_ ∨ P1_ k_) ∨ w.heap.size ≤ k_))) (by (with_reducible repeat (first | apply Kd.V_alloc | apply Kd.V_drewN | apply Kd.V_drew)); exact HO153.out) hg hat); have n4_ := Aside0.mk (hb); have n5_ := Aside0.mk (ho); clear HO_0; clear HO_1; clear HO148; clear HO153; clear HB; clear HO_11; have HO_0 := n0_; have HO_1 := n1_; have HO148 := n2_; have HO153 := n3_; have HB := n4_; have HO156 := n5_; clear n0_ n1_ n2_ n3_ n4_ n5_; clear ho hb hg hat)))
                                        go_roundg kj36
                                        case measure => have := HJ5.out; have := HK2.out; have := HJ10.out; have := HJ16.out; have := HJ36.out; omega
                                        case rel => exact ⟨(y144), (y149), (y154), H', ⟨by have := HJ5.out; have := HK2.out; have := HJ10.out; have := HJ16.out; have := HJ36.out; omega⟩, ⟨by (with_reducible repeat (first | apply Kd.V_alloc | apply Kd.V_drewN | apply Kd.V_drew)); exact HO148.out⟩, ⟨by (with_reducible repeat (first | apply Kd.V_alloc | apply Kd.V_drewN | apply Kd.V_drew)); exact HO153.out⟩, ⟨by (with_reducible repeat (first | apply Kd.R_alloc | apply Kd.R_drewN | apply Kd.R_drew)); exact HO156.out⟩, ⟨by repeat (first | (with_reducible first | exact HB.out | apply below_alloc | apply pw_below_drewN | apply below_drew1) | exact HB.out)⟩⟩
                                      · rw [if_neg c58] at H
                                        exact absurd H (by simp)
                                    · replace c57 := Bool.eq_false_iff.mpr c57
                                      subst c57
                                      have H1 : (set_merge.l0 kj36 y144 y149 a2 a3 false x11_2) = some r := by rw [if_neg (show ¬ (false = true) by decide)] at H; exact H
                                      clear H
                                      have H := H1
                                      clear H1
                                      have H' := Aside0.mk H
                                      clear H
                                      obtain ⟨Ao64, co64, eo64⟩ := Kd.V_slice HO_0.out
                                      subst eo64
                                      have p143 : 0 ≤ (0 : Int) := (by omega)
                                      have q143 : 0 < (x0_2.length : Int) := of_decide_eq_true (by first | (with_reducible assumption) | assumption)
                                      obtain ⟨ad143, e143, hx143_0⟩ := Kd.at_int (Kd.V_reads' HO_0.out).2.2 0 p143 q143
                                      cases e143
                                      have qi143 : (0 < x0_2.length) = True := eq_true (by omega)
                                      (try rw [show ((0 : Int)).toNat = 0 from rfl] at hx143_0)
                                      (try rw [Addr.add_zero'] at hx143_0)
                                      replace p143 := eq_true p143
                                      replace q143 := eq_true q143
                                      have q65 : (1 : Int) ≤ ((x0_2.length : Int) : Int) := of_decide_eq_true (by first | (with_reducible assumption) | assumption)
                                      obtain ⟨i065, hi065, _, hsz65, _⟩ := info_parts info3
                                      have hroom65 : x0_2.length ≤ co64 := (Kd.V_reads' HO_0.out).2.1
                                      have hC65 : Kd.F (Kd.int .i64) _ _ (some ad143) x0_2.length x0_2 := (Kd.V_at (base := w.heap.size) HO_0.out).2.2
                                      have hcut65 := cut_from (P := Tryz.prog) 28 3 .i64 Tryz.underlying28 hi065 1 hsz65 (some ad143) x0_2.length co64 1 (by omega) q65
                                      have hr65 := Kd.F_cut (m := (1 : Int).toNat) (c := co64) hC65 (by omega) hroom65
                                      obtain ⟨A65, hA65⟩ : ∃ A1, A1 = (if co64 = (1 : Int).toNat then (some ad143) else ((some ad143) : Option Addr).map (·.add ((1 : Int).toNat * 1))) := ⟨_, rfl⟩
                                      obtain ⟨c65, hc65⟩ : ∃ c1, c1 = co64 - (1 : Int).toNat := ⟨_, rfl⟩
                                      have hy65 : y144.length = x0_2.length - (1 : Int).toNat := (by rw [Ny144.out, List.length_drop] <;> omega)
                                      rw [show (x0_2).drop (1 : Int).toNat = y144 from Ny144.out.symm] at hr65
                                      replace hr65 : Kd.F (Kd.int .i64) _ _ A65 y144.length y144 := (by rw [hA65]; exact hr65)
                                      rw [← hy65, ← hA65, ← hc65] at hcut65
                                      have HO148 := Aside0.mk (show Kd.V (Kd.int .i64) 3 _ w.heap.size _ (.slice A65 y144.length c65) y144 from Kd.V_mk (by rw [hy65, hc65]; exact Nat.sub_le_sub_right hroom65 _) hr65)
                                      have HC148 := Aside0.mk (show y144.length ≤ c65 from by rw [hy65, hc65]; exact Nat.sub_le_sub_right hroom65 _)
                                      clear hr65 hC65 hroom65 hi065 hsz65 hc65
                                      have KY65 := Aside0.mk hy65
                                      have KA65 := Aside0.mk hA65
                                      clear hy65 hA65
                                      replace q65 := eq_true q65
                                      obtain ⟨Ao67, co67, eo67⟩ := Kd.V_slice HO_1.out
                                      subst eo67
                                      have q66 : (1 : Int) ≤ ((x1_2.length : Int) : Int) := of_decide_eq_true (by first | (with_reducible assumption) | assumption)
                                      obtain ⟨i066, hi066, _, hsz66, _⟩ := info_parts info3
                                      have hroom66 : x1_2.length ≤ co67 := (Kd.V_reads' HO_1.out).2.1
                                      have hC66 : Kd.F (Kd.int .i64) _ _ Ao67 x1_2.length x1_2 := (Kd.V_at (base := w.heap.size) HO_1.out).2.2
                                      have hcut66 := cut_from (P := Tryz.prog) 28 3 .i64 Tryz.underlying28 hi066 1 hsz66 Ao67 x1_2.length co67 1 (by omega) q66
                                      have hr66 := Kd.F_cut (m := (1 : Int).toNat) (c := co67) hC66 (by omega) hroom66
                                      obtain ⟨A66, hA66⟩ : ∃ A1, A1 = (if co67 = (1 : Int).toNat then Ao67 else (Ao67 : Option Addr).map (·.add ((1 : Int).toNat * 1))) := ⟨_, rfl⟩
                                      obtain ⟨c66, hc66⟩ : ∃ c1, c1 = co67 - (1 : Int).toNat := ⟨_, rfl⟩
                                      have hy66 : y149.length = x1_2.length - (1 : Int).toNat := (by rw [Ny149.out, List.length_drop] <;> omega)
                                      rw [show (x1_2).drop (1 : Int).toNat = y149 from Ny149.out.symm] at hr66
                                      replace hr66 : Kd.F (Kd.int .i64) _ _ A66 y149.length y149 := (by rw [hA66]; exact hr66)
                                      rw [← hy66, ← hA66, ← hc66] at hcut66
                                      have HO153 := Aside0.mk (show Kd.V (Kd.int .i64) 3 _ w.heap.size _ (.slice A66 y149.length c66) y149 from Kd.V_mk (by rw [hy66, hc66]; exact Nat.sub_le_sub_right hroom66 _) hr66)
                                      have HC153 := Aside0.mk (show y149.length ≤ c66 from by rw [hy66, hc66]; exact Nat.sub_le_sub_right hroom66 _)
                                      clear hr66 hC66 hroom66 hi066 hsz66 hc66
                                      have KY66 := Aside0.mk hy66
                                      have KA66 := Aside0.mk hA66
                                      clear hy66 hA66
                                      replace q66 := eq_true q66
                                      go_wp2
                                      repeat (go_quiet (fail); try go_wp2)
                                      go_roundg kj36
                                      case measure => have := HJ5.out; have := HK2.out; have := HJ10.out; have := HJ16.out; have := HJ36.out; omega
                                      case rel => exact ⟨(y144), (y149), (x11_2), H', ⟨by have := HJ5.out; have := HK2.out; have := HJ10.out; have := HJ16.out; have := HJ36.out; omega⟩, ⟨by (with_reducible repeat (first | apply Kd.V_alloc | apply Kd.V_drewN | apply Kd.V_drew)); exact HO148.out⟩, ⟨by (with_reducible repeat (first | apply Kd.V_alloc | apply Kd.V_drewN | apply Kd.V_drew)); exact HO153.out⟩, ⟨by (with_reducible repeat (first | apply Kd.R_alloc | apply Kd.R_drewN | apply Kd.R_drew)); exact HO_11.out⟩, ⟨by repeat (first | (with_reducible first | exact HB.out | apply below_alloc | apply pw_below_drewN | apply below_drew1) | exact HB.out)⟩⟩
                                  · rw [if_neg c56] at H
                                    exact absurd H (by simp)
                                · rw [if_neg c55] at H
                                  exact absurd H (by simp)
                              · rw [if_neg c54] at H
                                exact absurd H (by simp)
                · replace c16 := Bool.eq_false_iff.mpr c16
                  subst c16
                  have H1 : (some x11_2) = some r := by rw [if_neg (show ¬ (false = true) by decide)] at H; exact H
                  clear H
                  have H := H1
                  clear H1
                  obtain rfl := Option.some.inj H
                  go_wp2
                  repeat (go_quiet (fail); try go_wp2)
                  go_ret
                  exact ⟨_, by first | rfl | (simp [errW_none, errW_some] <;> rfl) | (simp [*, errW_none, errW_some] <;> rfl), by (with_reducible repeat (first | apply Kd.R_alloc | apply Kd.R_drewN | apply Kd.R_drew)); exact HO_11.out, by repeat (first | (with_reducible first | exact HB.out | apply below_alloc | apply pw_below_drewN | apply below_drew1) | exact HB.out)⟩

end Go.Proofs.YtmcloifhgbehdaaGreatDoor.PBasesSteps
