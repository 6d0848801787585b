/- Merged by merge.py out of this session's own texts: part 1. -/
import Derived.Test.YtmcloifhgbehdaaGreatDoorPBasesStepsx0
import Derived.Shelf.Abstract
import Derived.Test.YtmcloifhgbehdaaGreatDoorPBasesStepsx1
import Derived.Test.YtmcloifhgbehdaaGreatDoorPBasesStepsx10
import Derived.Test.YtmcloifhgbehdaaGreatDoorPBasesStepsx13
import Derived.Test.YtmcloifhgbehdaaGreatDoorPBasesStepsx3
import Derived.BigRegion
import Derived.Laws.CopyOwn
import Derived.Deep.RegionLaw
import Derived.Lib.LazyBuf
import Derived.BigQuiet
namespace Go.Proofs.YtmcloifhgbehdaaGreatDoor
open Go.RowKit Go.Proofs.YtmcloifhgbehdaaGreatDoorW.PrintWords Go.Proofs.YtmcloifhgbehdaaGreatDoorW.PrintLast Go.Proofs.YtmcloifhgbehdaaGreatDoorW.PrintMore Go.Proofs.YtmcloifhgbehdaaGreatDoor.PBasesSteps
set_option linter.unusedVariables false
set_option linter.unusedSimpArgs false
/-- the first number below n, from k on, at which p says yes; -1. -/
def fidx (p : Nat → Bool) : Nat → Nat → Int
  | 0, _ => -1
  | d + 1, k => if p k = true then (k : Int) else fidx p d (k + 1)
theorem fidx_range (p : Nat → Bool) : ∀ d k, fidx p d k = -1 ∨ ((k : Int) ≤ fidx p d k ∧ fidx p d k < k + d)
  | 0, k => .inl rfl
  | d + 1, k => by
    unfold fidx
    split
    · right; omega
    · rcases fidx_range p d (k + 1) with h | ⟨h1, h2⟩
      · exact .inl h
      · right; omega
theorem fidx_some (p : Nat → Bool) : ∀ d k, 0 ≤ fidx p d k → ∃ j, k ≤ j ∧ j < k + d ∧ p j = true ∧ fidx p d k = j ∧ ∀ i, k ≤ i → i < j → p i = false
  | 0, k, h => by simp [fidx] at h
  | d + 1, k, h => by
    unfold fidx at h ⊢
    by_cases hp : p k = true
    · rw [if_pos hp]; exact ⟨k, by omega, by omega, hp, rfl, fun i h1 h2 => by omega⟩
    · rw [if_neg hp] at h ⊢
      obtain ⟨j, h1, h2, h3, h4, h5⟩ := fidx_some p d (k + 1) h
      refine ⟨j, by omega, by omega, h3, h4, fun i h6 h7 => ?_⟩
      by_cases e : i = k
      · subst e; simpa using hp
      · exact h5 i (by omega) h7
theorem fidx_any (p : Nat → Bool) (n : Nat) : decide (0 ≤ fidx p n 0) = (List.range n).any p := by
  rw [Bool.eq_iff_iff, decide_eq_true_iff, List.any_eq_true]
  constructor
  · intro h
    obtain ⟨j, _, h2, h3, _⟩ := fidx_some p n 0 h
    exact ⟨j, by simpa using h2, h3⟩
  · rintro ⟨j, h1, h2⟩
    rw [List.mem_range] at h1
    rcases fidx_range p n 0 with h | ⟨h, _⟩
    · exfalso
      suffices ∀ d k, k ≤ j → j < k + d → fidx p d k ≠ -1 by exact this n 0 (by omega) (by omega) h
      intro d
      induction d with
      | zero => intro k _ _; omega
      | succ d ih =>
        intro k h3 h4
        unfold fidx
        split
        · omega
        · rename_i hk
          by_cases e : j = k
          · subst e; exact absurd h2 hk
          · exact ih (k + 1) (by omega) (by omega)
    · simpa using h
/-- what is asked of a function value: at each element, in every world in which all that lay lies, it says p, and turns nothing that lay. -/
def Says (g : Nat) (lb : Array Value) (el : Nat → Value) (p : Nat → Bool) (n : Nat) (w : World) : Prop :=
  ∀ (W : World) (j : Nat), j < n → Below w.heap.size w W → Calls Tryz.prog g (#[el j] ++ lb) W fun e w' => e = .returned (.bool (p j)) ∧ Below W.heap.size W w'
theorem Says.later {g : Nat} {lb : Array Value} {el : Nat → Value} {p : Nat → Bool} {n : Nat} {w W : World} (h : Says g lb el p n w) (hb : Below w.heap.size w W) : Says g lb el p n W :=
  fun W' j hj hb' => h W' j hj (hb.trans (hb'.mono hb.size))
theorem below_next {w W w' : World} (h : Below w.heap.size w W) (h' : Below W.heap.size W w') : Below w.heap.size w w' := h.trans (h'.mono h.size)
set_option maxHeartbeats 2000000 in
theorem IndexFunc_ints (g : Nat) (lb : Array Value) (p : Nat → Bool) (el : Nat → Value) (eg : ∀ args w, (callFunc g args).run Tryz.prog w = .ok (.enter g args) w) (A : Option Addr) (n c : Nat) (w : World)
    (hp : Says g lb el p n w) (hbig : n ≤ 9223372036854775807) (hc : ∀ j, j < n → ∃ ad, A = some ad ∧ w.cell? (ad.add j) = some (el j)) :
    Calls Tryz.prog 122 #[.slice A n c, .func (.func g) #[] lb] w fun e w' => e = .returned (.int .i64 (fidx p n 0)) ∧ Below w.heap.size w w' := by
  have HP := Aside0.mk hp
  have HC := Aside0.mk hc
  clear hp hc
  go_enter Tryz.func122, Tryz.ntmps122
  go_wp2
  go_loopg [5, 8] n (fun gg _ s8 wr => ∃ kk : Nat, kk ≤ n ∧ n - kk ≤ gg ∧ s8 = .int .i64 kk ∧ Aside0 (Below w.heap.size w wr) ∧ Aside0 (fidx p (n - kk) kk = fidx p n 0))
  case atStart => exact ⟨0, Nat.zero_le _, by omega, rfl, ⟨Below.refl _ _⟩, ⟨rfl⟩⟩
  case round =>
    obtain ⟨kk, hkk, hg, rfl, HB, HF⟩ := hrel
    by_cases hlt : kk < n
    · have hltz : (kk : Int) < (n : Int) := by omega
      obtain ⟨ad, rfl, hcell⟩ := HC.out kk hlt
      replace hcell := (HB.out.cell (World.block_lt_of_cell? w _ hcell)).trans hcell
      have hcall := Aside0.mk (fun W hW => HP.out W kk hlt hW)
      have e1 : n - kk = (n - (kk + 1)) + 1 := by omega
      have E1 := Aside0.mk e1
      clear e1
      cases hq : p kk with
      | true =>
        go_wp2_with fail
        refine (hcall.out _ HB.out).mono ?_
        rintro e w' ⟨rfl, hb'⟩
        rw [hq]
        have HQ := Aside0.mk hq
        clear hq
        go_wp2_with fail
        go_ret
        refine ⟨?_, below_next HB.out hb'⟩
        rw [← HF.out, E1.out]
        simp [fidx, HQ.out]
      | false =>
        go_wp2_with fail
        refine (hcall.out _ HB.out).mono ?_
        rintro e w' ⟨rfl, hb'⟩
        rw [hq]
        have HQ := Aside0.mk hq
        clear hq
        go_wp2_with fail
        go_roundg (n - (kk + 1))
        case measure => omega
        case rel =>
          refine ⟨kk + 1, by omega, by omega, by go_num, ⟨below_next HB.out hb'⟩, ⟨?_⟩⟩
          rw [← HF.out, E1.out]
          simp [fidx, HQ.out]
    · have hltz : ¬ (kk : Int) < (n : Int) := by omega
      have : kk = n := by omega
      subst this
      go_wp2
      go_ret
      refine ⟨?_, HB.out⟩
      rw [← HF.out]
      simp [fidx]
set_option maxHeartbeats 2000000 in
theorem ContainsFunc_ints (g : Nat) (lb : Array Value) (p : Nat → Bool) (el : Nat → Value) (eg : ∀ args w, (callFunc g args).run Tryz.prog w = .ok (.enter g args) w) (A : Option Addr) (n c : Nat) (w : World)
    (hp : Says g lb el p n w) (hbig : n ≤ 9223372036854775807) (hc : ∀ j, j < n → ∃ ad, A = some ad ∧ w.cell? (ad.add j) = some (el j)) :
    Calls Tryz.prog 201 #[.slice A n c, .func (.func g) #[] lb] w fun e w' => e = .returned (.bool ((List.range n).any p)) ∧ Below w.heap.size w w' := by
  rw [← fidx_any]
  obtain ⟨r, hr⟩ : ∃ r, fidx p n 0 = r := ⟨_, rfl⟩
  rw [hr]
  have HR := Aside0.mk hr
  clear hr
  have HP := Aside0.mk hp
  have HC := Aside0.mk hc
  clear hp hc
  go_enter Tryz.func201, Tryz.ntmps201
  go_wp2_with fail
  refine (IndexFunc_ints g lb p el eg A n c _ HP.out hbig HC.out).mono ?_
  rintro e w' ⟨rfl, hb⟩
  rw [HR.out]
  go_wp2_with fail
  go_ret
  exact ⟨rfl, hb⟩
set_option maxHeartbeats 2000000 in
theorem IndexFunc_lists (g : Nat) (lb : Array Value) (p : Nat → Bool) (el : Nat → Value) (eg : ∀ args w, (callFunc g args).run Tryz.prog w = .ok (.enter g args) w) (A : Option Addr) (n c : Nat) (w : World)
    (hp : Says g lb el p n w) (hbig : n ≤ 9223372036854775807) (hc : ∀ j, j < n → ∃ ad, A = some ad ∧ w.cell? (ad.add j) = some (el j)) :
    Calls Tryz.prog 75 #[.slice A n c, .func (.func g) #[] lb] w fun e w' => e = .returned (.int .i64 (fidx p n 0)) ∧ Below w.heap.size w w' := by
  have HP := Aside0.mk hp
  have HC := Aside0.mk hc
  clear hp hc
  go_enter Tryz.func75, Tryz.ntmps75
  go_wp2
  go_loopg [5, 8] n (fun gg _ s8 wr => ∃ kk : Nat, kk ≤ n ∧ n - kk ≤ gg ∧ s8 = .int .i64 kk ∧ Aside0 (Below w.heap.size w wr) ∧ Aside0 (fidx p (n - kk) kk = fidx p n 0))
  case atStart => exact ⟨0, Nat.zero_le _, by omega, rfl, ⟨Below.refl _ _⟩, ⟨rfl⟩⟩
  case round =>
    obtain ⟨kk, hkk, hg, rfl, HB, HF⟩ := hrel
    by_cases hlt : kk < n
    · have hltz : (kk : Int) < (n : Int) := by omega
      obtain ⟨ad, rfl, hcell⟩ := HC.out kk hlt
      replace hcell := (HB.out.cell (World.block_lt_of_cell? w _ hcell)).trans hcell
      have hcall := Aside0.mk (fun W hW => HP.out W kk hlt hW)
      have e1 : n - kk = (n - (kk + 1)) + 1 := by omega
      have E1 := Aside0.mk e1
      clear e1
      cases hq : p kk with
      | true =>
        go_wp2_with fail
        refine (hcall.out _ HB.out).mono ?_
        rintro e w' ⟨rfl, hb'⟩
        rw [hq]
        have HQ := Aside0.mk hq
        clear hq
        go_wp2_with fail
        go_ret
        refine ⟨?_, below_next HB.out hb'⟩
        rw [← HF.out, E1.out]
        simp [fidx, HQ.out]
      | false =>
        go_wp2_with fail
        refine (hcall.out _ HB.out).mono ?_
        rintro e w' ⟨rfl, hb'⟩
        rw [hq]
        have HQ := Aside0.mk hq
        clear hq
        go_wp2_with fail
        go_roundg (n - (kk + 1))
        case measure => omega
        case rel =>
          refine ⟨kk + 1, by omega, by omega, by go_num, ⟨below_next HB.out hb'⟩, ⟨?_⟩⟩
          rw [← HF.out, E1.out]
          simp [fidx, HQ.out]
    · have hltz : ¬ (kk : Int) < (n : Int) := by omega
      have : kk = n := by omega
      subst this
      go_wp2
      go_ret
      refine ⟨?_, HB.out⟩
      rw [← HF.out]
      simp [fidx]
set_option maxHeartbeats 2000000 in
theorem ContainsFunc_lists (g : Nat) (lb : Array Value) (p : Nat → Bool) (el : Nat → Value) (eg : ∀ args w, (callFunc g args).run Tryz.prog w = .ok (.enter g args) w) (A : Option Addr) (n c : Nat) (w : World)
    (hp : Says g lb el p n w) (hbig : n ≤ 9223372036854775807) (hc : ∀ j, j < n → ∃ ad, A = some ad ∧ w.cell? (ad.add j) = some (el j)) :
    Calls Tryz.prog 159 #[.slice A n c, .func (.func g) #[] lb] w fun e w' => e = .returned (.bool ((List.range n).any p)) ∧ Below w.heap.size w w' := by
  rw [← fidx_any]
  obtain ⟨r, hr⟩ : ∃ r, fidx p n 0 = r := ⟨_, rfl⟩
  rw [hr]
  have HR := Aside0.mk hr
  clear hr
  have HP := Aside0.mk hp
  have HC := Aside0.mk hc
  clear hp hc
  go_enter Tryz.func159, Tryz.ntmps159
  go_wp2_with fail
  refine (IndexFunc_lists g lb p el eg A n c _ HP.out hbig HC.out).mono ?_
  rintro e w' ⟨rfl, hb⟩
  rw [HR.out]
  go_wp2_with fail
  go_ret
  exact ⟨rfl, hb⟩
set_option maxHeartbeats 2000000 in
theorem IndexFunc_mats (g : Nat) (lb : Array Value) (p : Nat → Bool) (E : Nat → Nat → Value) (eg : ∀ args w, (callFunc g args).run Tryz.prog w = .ok (.enter g args) w) (A : Option Addr) (n c : Nat) (w : World)
    (hp : Says g lb (fun j => .agg #[E 0 j, E 1 j, E 2 j, E 3 j, E 4 j, E 5 j]) p n w) (hbig : n ≤ 9223372036854775807) (hc : ∀ j, j < n → ∃ ad, A = some ad ∧ w.cell? (ad.add (j * 6)) = some (E 0 j) ∧ w.cell? ⟨(ad.add (j * 6)).block, (ad.add (j * 6)).off + 1, none⟩ = some (E 1 j) ∧ w.cell? ⟨(ad.add (j * 6)).block, (ad.add (j * 6)).off + 2, none⟩ = some (E 2 j) ∧ w.cell? ⟨(ad.add (j * 6)).block, (ad.add (j * 6)).off + 3, none⟩ = some (E 3 j) ∧ w.cell? ⟨(ad.add (j * 6)).block, (ad.add (j * 6)).off + 4, none⟩ = some (E 4 j) ∧ w.cell? ⟨(ad.add (j * 6)).block, (ad.add (j * 6)).off + 5, none⟩ = some (E 5 j)) :
    Calls Tryz.prog 179 #[.slice A n c, .func (.func g) #[] lb] w fun e w' => e = .returned (.int .i64 (fidx p n 0)) ∧ Below w.heap.size w w' := by
  have HP := Aside0.mk hp
  have HC := Aside0.mk hc
  clear hp hc
  go_enter Tryz.func179, Tryz.ntmps179
  go_wp2
  go_loopg [5, 8] n (fun gg _ s8 wr => ∃ kk : Nat, kk ≤ n ∧ n - kk ≤ gg ∧ s8 = .int .i64 kk ∧ Aside0 (Below w.heap.size w wr) ∧ Aside0 (fidx p (n - kk) kk = fidx p n 0))
  case atStart => exact ⟨0, Nat.zero_le _, by omega, rfl, ⟨Below.refl _ _⟩, ⟨rfl⟩⟩
  case round =>
    obtain ⟨kk, hkk, hg, rfl, HB, HF⟩ := hrel
    by_cases hlt : kk < n
    · have hltz : (kk : Int) < (n : Int) := by omega
      obtain ⟨ad, rfl, h0, h1, h2, h3, h4, h5⟩ := HC.out kk hlt
      have hu25 := Tryz.underlying25
      replace h0 := (HB.out.cell (World.block_lt_of_cell? w _ h0)).trans h0
      replace h1 := (HB.out.cell (World.block_lt_of_cell? w _ h1)).trans h1
      replace h2 := (HB.out.cell (World.block_lt_of_cell? w _ h2)).trans h2
      replace h3 := (HB.out.cell (World.block_lt_of_cell? w _ h3)).trans h3
      replace h4 := (HB.out.cell (World.block_lt_of_cell? w _ h4)).trans h4
      replace h5 := (HB.out.cell (World.block_lt_of_cell? w _ h5)).trans h5
      have hcall := Aside0.mk (fun W hW => HP.out W kk hlt hW)
      have e1 : n - kk = (n - (kk + 1)) + 1 := by omega
      have E1 := Aside0.mk e1
      clear e1
      cases hq : p kk with
      | true =>
        go_wp2_with fail
        refine (hcall.out _ (by first | exact HB.out | exact below_drew HB.out)).mono ?_
        rintro e w' ⟨rfl, hb'⟩
        rw [hq]
        have HQ := Aside0.mk hq
        clear hq
        go_wp2_with fail
        go_ret
        refine ⟨?_, below_next HB.out hb'⟩
        rw [← HF.out, E1.out]
        simp [fidx, HQ.out]
      | false =>
        go_wp2_with fail
        refine (hcall.out _ (by first | exact HB.out | exact below_drew HB.out)).mono ?_
        rintro e w' ⟨rfl, hb'⟩
        rw [hq]
        have HQ := Aside0.mk hq
        clear hq
        go_wp2_with fail
        go_roundg (n - (kk + 1))
        case measure => omega
        case rel =>
          refine ⟨kk + 1, by omega, by omega, by go_num, ⟨below_next HB.out hb'⟩, ⟨?_⟩⟩
          rw [← HF.out, E1.out]
          simp [fidx, HQ.out]
    · have hltz : ¬ (kk : Int) < (n : Int) := by omega
      have : kk = n := by omega
      subst this
      go_wp2
      go_ret
      refine ⟨?_, HB.out⟩
      rw [← HF.out]
      simp [fidx]
set_option maxHeartbeats 2000000 in
theorem ContainsFunc_mats (g : Nat) (lb : Array Value) (p : Nat → Bool) (E : Nat → Nat → Value) (eg : ∀ args w, (callFunc g args).run Tryz.prog w = .ok (.enter g args) w) (A : Option Addr) (n c : Nat) (w : World)
    (hp : Says g lb (fun j => .agg #[E 0 j, E 1 j, E 2 j, E 3 j, E 4 j, E 5 j]) p n w) (hbig : n ≤ 9223372036854775807) (hc : ∀ j, j < n → ∃ ad, A = some ad ∧ w.cell? (ad.add (j * 6)) = some (E 0 j) ∧ w.cell? ⟨(ad.add (j * 6)).block, (ad.add (j * 6)).off + 1, none⟩ = some (E 1 j) ∧ w.cell? ⟨(ad.add (j * 6)).block, (ad.add (j * 6)).off + 2, none⟩ = some (E 2 j) ∧ w.cell? ⟨(ad.add (j * 6)).block, (ad.add (j * 6)).off + 3, none⟩ = some (E 3 j) ∧ w.cell? ⟨(ad.add (j * 6)).block, (ad.add (j * 6)).off + 4, none⟩ = some (E 4 j) ∧ w.cell? ⟨(ad.add (j * 6)).block, (ad.add (j * 6)).off + 5, none⟩ = some (E 5 j)) :
    Calls Tryz.prog 142 #[.slice A n c, .func (.func g) #[] lb] w fun e w' => e = .returned (.bool ((List.range n).any p)) ∧ Below w.heap.size w w' := by
  rw [← fidx_any]
  obtain ⟨r, hr⟩ : ∃ r, fidx p n 0 = r := ⟨_, rfl⟩
  rw [hr]
  have HR := Aside0.mk hr
  clear hr
  have HP := Aside0.mk hp
  have HC := Aside0.mk hc
  clear hp hc
  go_enter Tryz.func142, Tryz.ntmps142
  go_wp2_with fail
  refine (IndexFunc_mats g lb p E eg A n c _ HP.out hbig HC.out).mono ?_
  rintro e w' ⟨rfl, hb⟩
  rw [HR.out]
  go_wp2_with fail
  go_ret
  exact ⟨rfl, hb⟩
end Go.Proofs.YtmcloifhgbehdaaGreatDoor
namespace Go.Proofs.YtmcloifhgbehdaaGreatDoor
open Go.RowKit Go.Proofs.YtmcloifhgbehdaaGreatDoorW.PrintWords Go.Proofs.YtmcloifhgbehdaaGreatDoorW.PrintLast Go.Proofs.YtmcloifhgbehdaaGreatDoorW.PrintMore Go.Proofs.YtmcloifhgbehdaaGreatDoor.PBasesSteps
set_option linter.unusedVariables false
set_option linter.unusedSimpArgs false
theorem run_makeFunc (fn : Fn) (first cap : Array Value) (w : World) : (Instr.makeFunc fn first cap).run Tryz.prog w = .ok (.func fn first cap) w := rfl
def inB (x most : Int) : Bool := decide (0 ≤ x) && decide (x ≤ most)
theorem in_any (x most : Int) (w : World) : Calls Tryz.prog 148 #[.int .i64 x, .int .i64 most] w fun e w' => e = .returned (.bool (inB x most)) ∧ Below w.heap.size w w' := by
  refine (matroid_in.calls x most (inB x most) w ?_).mono fun e w' ⟨h1, h2⟩ => ⟨h1, h2.below⟩
  unfold matroid_in.f inB
  by_cases h : x ≥ 0
  · rw [if_pos h]; simp [h]
  · rw [if_neg h]
    have : decide (0 ≤ x) = false := decide_eq_false (by omega)
    rw [this]; rfl
theorem numbers1_any (x most : Int) (b : Nat) (w : World) (hc : w.cell? ⟨b, 0, none⟩ = some (.int .i64 most)) :
    Calls Tryz.prog 202 #[.int .i64 x, .pointer (some ⟨b, 0, none⟩)] w fun e w' => e = .returned (.bool (!inB x most)) ∧ Below w.heap.size w w' := by
  go_enter Tryz.func202, Tryz.ntmps202
  go_wp2_with fail
  refine (in_any x most _).mono ?_
  rintro e w' ⟨rfl, hb⟩
  go_wp2_with fail
  go_ret
  exact ⟨rfl, hb⟩
def numB (l : List Int) (many most : Int) : Bool := decide ((l.length : Int) = many) && l.all (fun x => inB x most)
theorem any_range (l : List Int) (p : Int → Bool) : (List.range l.length).any (fun j => p (rd l (j : Int))) = l.any p := by
  rw [Bool.eq_iff_iff, List.any_eq_true, List.any_eq_true]
  constructor
  · rintro ⟨j, h1, h2⟩
    rw [List.mem_range] at h1
    refine ⟨l[j], List.getElem_mem h1, ?_⟩
    simpa [rd, List.getD_eq_getElem?_getD, h1] using h2
  · rintro ⟨x, h1, h2⟩
    obtain ⟨j, hj, rfl⟩ := List.getElem_of_mem h1
    exact ⟨j, by simpa using hj, by simpa [rd, List.getD_eq_getElem?_getD, hj] using h2⟩
theorem cells_int {w : World} {A : Option Addr} {l : List Int} (h : Kd.C (Kd.int .i64) w A l.length l) : ∀ j, j < l.length → ∃ ad, A = some ad ∧ w.cell? (ad.add j) = some (.int .i64 (rd l j)) := by
  intro j hj
  obtain ⟨ad, e, hc⟩ := Kd.at_int h (j : Int) (by omega) (by omega)
  exact ⟨ad, e, by simpa using hc⟩
theorem numbers_any (l : List Int) (A : Option Addr) (c : Nat) (many most : Int) (w : World) (hr : Kd.C (Kd.int .i64) w A l.length l) :
    Calls Tryz.prog 181 #[.slice A l.length c, .int .i64 many, .int .i64 most] w fun e w' => e = .returned (.bool (numB l many most)) ∧ Below w.heap.size w w' := by
  have hmf := run_makeFunc
  have hn := Kd.C_max hr
  have HR := Aside0.mk hr
  clear hr
  by_cases h : (l.length : Int) = many
  · have H := Aside0.mk h
    have h1 : (((l.length : Int)) == many) = true := by simpa using h
    clear h
    go_enter Tryz.func181, Tryz.ntmps181
    go_wp2_with fail
    refine (ContainsFunc_ints 202 #[.pointer (some ⟨w.heap.size, 0, none⟩)] (fun j => !inB (rd l (j : Int)) most) (fun j => .int .i64 (rd l (j : Int))) (enters_of Tryz.func202 (by kernel_rfl) rfl) A l.length c _ ?_ hn ?_).mono ?_
    · intro W j hj hW
      exact numbers1_any _ _ _ _ ((hW.cell (by simp)).trans (by simp))
    · intro j hj
      obtain ⟨ad, e, hc⟩ := cells_int HR.out j hj
      exact ⟨ad, e, ((below_alloc (Below.refl _ _) _).cell (World.block_lt_of_cell? w _ hc)).trans hc⟩
    rintro e w' ⟨rfl, hb⟩
    go_wp2_with fail
    go_ret
    refine ⟨?_, below_next (below_alloc (Below.refl _ _) _) hb⟩
    rw [any_range l (fun x => !inB x most)]
    show Ending.returned (.bool (!l.any (fun x => !inB x most))) = _
    unfold numB
    rw [decide_eq_true H.out, Bool.true_and, List.not_any_eq_all_not]
    simp
  · have H := Aside0.mk h
    have h1 : (((l.length : Int)) == many) = false := by simpa using h
    clear h
    go_enter Tryz.func181, Tryz.ntmps181
    go_wp2_with fail
    go_ret
    refine ⟨?_, below_alloc (Below.refl _ _) _⟩
    unfold numB
    rw [decide_eq_false H.out]
    rfl
end Go.Proofs.YtmcloifhgbehdaaGreatDoor
namespace Go.Proofs.YtmcloifhgbehdaaGreatDoor
open Go.RowKit Go.Proofs.YtmcloifhgbehdaaGreatDoorW.PrintWords Go.Proofs.YtmcloifhgbehdaaGreatDoorW.PrintLast Go.Proofs.YtmcloifhgbehdaaGreatDoorW.PrintMore Go.Proofs.YtmcloifhgbehdaaGreatDoor.PBasesSteps
set_option linter.unusedVariables false
set_option linter.unusedSimpArgs false
/-- a set, of numbers above 'last'. -/
def mayF : Int → List Int → Bool
  | _, [] => true
  | last, x :: l => decide (last < x) && decide (x ≤ 1099511627776) && mayF x l
def mayB (l : List Int) : Bool := mayF (-1) l
theorem wrap_succ (n : Nat) (h : n < 9223372036854775807) : wrap64 ((n : Int) + 1) = ((n + 1 : Nat) : Int) := by unfold wrap64; omega
theorem wrap_pred (n : Nat) (h : 0 < n) (h2 : n ≤ 9223372036854775807) : wrap64 ((n : Int) - 1) = ((n - 1 : Nat) : Int) := by unfold wrap64; omega
theorem rd_nat (l : List Int) (i : Nat) (h : i < l.length) : rd l (i : Int) = l[i] := by
  simp [rd, List.getD_eq_getElem?_getD, h]
theorem May_from (l : List Int) (hl : l.length ≤ 9223372036854775807) : ∀ (d i : Nat) (last : Int) (k : Nat), l.length - i = d → i ≤ l.length → d < k →
    set_May.l0 k last l (l.length : Int) (i : Int) = some (mayF last (l.drop i)) := by
  intro d
  induction d with
  | zero =>
    intro i last k hd hi hk
    obtain ⟨k, rfl⟩ : ∃ m, k = m + 1 := ⟨k - 1, by omega⟩
    have : i = l.length := by omega
    subst this
    simp only [set_May.l0]
    rw [if_neg (by omega), List.drop_length]
    rfl
  | succ d ih =>
    intro i last k hd hi hk
    obtain ⟨k, rfl⟩ : ∃ m, k = m + 1 := ⟨k - 1, by omega⟩
    have hlt : i < l.length := by omega
    simp only [set_May.l0]
    rw [if_pos (by omega), if_pos (by omega), if_pos (by omega), rd_nat l i hlt, List.drop_eq_getElem_cons hlt, wrap_succ i (by omega)]
    unfold mayF
    by_cases h1 : l[i] ≤ last
    · rw [if_pos h1, decide_eq_false (by omega)]; rfl
    · rw [if_neg h1, decide_eq_true (by omega)]
      by_cases h2 : l[i] > 1099511627776
      · rw [if_pos h2, decide_eq_false (by omega)]; rfl
      · rw [if_neg h2, decide_eq_true (by omega), Bool.true_and, Bool.true_and]
        exact ih (i + 1) _ k (by omega) (by omega) (by omega)
theorem May_f (l : List Int) (hl : l.length ≤ 9223372036854775807) (k : Nat) (hk : l.length < k) : set_May.f k l = some (mayB l) := by
  unfold set_May.f mayB
  have := May_from l hl l.length 0 (-1) k (by omega) (by omega) hk
  simpa using this
theorem May_q {l : List Int} {b : Bool} (hm : mayB l = b) (A : Option Addr) (c : Nat) (w : World) (hr : Kd.C (Kd.int .i64) w A l.length l) (hc : l.length ≤ c) :
    Calls Tryz.prog 125 #[.slice A l.length c] w fun e w' => e = .returned (.bool b) ∧ ∃ m, w' = w.drewN m :=
  hm ▸ (set_May.calls (l.length + 1) A c l (mayB l) w hr hc (May_f l (Kd.C_max hr) _ (by omega))).mono fun e w' ⟨h1, h2⟩ => ⟨h1, h2.out⟩
theorem mayF_mono {a b : Int} (h : b ≤ a) : ∀ {l : List Int}, mayF a l = true → mayF b l = true
  | [], _ => rfl
  | x :: l, hl => by
    simp only [mayF, Bool.and_eq_true, decide_eq_true_eq] at hl ⊢
    exact ⟨⟨by omega, hl.1.2⟩, hl.2⟩
theorem mayF_lt : ∀ {l : List Int} {a : Int}, mayF a l = true → ∀ x ∈ l, a < x ∧ x ≤ 1099511627776
  | [], _, _, x, hx => by simp at hx
  | y :: l, a, h, x, hx => by
    simp only [mayF, Bool.and_eq_true, decide_eq_true_eq] at h
    rcases List.mem_cons.1 hx with rfl | hx
    · exact ⟨h.1.1, h.1.2⟩
    · have := mayF_lt h.2 x hx; omega
/-- of two sets what is wished. -/
def mergeP (a b : List Int) (left right both : Bool) (x : Int) : Prop := (x ∈ a ∧ x ∉ b ∧ left = true) ∨ (x ∈ b ∧ x ∉ a ∧ right = true) ∨ (x ∈ a ∧ x ∈ b ∧ both = true)
theorem merge_l0 (k : Nat) (a b : List Int) (l r o : Bool) (acc : List Int) : set_merge.l0 (k + 1) a b l r o acc = if (a.length : Int) > 0 then (set_merge.j2 k a b l r o acc true) else (set_merge.j2 k a b l r o acc (decide ((b.length : Int) > 0))) := rfl
theorem merge_from (left right both : Bool) : ∀ (d : Nat) (a b acc : List Int) (last : Int) (k : Nat), a.length + b.length = d → mayF last a = true → mayF last b = true → acc.length + d < 17592186044416 → 4 * d + 4 ≤ k →
    ∃ r, set_merge.l0 k a b left right both acc = some (acc ++ r) ∧ mayF last r = true ∧ r.length ≤ d ∧ ∀ x, x ∈ r ↔ mergeP a b left right both x := by
  intro d
  induction d using Nat.strongRecOn with
  | _ d ih =>
  intro a b acc last k hd ha hb hacc hk
  obtain ⟨k, rfl⟩ : ∃ m, k = m + 4 := ⟨k - 4, by omega⟩
  have put : ∀ (k : Nat) (x : Int) (wish : Bool) (a' b' : List Int), 4 * d ≤ k → a'.length + b'.length < d → last < x → x ≤ 1099511627776 → mayF x a' = true → mayF x b' = true →
      ∃ r, (if wish = true then (if acc.length < 17592186044416 then set_merge.l0 k a' b' left right both (acc ++ [x]) else none) else set_merge.l0 k a' b' left right both acc) = some (acc ++ r) ∧ mayF last r = true ∧ r.length ≤ d ∧
        ∀ y, y ∈ r ↔ (y = x ∧ wish = true) ∨ mergeP a' b' left right both y := by
    intro k x wish a' b' hk h1 h2 h3 h4 h5
    cases wish with
    | true =>
      obtain ⟨r, e, m, l, hr⟩ := ih (a'.length + b'.length) h1 a' b' (acc ++ [x]) x k rfl h4 h5 (by simp; omega) (by omega)
      refine ⟨x :: r, ?_, ?_, ?_, ?_⟩
      · rw [if_pos rfl, if_pos (by omega), e]; simp
      · simp [mayF, h2, h3, m]
      · simp; omega
      · intro y; simp [hr y]
    | false =>
      obtain ⟨r, e, m, l, hr⟩ := ih (a'.length + b'.length) h1 a' b' acc x k rfl h4 h5 (by omega) (by omega)
      refine ⟨r, ?_, mayF_mono (by omega) m, by omega, ?_⟩
      · rw [if_neg (by simp), e]
      · intro y; simp [hr y]
  cases a with
  | nil =>
    cases b with
    | nil =>
      refine ⟨[], ?_, rfl, by simp, ?_⟩
      · rw [merge_l0]; simp [set_merge.j2]
      · intro x; simp [mergeP]
    | cons y b =>
      simp only [mayF, Bool.and_eq_true, decide_eq_true_eq] at hb
      obtain ⟨r, e, m, l, hr⟩ := put k y right [] b (by omega) (by simp at hd ⊢; omega) hb.1.1 hb.1.2 rfl hb.2
      refine ⟨r, ?_, m, l, ?_⟩
      · have h2 : (0 : Int) < (↑b.length + 1) := by omega
        have h3 : (1 : Int) ≤ (↑b.length + 1) := by omega
        have h4 : ¬ ((b.length : Int) + 1 = 0) := by omega
        have h5 : ¬ ((1 : Int) ≤ 0) := by omega
        rw [merge_l0]; simp only [set_merge.j2, set_merge.j3, set_merge.j4, List.length_cons, List.length_nil, Int.natCast_add, Int.natCast_zero, Int.natCast_one, gt_iff_lt, Int.lt_irrefl, h2, h3, h4, if_true, if_false, decide_true, Option.bind_some, List.drop_succ_cons, List.drop_zero, Bool.false_eq_true, rd, List.getD_cons_zero, Int.toNat_zero]
        rw [← e]
      · intro x
        have hny : y ∉ b := fun h => by have := mayF_lt hb.2 y h; omega
        rw [hr x]
        simp only [mergeP, List.not_mem_nil, List.mem_cons, false_and, not_false_eq_true, true_and, false_or, or_false]
        constructor
        · rintro (⟨h, h'⟩ | ⟨h, h'⟩)
          · exact ⟨.inl h, h'⟩
          · exact ⟨.inr h, h'⟩
        · rintro ⟨h | h, h'⟩
          · exact .inl ⟨h, h'⟩
          · exact .inr ⟨h, h'⟩
  | cons x a =>
    simp only [mayF, Bool.and_eq_true, decide_eq_true_eq] at ha
    have hnx : x ∉ a := fun h => by have := mayF_lt ha.2 x h; omega
    cases b with
    | nil =>
      obtain ⟨r, e, m, l, hr⟩ := put (k + 1) x left a [] (by omega) (by simp at hd ⊢; omega) ha.1.1 ha.1.2 ha.2 rfl
      refine ⟨r, ?_, m, l, ?_⟩
      · have h2 : (0 : Int) < (↑a.length + 1) := by omega
        have h3 : (1 : Int) ≤ (↑a.length + 1) := by omega
        rw [merge_l0]; simp only [set_merge.j2, set_merge.j3, set_merge.j4, List.length_cons, List.length_nil, Int.natCast_add, Int.natCast_zero, Int.natCast_one, gt_iff_lt, h2, h3, if_true, if_false, decide_true, Option.bind_some, List.drop_succ_cons, List.drop_zero, Bool.false_eq_true, rd, List.getD_cons_zero, Int.toNat_zero]
        rw [← e]
      · intro y
        rw [hr y]
        simp only [mergeP, List.not_mem_nil, List.mem_cons, false_and, and_false, not_false_eq_true, true_and, false_or, or_false]
        constructor
        · rintro (⟨h, h'⟩ | ⟨h, h'⟩)
          · exact ⟨.inl h, h'⟩
          · exact ⟨.inr h, h'⟩
        · rintro ⟨h | h, h'⟩
          · exact .inl ⟨h, h'⟩
          · exact .inr ⟨h, h'⟩
    | cons y b =>
      simp only [mayF, Bool.and_eq_true, decide_eq_true_eq] at hb
      have hny : y ∉ b := fun h => by have := mayF_lt hb.2 y h; omega
      have a2 : (0 : Int) < (↑a.length + 1) := by omega
      have a3 : (1 : Int) ≤ (↑a.length + 1) := by omega
      have b2 : (0 : Int) < (↑b.length + 1) := by omega
      have b3 : (1 : Int) ≤ (↑b.length + 1) := by omega
      have b4 : ¬ ((b.length : Int) + 1 = 0) := by omega
      have a4 : ¬ ((a.length : Int) + 1 = 0) := by omega
      by_cases h1 : x < y
      · obtain ⟨r, e, m, l, hr⟩ := put (k + 1) x left a (y :: b) (by omega) (by simp at hd ⊢; omega) ha.1.1 ha.1.2 ha.2 (by simp [mayF, h1, hb.1.2, hb.2])
        have hxb : x ∉ b := fun h => by have := mayF_lt hb.2 x h; omega
        refine ⟨r, ?_, m, l, ?_⟩
        · rw [merge_l0]; simp only [set_merge.j2, set_merge.j3, set_merge.j4, List.length_cons, Int.natCast_add, Int.natCast_one, gt_iff_lt, a2, a3, a4, b2, b3, b4, h1, if_true, if_false, decide_true, Option.bind_some, List.drop_succ_cons, List.drop_zero, Bool.false_eq_true, rd, List.getD_cons_zero, Int.toNat_zero]
          rw [← e]
        · intro z
          rw [hr z]
          simp only [mergeP, List.mem_cons]
          by_cases ez : z = x
          · subst ez
            have : ¬ z = y := by omega
            simp [hnx, hxb, this]
          · simp [ez]
      · by_cases h2 : y < x
        · obtain ⟨r, e, m, l, hr⟩ := put k y right (x :: a) b (by omega) (by simp at hd ⊢; omega) hb.1.1 hb.1.2 (by simp [mayF, h2, ha.1.2, ha.2]) hb.2
          have hya : y ∉ a := fun h => by have := mayF_lt ha.2 y h; omega
          refine ⟨r, ?_, m, l, ?_⟩
          · rw [merge_l0]; simp only [set_merge.j2, set_merge.j3, set_merge.j4, List.length_cons, Int.natCast_add, Int.natCast_one, gt_iff_lt, a2, a3, a4, b2, b3, b4, h1, h2, if_true, if_false, decide_true, decide_false, Option.bind_some, List.drop_succ_cons, List.drop_zero, Bool.false_eq_true, rd, List.getD_cons_zero, Int.toNat_zero]
            rw [← e]
          · intro z
            rw [hr z]
            simp only [mergeP, List.mem_cons]
            by_cases ez : z = y
            · subst ez
              have : ¬ z = x := by omega
              simp [hny, hya, this]
            · simp [ez]
        · have exy : x = y := by omega
          subst exy
          obtain ⟨r, e, m, l, hr⟩ := put k x both a b (by omega) (by simp at hd ⊢; omega) ha.1.1 ha.1.2 ha.2 hb.2
          refine ⟨r, ?_, m, l, ?_⟩
          · rw [merge_l0]; simp only [set_merge.j2, set_merge.j3, set_merge.j4, List.length_cons, Int.natCast_add, Int.natCast_one, gt_iff_lt, a2, a3, a4, b2, b3, b4, h1, if_true, if_false, decide_true, decide_false, Option.bind_some, List.drop_succ_cons, List.drop_zero, Bool.false_eq_true, rd, List.getD_cons_zero, Int.toNat_zero]
            rw [← e]
          · intro z
            rw [hr z]
            simp only [mergeP, List.mem_cons]
            by_cases ez : z = x
            · subst ez
              simp [hny, hnx]
            · simp [ez]
theorem may_nonneg {a : List Int} (ha : mayB a = true) {x : Int} (h : x ∈ a) : 0 ≤ x := by have := mayF_lt ha x h; omega
theorem may_nodup : ∀ {a : List Int} {last : Int}, mayF last a = true → a.Nodup
  | [], _, _ => List.nodup_nil
  | x :: a, last, h => by
    simp only [mayF, Bool.and_eq_true, decide_eq_true_eq] at h
    exact List.nodup_cons.2 ⟨fun hx => by have := mayF_lt h.2 x hx; omega, may_nodup h.2⟩
theorem merge_f (a b : List Int) (l r o : Bool) (ha : mayB a = true) (hb : mayB b = true) (hs : a.length + b.length < 17592186044416) (k : Nat) (hk : 4 * (a.length + b.length) + 5 ≤ k) :
    ∃ u, set_merge.f k a b l r o = some u ∧ mayB u = true ∧ u.length ≤ a.length + b.length ∧ ∀ x, x ∈ u ↔ mergeP a b l r o x := by
  obtain ⟨k, rfl⟩ : ∃ m, k = m + 1 := ⟨k - 1, by omega⟩
  obtain ⟨u, e, m, hl, hu⟩ := merge_from l r o (a.length + b.length) a b [] (-1) k rfl ha hb (by simpa using hs) (by omega)
  refine ⟨u, ?_, m, hl, hu⟩
  unfold set_merge.f
  rw [May_f a (by omega) _ (by omega), May_f b (by omega) _ (by omega), ha, hb]
  simp only [Option.bind_some, if_true]
  show set_merge.j0 (k + 1) a b l r o false = _
  simp only [set_merge.j0, Bool.false_eq_true, if_false]
  simpa using e
def uniL (a b : List Int) : List Int := (set_Union.f (4 * (a.length + b.length) + 5) a b).getD []
def minL (a b : List Int) : List Int := (set_Minus.f (4 * (a.length + b.length) + 5) a b).getD []
theorem uniL_spec {a b : List Int} (ha : mayB a = true) (hb : mayB b = true) (hs : a.length + b.length < 17592186044416) :
    set_Union.f (4 * (a.length + b.length) + 5) a b = some (uniL a b) ∧ mayB (uniL a b) = true ∧ (uniL a b).length ≤ a.length + b.length ∧ ∀ x, x ∈ uniL a b ↔ x ∈ a ∨ x ∈ b := by
  obtain ⟨u, e, m, hl, hu⟩ := merge_f a b true true true ha hb hs _ (Nat.le_refl _)
  have e2 : set_Union.f (4 * (a.length + b.length) + 5) a b = some u := by unfold set_Union.f; rw [e]; rfl
  have e3 : uniL a b = u := by unfold uniL; rw [e2]; rfl
  rw [e3]
  refine ⟨e2, m, hl, fun x => ?_⟩
  rw [hu x]
  unfold mergeP
  by_cases h1 : x ∈ a <;> by_cases h2 : x ∈ b <;> simp [h1, h2]
theorem minL_spec {a b : List Int} (ha : mayB a = true) (hb : mayB b = true) (hs : a.length + b.length < 17592186044416) :
    set_Minus.f (4 * (a.length + b.length) + 5) a b = some (minL a b) ∧ mayB (minL a b) = true ∧ (minL a b).length ≤ a.length + b.length ∧ ∀ x, x ∈ minL a b ↔ x ∈ a ∧ x ∉ b := by
  obtain ⟨u, e, m, hl, hu⟩ := merge_f a b true false false ha hb hs _ (Nat.le_refl _)
  have e2 : set_Minus.f (4 * (a.length + b.length) + 5) a b = some u := by unfold set_Minus.f; rw [e]; rfl
  have e3 : minL a b = u := by unfold minL; rw [e2]; rfl
  rw [e3]
  refine ⟨e2, m, hl, fun x => ?_⟩
  rw [hu x]
  unfold mergeP
  by_cases h1 : x ∈ a <;> by_cases h2 : x ∈ b <;> simp [h1, h2]
theorem Union_any (a b : List Int) (A B : Option Addr) (ca cb : Nat) (w : World) (hra : Kd.C (Kd.int .i64) w A a.length a) (hca : a.length ≤ ca) (hrb : Kd.C (Kd.int .i64) w B b.length b) (hcb : b.length ≤ cb)
    (ha : mayB a = true) (hb : mayB b = true) (hs : a.length + b.length < 17592186044416) :
    Calls Tryz.prog 131 #[.slice A a.length ca, .slice B b.length cb] w fun e w' => ∃ v : Value, e = .returned v ∧ Kd.R (Kd.int .i64) 3 w' w.heap.size (fun _ => True) v (uniL a b) ∧ Below w.heap.size w w' :=
  set_Union.calls _ A ca a B cb b _ w hra hca hrb hcb (uniL_spec ha hb hs).1
theorem Minus_any (a b : List Int) (A B : Option Addr) (ca cb : Nat) (w : World) (hra : Kd.C (Kd.int .i64) w A a.length a) (hca : a.length ≤ ca) (hrb : Kd.C (Kd.int .i64) w B b.length b) (hcb : b.length ≤ cb)
    (ha : mayB a = true) (hb : mayB b = true) (hs : a.length + b.length < 17592186044416) :
    Calls Tryz.prog 57 #[.slice A a.length ca, .slice B b.length cb] w fun e w' => ∃ v : Value, e = .returned v ∧ Kd.R (Kd.int .i64) 3 w' w.heap.size (fun _ => True) v (minL a b) ∧ Below w.heap.size w w' :=
  set_Minus.calls _ A ca a B cb b _ w hra hca hrb hcb (minL_spec ha hb hs).1
/-- all numbers below n. -/
def allL (n : Nat) : List Int := (List.range n).map fun i : Nat => (i : Int)
theorem allL_length (n : Nat) : (allL n).length = n := by simp [allL]
theorem mem_allL {n : Nat} {x : Int} : x ∈ allL n ↔ 0 ≤ x ∧ x < n := by
  simp only [allL, List.mem_map, List.mem_range]
  constructor
  · rintro ⟨i, h, rfl⟩; omega
  · rintro ⟨h1, h2⟩; exact ⟨x.toNat, by omega, by omega⟩
theorem allL_may (n : Nat) (hn : n ≤ 1099511627776) : mayB (allL n) = true := by
  suffices ∀ d k : Nat, k + d ≤ 1099511627776 → mayF ((k : Int) - 1) ((List.range' k d).map fun i : Nat => (i : Int)) = true by
    have := this n 0 (by omega)
    rw [← List.range_eq_range'] at this
    exact this
  intro d
  induction d with
  | zero => intro k _; rfl
  | succ d ih =>
    intro k hk
    have := ih (k + 1) (by omega)
    simp only [List.range'_succ, List.map_cons, mayF]
    rw [decide_eq_true (by omega), decide_eq_true (by omega), Bool.true_and, Bool.true_and]
    rw [show ((k + 1 : Nat) : Int) - 1 = (k : Int) by omega] at this
    exact this
theorem All_from (n : Nat) (hn : n ≤ 100000) : ∀ (d i : Nat) (l : List Int) (k : Nat), n - i = d → i ≤ n → l.length = n → d < k → (∀ j, j < i → l[j]? = some (j : Int)) →
    set_All.l0 k l (n : Int) (i : Int) = some (allL n) := by
  intro d
  induction d with
  | zero =>
    intro i l k hd hi hl hk hj
    obtain ⟨k, rfl⟩ : ∃ m, k = m + 1 := ⟨k - 1, by omega⟩
    simp only [set_All.l0]
    rw [if_neg (by omega)]
    congr 1
    refine List.ext_getElem? fun j => ?_
    by_cases h : j < n
    · rw [hj j (by omega)]; simp [allL, h]
    · rw [List.getElem?_eq_none (by omega), List.getElem?_eq_none (by rw [allL_length]; omega)]
  | succ d ih =>
    intro i l k hd hi hl hk hj
    obtain ⟨k, rfl⟩ : ∃ m, k = m + 1 := ⟨k - 1, by omega⟩
    simp only [set_All.l0]
    rw [if_pos (by omega), if_pos (by omega), if_pos (by omega), wrap_succ i (by omega)]
    refine ih (i + 1) _ k (by omega) (by omega) (by simpa using hl) (by omega) fun j hj' => ?_
    rw [List.getElem?_set]
    by_cases e : i = j
    · subst e; simp; omega
    · have : (i : Int).toNat ≠ j := by omega
      rw [if_neg this]; exact hj j (by omega)
theorem All_any (n : Nat) (h1 : n ≤ 100000) (w : World) :
    Calls Tryz.prog 58 #[.int .i64 (n : Int)] w fun e w' => ∃ v : Value, e = .returned v ∧ Kd.R (Kd.int .i64) 3 w' w.heap.size (fun _ => True) v (allL n) ∧ Below w.heap.size w w' := by
  refine set_All.calls (n + 2) (n : Int) (allL n) w ?_
  unfold set_All.f
  by_cases h : (n : Int) < 1
  · rw [if_pos h]
    have : n = 0 := by omega
    subst this
    simp [set_All.j0, allL]
  · rw [if_neg h, decide_eq_false (by omega)]
    simp only [set_All.j0, Bool.false_eq_true, if_false]
    rw [if_pos (by omega), if_pos (by omega)]
    exact All_from n h1 n 0 _ (n + 1) (by omega) (by omega) (by simp) (by omega) (fun j hj => by omega)
end Go.Proofs.YtmcloifhgbehdaaGreatDoor
namespace Go.Proofs.YtmcloifhgbehdaaGreatDoor
open Go.RowKit Go.Proofs.YtmcloifhgbehdaaGreatDoorW.PrintWords Go.Proofs.YtmcloifhgbehdaaGreatDoorW.PrintLast Go.Proofs.YtmcloifhgbehdaaGreatDoorW.PrintMore Go.Proofs.YtmcloifhgbehdaaGreatDoor.PBasesSteps
set_option linter.unusedVariables false
set_option linter.unusedSimpArgs false
theorem plain1_any (l : List Int) (A : Option Addr) (c : Nat) (a : Int) (b : Nat) (w : World) (h0 : 0 ≤ a) (h1 : a ≤ 64) (hr : Kd.C (Kd.int .i64) w A l.length l) (hc : w.cell? ⟨b, 2, none⟩ = some (.int .i64 a)) :
    Calls Tryz.prog 180 #[.slice A l.length c, .pointer (some ⟨b, 0, none⟩)] w fun e w' => e = .returned (.bool (!numB l 2 (a - 1))) ∧ Below w.heap.size w w' := by
  have hu25 := Tryz.underlying25
  have HR := Aside0.mk hr
  clear hr
  go_enter Tryz.func180, Tryz.ntmps180
  go_wp2_with fail
  refine (numbers_any l A c 2 (a - 1) _ HR.out).mono ?_
  rintro e w' ⟨rfl, hb⟩
  go_wp2_with fail
  go_ret
  exact ⟨rfl, hb⟩
def setN (l : List Int) (n : Int) : Bool := mayB l && l.all (fun x => decide (x < n))
theorem mayF_last : ∀ {l : List Int} {a : Int}, mayF a l = true → ∀ (h : l ≠ []), ∀ x ∈ l, x ≤ l.getLast h
  | [], _, _, h, _, _ => absurd rfl h
  | [x], _, _, _, y, hy => by simp at hy; simp [hy]
  | x :: z :: l, a, hm, h, y, hy => by
    have hm' := hm
    simp only [mayF, Bool.and_eq_true, decide_eq_true_eq] at hm'
    have hz : mayF x (z :: l) = true := by simp only [mayF, Bool.and_eq_true, decide_eq_true_eq]; exact hm'.2
    rw [List.getLast_cons (by simp)]
    rcases List.mem_cons.1 hy with rfl | hy
    · have := mayF_last hz (by simp) z (by simp)
      omega
    · exact mayF_last hz (by simp) y hy
theorem setN_last {l : List Int} (hm : mayB l = true) (hl : 0 < l.length) (n : Int) : setN l n = decide (rd l ((l.length - 1 : Nat) : Int) < n) := by
  have hne : l ≠ [] := by intro h; subst h; simp at hl
  have e : rd l ((l.length - 1 : Nat) : Int) = l.getLast hne := by
    rw [rd_nat l _ (by omega), List.getLast_eq_getElem]
  rw [e]
  unfold setN
  rw [hm, Bool.true_and, Bool.eq_iff_iff, List.all_eq_true, decide_eq_true_iff]
  constructor
  · intro h; simpa using h _ (List.getLast_mem hne)
  · intro h x hx; have := mayF_last hm hne x hx; simp; omega
theorem setN_no {l : List Int} (hm : mayB l = false) (n : Int) : setN l n = false := by unfold setN; rw [hm]; rfl
theorem matchMay1_any (l : List Int) (A : Option Addr) (c : Nat) (r : Int) (b : Nat) (w : World) (hr : Kd.C (Kd.int .i64) w A l.length l) (hl : l.length ≤ c) (hc : w.cell? ⟨b, 0, none⟩ = some (.int .i64 r)) :
    Calls Tryz.prog 203 #[.slice A l.length c, .pointer (some ⟨b, 0, none⟩)] w fun e w' => e = .returned (.bool (!setN l r)) ∧ Below w.heap.size w w' := by
  have hn := Kd.C_max hr
  have HR := Aside0.mk hr
  clear hr
  cases hm : mayB l with
  | false =>
    rw [setN_no hm]
    have HM := Aside0.mk hm
    clear hm
    go_enter Tryz.func203, Tryz.ntmps203
    go_wp2_with fail
    go_quiet ((go_at_call 125; exact Calls.quiet_of (May_q HM.out A c _ (Kd.C_drewN HR.out _) hl)))
    go_wp2_with fail
    go_ret
    exact ⟨rfl, pw_below_drewN (Below.refl _ _) _⟩
  | true =>
    have HM := Aside0.mk hm
    by_cases h0 : l.length = 0
    · have e : l = [] := List.eq_nil_of_length_eq_zero h0
      have hz : decide ((0 : Int) < (l.length : Int)) = false := by simp [h0]
      have hz2 : decide (0 < l.length) = false := by simp [h0]
      have E := Aside0.mk e
      clear e h0 hm
      go_enter Tryz.func203, Tryz.ntmps203
      go_wp2_with fail
      go_quiet ((go_at_call 125; exact Calls.quiet_of (May_q HM.out A c _ (Kd.C_drewN HR.out _) hl)))
      go_wp2_with fail
      go_ret
      exact ⟨by rw [E.out]; rfl, pw_below_drewN (Below.refl _ _) _⟩
    · have hp : 0 < l.length := by omega
      have hz : decide ((0 : Int) < (l.length : Int)) = true := by simp; omega
      have hz2 : decide (0 < l.length) = true := by simp; omega
      obtain ⟨ad, rfl, hcell⟩ := cells_int HR.out (l.length - 1) (by omega)
      have hw1 : IntKind.i64.wrap ((l.length : Int) - 1) = ((l.length - 1 : Nat) : Int) := (i64_w _).trans (wrap_pred l.length hp hn)
      have hw2 : wrap64 ((l.length : Int) - 1) = ((l.length - 1 : Nat) : Int) := wrap_pred l.length hp hn
      have hw3 : (l.length : Int) - 1 = ((l.length - 1 : Nat) : Int) := by omega
      have hb1 : ((l.length - 1 : Nat) : Int) < (l.length : Int) := by omega
      have hb2 : (0 : Int) ≤ ((l.length - 1 : Nat) : Int) := by omega
      rw [setN_last hm hp]
      clear h0 hm
      go_enter Tryz.func203, Tryz.ntmps203
      go_wp2_with fail
      go_quiet ((go_at_call 125; exact Calls.quiet_of (May_q HM.out _ c _ (Kd.C_drewN HR.out _) hl)))
      go_wp2_with fail
      go_ret
      refine ⟨?_, pw_below_drewN (Below.refl _ _) _⟩
      show Ending.returned (.bool (decide (r ≤ rd l ((l.length - 1 : Nat) : Int)))) = _
      congr 2
      rw [Bool.eq_iff_iff]; simp
theorem all_range {α : Type} (l : List α) (z : α) (p : α → Bool) : (List.range l.length).any (fun j => p (l.getD j z)) = l.any p := by
  rw [Bool.eq_iff_iff, List.any_eq_true, List.any_eq_true]
  constructor
  · rintro ⟨j, h1, h2⟩
    rw [List.mem_range] at h1
    refine ⟨l[j], List.getElem_mem h1, ?_⟩
    simpa [List.getD_eq_getElem?_getD, h1] using h2
  · rintro ⟨x, h1, h2⟩
    obtain ⟨j, hj, rfl⟩ := List.getElem_of_mem h1
    exact ⟨j, by simpa using hj, by simpa [List.getD_eq_getElem?_getD, hj] using h2⟩
/-- the rows of a slice of slices, as values. -/
theorem cells_lists {w : World} {A : Option Addr} {l : List (List Int)} (h : Kd.C (Kd.slice 3 (Kd.int .i64)) w A l.length l) :
    ∃ E : Nat → Value, ∀ j, j < l.length → (∃ ad, A = some ad ∧ w.cell? (ad.add j) = some (E j)) ∧ ∃ B c, E j = .slice B (l.getD j []).length c ∧ (l.getD j []).length ≤ c ∧ Kd.C (Kd.int .i64) w B (l.getD j []).length (l.getD j []) := by
  have : ∀ j, ∃ v : Value, j < l.length → (∃ ad, A = some ad ∧ w.cell? (ad.add j) = some v) ∧ ∃ B c, v = .slice B (l.getD j []).length c ∧ (l.getD j []).length ≤ c ∧ Kd.C (Kd.int .i64) w B (l.getD j []).length (l.getD j []) := by
    intro j
    by_cases hj : j < l.length
    · obtain ⟨ad, A0, c0, e, h1, h2, h3⟩ := at_L1 h (j : Int) (by omega) (by omega)
      rw [show rd_L1 l (j : Int) = l.getD j [] from by simp [rd_L1]] at h1 h2 h3
      exact ⟨_, fun _ => ⟨⟨ad, e, by simpa using h1⟩, A0, c0, rfl, h2, h3⟩⟩
    · exact ⟨undef, fun h => absurd h hj⟩
  exact ⟨fun j => Classical.choose (this j), fun j hj => Classical.choose_spec (this j) hj⟩
def matchMayB (right : Int) (l : List (List Int)) : Bool := decide (0 ≤ right) && decide (right ≤ 64) && decide (l.length ≤ 64) && l.all (fun x => setN x right)
/-- of what may be. -/
theorem matchMay_ok (right : Int) (l : List (List Int)) (A : Option Addr) (c : Nat) (w : World) (hr : Kd.C (Kd.slice 3 (Kd.int .i64)) w A l.length l) (hok : matchMayB right l = true) :
    Calls Tryz.prog 182 #[.int .i64 right, .slice A l.length c] w fun e w' => e = .returned (.bool true) ∧ Below w.heap.size w w' := by
  have hmf := run_makeFunc
  have hn := Kd.C_max hr
  simp only [matchMayB, Bool.and_eq_true, decide_eq_true_eq] at hok
  obtain ⟨⟨⟨h1, h2⟩, h3⟩, h4⟩ := hok
  have H4 := Aside0.mk h4
  have d1 : decide (right < 0) = false := decide_eq_false (by omega)
  have d2 : decide (64 < right) = false := decide_eq_false (by omega)
  have d3 : decide ((64 : Int) < (l.length : Int)) = false := decide_eq_false (by omega)
  have d4 : decide (64 < l.length) = false := decide_eq_false (by omega)
  obtain ⟨E, hE⟩ := cells_lists hr
  have HE := Aside0.mk hE
  clear hr hE h4
  go_enter Tryz.func182, Tryz.ntmps182
  go_wp2_with fail
  refine (ContainsFunc_lists 203 #[.pointer (some ⟨w.heap.size, 0, none⟩)] (fun j => !setN (l.getD j []) right) E (enters_of Tryz.func203 (by kernel_rfl) rfl) A l.length c _ ?_ hn ?_).mono ?_
  · intro W j hj hW
    obtain ⟨_, B, cj, e, e2, e3⟩ := HE.out j hj
    rw [e]
    exact matchMay1_any _ B cj right _ W (Kd.C_below (Kd.C_below e3 (below_alloc (Below.refl _ _) _)) hW) e2 ((hW.cell (by simp)).trans (by simp))
  · intro j hj
    obtain ⟨⟨ad, e, hc⟩, _⟩ := HE.out j hj
    exact ⟨ad, e, ((below_alloc (Below.refl _ _) _).cell (World.block_lt_of_cell? w _ hc)).trans hc⟩
  rw [all_range l [] (fun x => !setN x right)]
  have H5 : l.any (fun x => !setN x right) = false := by
    rw [List.any_eq_false]
    intro x hx
    simpa using List.all_eq_true.1 H4.out x hx
  rw [H5]
  clear H5
  rintro e w' ⟨rfl, hb⟩
  go_wp2_with fail
  go_ret
  exact ⟨rfl, below_next (below_alloc (Below.refl _ _) _) hb⟩
end Go.Proofs.YtmcloifhgbehdaaGreatDoor
namespace Go.Proofs.YtmcloifhgbehdaaGreatDoor
open Go.RowKit Go.Proofs.YtmcloifhgbehdaaGreatDoorW.PrintWords Go.Proofs.YtmcloifhgbehdaaGreatDoorW.PrintLast Go.Proofs.YtmcloifhgbehdaaGreatDoorW.PrintMore Go.Proofs.YtmcloifhgbehdaaGreatDoor.PBasesSteps
set_option linter.unusedVariables false
set_option linter.unusedSimpArgs false
def witF : Nat → Int → Int → Bool
  | 0, _, _ => true
  | n + 1, x, p => if x * x % p = p - 1 then false else witF n (x * x % p) p
def witB (x : Int) (n : Nat) (p : Int) : Bool := if x = 1 ∨ x = p - 1 ∨ x = 0 then false else witF n x p
theorem witness_any (a d p x : Int) (n : Nat) (t : Int) (w : World) (ht : t = (n : Int) + 1) (hn : n ≤ 100) (hp : 2 ≤ p) (hp2 : p ≤ 100) (hx0 : 0 ≤ x) (hx1 : x < p) (hx : modp_Pow.f 40 a d p = some x) :
    Calls Tryz.prog 217 #[.int .i64 a, .int .i64 d, .int .i64 t, .int .i64 p] w fun e w' => e = .returned (.bool (witB x n p)) ∧ Below w.heap.size w w' := by
  subst ht
  have HX := Aside0.mk hx
  clear hx
  by_cases c : x = 1 ∨ x = p - 1 ∨ x = 0
  · have e : witB x n p = false := by unfold witB; rw [if_pos c]
    rw [e]
    clear e
    by_cases c1 : x = 1
    · have b1 : (x == 1) = true := by simpa using c1
      have C := Aside0.mk c
      clear c c1
      go_enter Tryz.func217, Tryz.ntmps217
      go_wp2_with fail
      refine (modp_Pow.calls 40 a d p x _ HX.out).mono ?_
      rintro e w' ⟨rfl, hb⟩
      replace hb := hb.below
      go_wp2_with fail
      go_ret
      exact ⟨rfl, hb⟩
    · have b1 : (x == 1) = false := by simpa using c1
      by_cases c2 : x = p - 1
      · have b2 : (x == p - 1) = true := by simpa using c2
        have C := Aside0.mk c2
        clear c c1 c2
        go_enter Tryz.func217, Tryz.ntmps217
        go_wp2_with fail
        refine (modp_Pow.calls 40 a d p x _ HX.out).mono ?_
        rintro e w' ⟨rfl, hb⟩
        replace hb := hb.below
        go_wp2_with fail
        go_ret
        exact ⟨rfl, hb⟩
      · have b2 : (x == p - 1) = false := by simpa using c2
        have b3 : (x == 0) = true := by simp; omega
        clear c c1 c2
        go_enter Tryz.func217, Tryz.ntmps217
        go_wp2_with fail
        refine (modp_Pow.calls 40 a d p x _ HX.out).mono ?_
        rintro e w' ⟨rfl, hb⟩
        replace hb := hb.below
        go_wp2_with fail
        go_ret
        exact ⟨rfl, hb⟩
  · have e : witB x n p = witF n x p := by unfold witB; rw [if_neg c]
    rw [e]
    obtain ⟨r, hr⟩ : ∃ r, witF n x p = r := ⟨_, rfl⟩
    rw [hr]
    have HR := Aside0.mk hr
    have b1 : (x == 1) = false := by simp; omega
    have b2 : (x == p - 1) = false := by simp; omega
    have b3 : (x == 0) = false := by simp; omega
    clear e hr c
    go_enter Tryz.func217, Tryz.ntmps217
    go_wp2_with fail
    refine (modp_Pow.calls 40 a d p x _ HX.out).mono ?_
    rintro e w' ⟨rfl, hb⟩
    have HB0 := Aside0.mk hb.below
    clear hb
    go_wp2_with fail
    go_loopg [9, 28] n (fun gg s9 s28 wr => ∃ (k : Nat) (y : Int), k ≤ n ∧ n - k ≤ gg ∧ 0 ≤ y ∧ y < p ∧ s9 = .int .i64 y ∧ s28 = .int .i64 k ∧ Aside0 (Below w.heap.size w wr) ∧ Aside0 (witF (n - k) y p = r))
    case atStart => exact ⟨0, x, Nat.zero_le _, by omega, hx0, hx1, rfl, rfl, HB0, HR⟩
    case round =>
      clear b1 b2 b3
      obtain ⟨k, y, hk, hg, hy0, hy1, rfl, rfl, HB, HF⟩ := hrel
      by_cases hlt : k < n
      · have hltz : (k : Int) < (n : Int) := by omega
        have e1 : n - k = (n - (k + 1)) + 1 := by omega
        have hyy : 0 ≤ y * y := Int.mul_nonneg hy0 hy0
        have hyy2 : y * y ≤ 10000 := by
          have : y * y ≤ 100 * 100 := Int.mul_le_mul (by omega) (by omega) hy0 (by omega)
          omega
        have hm0 : 0 ≤ y * y % p := Int.emod_nonneg _ (by omega)
        have hm1 : y * y % p < p := Int.emod_lt_of_pos _ (by omega)
        have E1 := Aside0.mk e1
        clear e1
        by_cases c : y * y % p = p - 1
        · have b : (y * y % p == p - 1) = true := by simpa using c
          have C := Aside0.mk c
          clear c
          go_wp2_with fail
          go_ret
          refine ⟨?_, HB.out⟩
          rw [← HF.out, E1.out]
          simp [witF, C.out]
        · have b : (y * y % p == p - 1) = false := by simpa using c
          have C := Aside0.mk c
          clear c
          go_wp2_with fail
          go_roundg (n - (k + 1))
          case measure => omega
          case rel =>
            refine ⟨k + 1, y * y % p, by omega, by omega, hm0, hm1, rfl, by go_num, HB, ⟨?_⟩⟩
            have := HF.out
            rw [E1.out] at this
            simpa [witF, C.out] using this
      · have hltz : ¬ (k : Int) < (n : Int) := by omega
        have : k = n := by omega
        subst this
        go_wp2_with fail
        go_ret
        refine ⟨?_, HB.out⟩
        rw [← HF.out]
        simp [witF]
/-- what is asked of an odd number: its d and twos, and of each of four numbers what witness needs. -/
def mrB (p : Int) (d : Int) (t : Nat) : Bool := [2, 3, 5, 7].all fun a => p == a || (decide (p % a ≠ 0) && match modp_Pow.f 40 a d p with
  | some x => decide (0 ≤ x) && decide (x < p) && !witB x (t - 1) p
  | none => false)
theorem index4 : (∀ w, (Instr.index 208 (.agg #[.int .i64 2, .int .i64 3, .int .i64 5, .int .i64 7]) (.int .i64 0)).run Tryz.prog w = .ok (.int .i64 2) w) ∧
    (∀ w, (Instr.index 208 (.agg #[.int .i64 2, .int .i64 3, .int .i64 5, .int .i64 7]) (.int .i64 1)).run Tryz.prog w = .ok (.int .i64 3) w) ∧
    (∀ w, (Instr.index 208 (.agg #[.int .i64 2, .int .i64 3, .int .i64 5, .int .i64 7]) (.int .i64 2)).run Tryz.prog w = .ok (.int .i64 5) w) ∧
    (∀ w, (Instr.index 208 (.agg #[.int .i64 2, .int .i64 3, .int .i64 5, .int .i64 7]) (.int .i64 3)).run Tryz.prog w = .ok (.int .i64 7) w) :=
  ⟨fun _ => by kernel_rfl, fun _ => by kernel_rfl, fun _ => by kernel_rfl, fun _ => by kernel_rfl⟩
/-- halves: d is p - 1 halved t times, and odd; not before. -/
theorem primeOdd_ok (p : Int) (t : Nat) (w : World) (hp : 3 ≤ p) (hp2 : p ≤ 100) (hodd : p % 2 = 1) (ht : 1 ≤ t) (ht2 : t ≤ 10) (hh : ∀ i, i < t → (p - 1) / 2 ^ i % 2 = 0) (hd : (p - 1) / 2 ^ t % 2 = 1)
    (hok : mrB p ((p - 1) / 2 ^ t) t = true) :
    Calls Tryz.prog 204 #[.int .i64 p] w fun e w' => e = .returned (.bool true) ∧ Below w.heap.size w w' := by
  have HH := Aside0.mk hh
  have HD := Aside0.mk hd
  have HOK := Aside0.mk hok
  have b1 : (p % 2 == 0) = false := by simp; omega
  clear hh hd hok hodd
  obtain ⟨i0, i1, i2, i3⟩ := index4
  go_enter Tryz.func204, Tryz.ntmps204
  go_wp2_with fail
  go_loopg [3, 4] t (fun gg s3 s4 wr => ∃ (k : Nat) (d : Int), k ≤ t ∧ t - k ≤ gg ∧ 0 ≤ d ∧ d ≤ 100 ∧ s3 = .int .i64 d ∧ s4 = .int .i64 k ∧ Aside0 (wr = w) ∧ Aside0 (d = (p - 1) / 2 ^ k))
  case atStart => exact ⟨0, p - 1, Nat.zero_le _, by omega, by omega, by omega, rfl, rfl, ⟨rfl⟩, ⟨by simp⟩⟩
  case round =>
    clear b1
    obtain ⟨k, d, hk, hg, hd0, hd1, rfl, rfl, HW, HF⟩ := hrel
    obtain rfl := HW.out
    clear HW
    by_cases hlt : k < t
    · have b : (d % 2 == 0) = true := by have := HH.out k hlt; rw [← HF.out] at this; simpa using this
      have hdd : d / 2 ≤ 100 := by omega
      have hdd0 : 0 ≤ d / 2 := by omega
      go_wp2_with fail
      go_roundg (t - (k + 1))
      case measure => omega
      case rel =>
        refine ⟨k + 1, d / 2, by omega, by omega, hdd0, hdd, rfl, by go_num, ⟨rfl⟩, ⟨?_⟩⟩
        rw [HF.out, Int.pow_succ, Int.ediv_ediv_of_nonneg (by exact Int.le_of_lt (Int.pow_pos (by omega)))]
    · have : k = t := by omega
      subst this
      have b : (d % 2 == 0) = false := by have := HD.out; rw [← HF.out] at this; simp; omega
      have hm : ∀ a : Int, a ∈ [2, 3, 5, 7] → ¬ p = a → ¬ p % a = 0 ∧ ∃ x, modp_Pow.f 40 a d p = some x ∧ 0 ≤ x ∧ x < p ∧ witB x (k - 1) p = false := by
        intro a ha hpa
        have h1 := List.all_eq_true.1 HOK.out a ha
        rw [← HF.out] at h1
        have h2 : (p == a) = false := by simpa using hpa
        rw [h2, Bool.false_or] at h1
        simp only [Bool.and_eq_true, decide_eq_true_eq] at h1
        refine ⟨h1.1, ?_⟩
        cases hx : modp_Pow.f 40 a d p with
        | none => rw [hx] at h1; simp at h1
        | some x =>
          rw [hx] at h1
          simp only [Bool.and_eq_true, decide_eq_true_eq, Bool.not_eq_true'] at h1
          exact ⟨x, rfl, h1.2.1.1, h1.2.1.2, h1.2.2⟩
      have HM := Aside0.mk hm
      clear hm
      go_wp2_with fail
      obtain ⟨w0, HW0⟩ : ∃ w0 : World, w0 = wr := ⟨_, rfl⟩
      go_loopg [6, 30] 4 (fun gg s6 s30 wq => ∃ (j : Nat), j ≤ 4 ∧ 4 - j ≤ gg ∧ s30 = .int .i64 j ∧ Aside0 (Below wr.heap.size wr wq))
      case atStart => exact ⟨0, by omega, by omega, rfl, ⟨Below.refl _ _⟩⟩
      case round =>
        clear b HW0
        obtain ⟨j, hj, hg2, rfl, HB⟩ := hrel
        have hj' : j = 0 ∨ j = 1 ∨ j = 2 ∨ j = 3 ∨ j = 4 := by omega
        rcases hj' with rfl | rfl | rfl | rfl | rfl
        · by_cases c : p = 2
          · have c1 : (p == 2) = true := by simpa using c
            have C := Aside0.mk c
            clear c
            go_wp2_with fail
            go_ret
            exact ⟨rfl, HB.out⟩
          · have c1 : (p == 2) = false := by simpa using c
            obtain ⟨c2, x, hx, hx0, hx1, hw⟩ := HM.out 2 (by simp) c
            have c3 : (p % 2 == 0) = false := by simpa using c2
            have HX := Aside0.mk hx
            have HWB := Aside0.mk hw
            clear c c2 hx hw
            go_wp2_with fail
            refine (witness_any 2 d p x (k - 1) (k : Int) _ (by omega) (by omega) (by omega) (by omega) hx0 hx1 HX.out).mono ?_
            rw [HWB.out]
            rintro e w' ⟨rfl, hb⟩
            go_wp2_with fail
            go_roundg 3
            case measure => omega
            case rel => exact ⟨1, by omega, by omega, rfl, ⟨below_next HB.out hb⟩⟩
        · by_cases c : p = 3
          · have c1 : (p == 3) = true := by simpa using c
            have C := Aside0.mk c
            clear c
            go_wp2_with fail
            go_ret
            exact ⟨rfl, HB.out⟩
          · have c1 : (p == 3) = false := by simpa using c
            obtain ⟨c2, x, hx, hx0, hx1, hw⟩ := HM.out 3 (by simp) c
            have c3 : (p % 3 == 0) = false := by simpa using c2
            have HX := Aside0.mk hx
            have HWB := Aside0.mk hw
            clear c c2 hx hw
            go_wp2_with fail
            refine (witness_any 3 d p x (k - 1) (k : Int) _ (by omega) (by omega) (by omega) (by omega) hx0 hx1 HX.out).mono ?_
            rw [HWB.out]
            rintro e w' ⟨rfl, hb⟩
            go_wp2_with fail
            go_roundg 2
            case measure => omega
            case rel => exact ⟨2, by omega, by omega, rfl, ⟨below_next HB.out hb⟩⟩
        · by_cases c : p = 5
          · have c1 : (p == 5) = true := by simpa using c
            have C := Aside0.mk c
            clear c
            go_wp2_with fail
            go_ret
            exact ⟨rfl, HB.out⟩
          · have c1 : (p == 5) = false := by simpa using c
            obtain ⟨c2, x, hx, hx0, hx1, hw⟩ := HM.out 5 (by simp) c
            have c3 : (p % 5 == 0) = false := by simpa using c2
            have HX := Aside0.mk hx
            have HWB := Aside0.mk hw
            clear c c2 hx hw
            go_wp2_with fail
            refine (witness_any 5 d p x (k - 1) (k : Int) _ (by omega) (by omega) (by omega) (by omega) hx0 hx1 HX.out).mono ?_
            rw [HWB.out]
            rintro e w' ⟨rfl, hb⟩
            go_wp2_with fail
            go_roundg 1
            case measure => omega
            case rel => exact ⟨3, by omega, by omega, rfl, ⟨below_next HB.out hb⟩⟩
        · by_cases c : p = 7
          · have c1 : (p == 7) = true := by simpa using c
            have C := Aside0.mk c
            clear c
            go_wp2_with fail
            go_ret
            exact ⟨rfl, HB.out⟩
          · have c1 : (p == 7) = false := by simpa using c
            obtain ⟨c2, x, hx, hx0, hx1, hw⟩ := HM.out 7 (by simp) c
            have c3 : (p % 7 == 0) = false := by simpa using c2
            have HX := Aside0.mk hx
            have HWB := Aside0.mk hw
            clear c c2 hx hw
            go_wp2_with fail
            refine (witness_any 7 d p x (k - 1) (k : Int) _ (by omega) (by omega) (by omega) (by omega) hx0 hx1 HX.out).mono ?_
            rw [HWB.out]
            rintro e w' ⟨rfl, hb⟩
            go_wp2_with fail
            go_roundg 0
            case measure => omega
            case rel => exact ⟨4, by omega, by omega, rfl, ⟨below_next HB.out hb⟩⟩
        · go_wp2_with fail
          go_ret
          exact ⟨rfl, HB.out⟩
theorem prime2_ok (w : World) : Calls Tryz.prog 204 #[.int .i64 2] w fun e w' => e = .returned (.bool true) ∧ Below w.heap.size w w' := by
  go_enter Tryz.func204, Tryz.ntmps204
  go_wp2_with fail
  go_ret
  exact ⟨rfl, Below.refl _ _⟩
/-- the odd primes up to 100, each with how often one less can be halved. -/
def primeL : List (Int × Nat) := [(3, 1), (5, 2), (7, 1), (11, 1), (13, 2), (17, 4), (19, 1), (23, 1), (29, 2), (31, 1), (37, 2), (41, 3), (43, 1), (47, 1), (53, 2), (59, 1), (61, 2), (67, 1), (71, 1), (73, 3), (79, 1), (83, 1), (89, 3), (97, 5)]
def primeB (p : Int) : Bool := p == 2 || primeL.any fun q => q.1 == p
def oddOk (q : Int × Nat) : Bool := decide (3 ≤ q.1) && decide (q.1 ≤ 100) && decide (q.1 % 2 = 1) && decide (1 ≤ q.2) && decide (q.2 ≤ 10) && (List.range q.2).all (fun i => decide ((q.1 - 1) / 2 ^ i % 2 = 0)) && decide ((q.1 - 1) / 2 ^ q.2 % 2 = 1) && mrB q.1 ((q.1 - 1) / 2 ^ q.2) q.2
set_option maxRecDepth 100000 in
theorem primeL_ok : primeL.all oddOk = true := by decide +kernel
theorem prime_ok (p : Int) (w : World) (hp : primeB p = true) : Calls Tryz.prog 204 #[.int .i64 p] w fun e w' => e = .returned (.bool true) ∧ Below w.heap.size w w' := by
  unfold primeB at hp
  rw [Bool.or_eq_true, beq_iff_eq, List.any_eq_true] at hp
  rcases hp with rfl | ⟨q, hq, e⟩
  · exact prime2_ok w
  · rw [beq_iff_eq] at e
    subst e
    have h := List.all_eq_true.1 primeL_ok q hq
    simp only [oddOk, Bool.and_eq_true, decide_eq_true_eq, List.all_eq_true, List.mem_range] at h
    obtain ⟨⟨⟨⟨⟨⟨⟨h1, h2⟩, h3⟩, h4⟩, h5⟩, h6⟩, h7⟩, h8⟩ := h
    exact primeOdd_ok q.1 q.2 w h1 h2 h3 h4 h5 h6 h7 h8
def colB (rows p : Int) (c : List Int) : Bool := decide ((c.length : Int) = rows) && c.all (fun x => decide (0 ≤ x) && decide (x < p))
theorem elimMay11_any (x p : Int) (b : Nat) (w : World) (hc : w.cell? ⟨b, 0, none⟩ = some (.int .i64 p)) :
    Calls Tryz.prog 206 #[.int .i64 x, .pointer (some ⟨b, 0, none⟩)] w fun e w' => e = .returned (.bool (!(decide (0 ≤ x) && decide (x < p)))) ∧ Below w.heap.size w w' := by
  by_cases h : x < 0
  · have d1 : decide (x < 0) = true := decide_eq_true h
    have e : (!(decide (0 ≤ x) && decide (x < p))) = true := by rw [decide_eq_false (show ¬ 0 ≤ x by omega)]; rfl
    rw [e]
    clear h e
    go_enter Tryz.func206, Tryz.ntmps206
    go_wp2_with fail
    go_ret
    exact ⟨rfl, Below.refl _ _⟩
  · have d1 : decide (x < 0) = false := decide_eq_false h
    have e : (!(decide (0 ≤ x) && decide (x < p))) = decide (p ≤ x) := by rw [decide_eq_true (show 0 ≤ x by omega), Bool.true_and, Bool.eq_iff_iff]; simp
    rw [e]
    clear h e
    go_enter Tryz.func206, Tryz.ntmps206
    go_wp2_with fail
    go_ret
    exact ⟨rfl, Below.refl _ _⟩
theorem elimMay1_any (l : List Int) (A : Option Addr) (c : Nat) (rows p : Int) (b b2 : Nat) (w : World) (hr : Kd.C (Kd.int .i64) w A l.length l) (hl : l.length ≤ c) (hc : w.cell? ⟨b, 0, none⟩ = some (.int .i64 rows)) (hc2 : w.cell? ⟨b2, 0, none⟩ = some (.int .i64 p)) :
    Calls Tryz.prog 205 #[.slice A l.length c, .pointer (some ⟨b, 0, none⟩), .pointer (some ⟨b2, 0, none⟩)] w fun e w' => e = .returned (.bool (!colB rows p l)) ∧ Below w.heap.size w w' := by
  have hmf := run_makeFunc
  have hn := Kd.C_max hr
  have HR := Aside0.mk hr
  clear hr
  by_cases h : (l.length : Int) = rows
  · have h1 : (((l.length : Int)) != rows) = false := by simpa using h
    have H := Aside0.mk h
    have e : (!colB rows p l) = l.any (fun x => !(decide (0 ≤ x) && decide (x < p))) := by
      unfold colB
      rw [decide_eq_true h, Bool.true_and, List.any_eq_not_all_not]
      simp
    rw [e]
    obtain ⟨r, hr⟩ : ∃ r, l.any (fun x => !(decide (0 ≤ x) && decide (x < p))) = r := ⟨_, rfl⟩
    rw [hr]
    have HRR := Aside0.mk hr
    clear hr e h
    go_enter Tryz.func205, Tryz.ntmps205
    go_wp2_with fail
    refine (ContainsFunc_ints 206 #[.pointer (some ⟨b2, 0, none⟩)] (fun j => !(decide (0 ≤ rd l (j : Int)) && decide (rd l (j : Int) < p))) (fun j => .int .i64 (rd l (j : Int))) (enters_of Tryz.func206 (by kernel_rfl) rfl) A l.length c _ ?_ hn ?_).mono ?_
    · intro W j hj hW
      exact elimMay11_any _ _ _ _ ((hW.cell (World.block_lt_of_cell? w _ hc2)).trans hc2)
    · exact cells_int HR.out
    rw [any_range l (fun x => !(decide (0 ≤ x) && decide (x < p)))]
    rw [HRR.out]
    rintro e w' ⟨rfl, hb⟩
    go_wp2_with fail
    go_ret
    exact ⟨rfl, hb⟩
  · have h1 : (((l.length : Int)) != rows) = true := by simpa using h
    have e : (!colB rows p l) = true := by unfold colB; rw [decide_eq_false h]; rfl
    rw [e]
    clear h e
    go_enter Tryz.func205, Tryz.ntmps205
    go_wp2_with fail
    go_ret
    exact ⟨rfl, Below.refl _ _⟩
def elimMayB (p rows : Int) (cols : List (List Int)) : Bool := primeB p && decide (0 ≤ rows) && decide (rows ≤ 64) && decide (cols.length ≤ 64) && cols.all (fun c => colB rows p c)
theorem elimMay_ok (p rows : Int) (l : List (List Int)) (A : Option Addr) (c : Nat) (w : World) (hr : Kd.C (Kd.slice 3 (Kd.int .i64)) w A l.length l) (hok : elimMayB p rows l = true) :
    Calls Tryz.prog 183 #[.int .i64 p, .int .i64 rows, .slice A l.length c] w fun e w' => e = .returned (.bool true) ∧ Below w.heap.size w w' := by
  have hmf := run_makeFunc
  have hn := Kd.C_max hr
  simp only [elimMayB, Bool.and_eq_true, decide_eq_true_eq] at hok
  obtain ⟨⟨⟨⟨h0, h1⟩, h2⟩, h3⟩, h4⟩ := hok
  have H4 := Aside0.mk h4
  have H0 := Aside0.mk h0
  have d1 : decide (rows < 0) = false := decide_eq_false (by omega)
  have d2 : decide (64 < rows) = false := decide_eq_false (by omega)
  have d3 : decide ((64 : Int) < (l.length : Int)) = false := decide_eq_false (by omega)
  have d4 : decide (64 < l.length) = false := decide_eq_false (by omega)
  obtain ⟨E, hE⟩ := cells_lists hr
  have HE := Aside0.mk hE
  clear hr hE h4 h0
  go_enter Tryz.func183, Tryz.ntmps183
  go_wp2_with fail
  refine (prime_ok p _ H0.out).mono ?_
  rintro e w1 ⟨rfl, hb1⟩
  have hc1 : w1.cell? ⟨w.heap.size, 0, none⟩ = some (.int .i64 p) := (hb1.cell (by simp; omega)).trans (by simp)
  have hc2 : w1.cell? ⟨w.heap.size + 1, 0, none⟩ = some (.int .i64 rows) := (hb1.cell (by simp)).trans (by simp)
  have HB1 := Aside0.mk hb1
  clear hb1
  go_wp2_with fail
  refine (ContainsFunc_lists 205 #[.pointer (some ⟨w.heap.size + 1, 0, none⟩), .pointer (some ⟨w.heap.size, 0, none⟩)] (fun j => !colB rows p (l.getD j [])) E (enters_of Tryz.func205 (by kernel_rfl) rfl) A l.length c _ ?_ hn ?_).mono ?_
  · intro W j hj hW
    obtain ⟨_, B, cj, e, e2, e3⟩ := HE.out j hj
    rw [e]
    exact elimMay1_any _ B cj rows p _ _ W (Kd.C_below (Kd.C_below (Kd.C_below e3 (below_alloc (below_alloc (Below.refl _ _) _) _)) HB1.out) hW) e2 ((hW.cell (World.block_lt_of_cell? w1 _ hc2)).trans hc2) ((hW.cell (World.block_lt_of_cell? w1 _ hc1)).trans hc1)
  · intro j hj
    obtain ⟨⟨ad, e, hc⟩, _⟩ := HE.out j hj
    exact ⟨ad, e, ((below_next (below_alloc (below_alloc (Below.refl _ _) _) _) HB1.out).cell (World.block_lt_of_cell? w _ hc)).trans hc⟩
  rw [all_range l [] (fun x => !colB rows p x)]
  have H5 : l.any (fun x => !colB rows p x) = false := by
    rw [List.any_eq_false]
    intro x hx
    simpa using List.all_eq_true.1 H4.out x hx
  rw [H5]
  clear H5
  rintro e w' ⟨rfl, hb⟩
  go_wp2_with fail
  go_ret
  exact ⟨rfl, below_next (below_next (below_alloc (below_alloc (Below.refl _ _) _) _) HB1.out) hb⟩
end Go.Proofs.YtmcloifhgbehdaaGreatDoor
namespace Go.Proofs.YtmcloifhgbehdaaGreatDoor
open Go.RowKit Go.Proofs.YtmcloifhgbehdaaGreatDoorW.PrintWords Go.Proofs.YtmcloifhgbehdaaGreatDoorW.PrintLast Go.Proofs.YtmcloifhgbehdaaGreatDoorW.PrintMore Go.Proofs.YtmcloifhgbehdaaGreatDoor.PBasesSteps
set_option linter.unusedVariables false
set_option linter.unusedSimpArgs false
/-- what a matroid without others within may be. -/
def plainB (m : S25) : Bool :=
  if m.f0 = 0 then decide (m.f2 ≤ m.f1) && decide (m.f3 = 0) && decide (m.f4.length = 0)
  else if m.f0 = 1 then decide (1 ≤ m.f2) && decide (m.f3 = 0) && decide ((m.f4.length : Int) = m.f1) && m.f4.all (fun l => numB l 2 (m.f2 - 1))
  else if m.f0 = 2 then decide (m.f3 = 0) && decide (m.f4.length = 2) && numB (m.f4.getD 0 []) m.f1 (m.f2 - 1) && numB (m.f4.getD 1 []) m.f2 64
  else if m.f0 = 3 then decide (m.f3 = 0) && decide ((m.f4.length : Int) = m.f1) && matchMayB m.f2 m.f4
  else if m.f0 = 4 then decide ((m.f4.length : Int) = m.f1) && elimMayB m.f3 m.f2 m.f4
  else false
theorem add_one' (a : Addr) : a.add 1 = ⟨a.block, a.off + 1, none⟩ := by simp [Addr.add]
set_option maxHeartbeats 1000000 in
set_option maxRecDepth 100000 in
theorem plain_ok (m : S25) (A4 A5 : Option Addr) (c4 c5 : Nat) (w : World) (hN : inB m.f1 64 = true) (hA : inB m.f2 64 = true) (l4 : m.f4.length ≤ c4) (g4 : Kd.C (Kd.slice 3 (Kd.int .i64)) w A4 m.f4.length m.f4) (l5 : m.f5.length ≤ c5) (g5 : Kd.C k25 w A5 m.f5.length m.f5) (hok : plainB m = true) :
    Calls Tryz.prog 150 #[.agg #[.int .i64 m.f0, .int .i64 m.f1, .int .i64 m.f2, .int .i64 m.f3, .slice A4 m.f4.length c4, .slice A5 m.f5.length c5]] w fun e w' => e = .returned (.bool true) ∧ Below w.heap.size w w' := by
  have hmf := run_makeFunc
  have hu25 := Tryz.underlying25
  have hn := Kd.C_max g4
  simp only [inB, Bool.and_eq_true, decide_eq_true_eq] at hN hA
  obtain ⟨hN0, hN1⟩ := hN
  obtain ⟨hA0, hA1⟩ := hA
  have G4 := Aside0.mk g4
  clear g4 g5 l4 l5
  unfold plainB at hok
  by_cases t0 : m.f0 = 0
  · rw [if_pos t0] at hok
    simp only [Bool.and_eq_true, decide_eq_true_eq] at hok
    obtain ⟨⟨h1, h2⟩, h3⟩ := hok
    have b0 : (m.f0 == 0) = true := by simpa using t0
    have d1 : decide (m.f2 ≤ m.f1) = true := decide_eq_true h1
    have d2 : (m.f3 == 0) = true := by simpa using h2
    have d3 : (((m.f4.length : Nat) : Int) == 0) = true := by rw [h3]; rfl
    have d4 : (m.f4.length == 0) = true := by rw [h3]; rfl
    clear t0 h1 h2 h3
    go_enter Tryz.func150, Tryz.ntmps150
    go_wp2_with fail
    go_ret
    exact ⟨rfl, below_alloc (Below.refl _ _) _⟩
  · rw [if_neg t0] at hok
    by_cases t1 : m.f0 = 1
    · rw [if_pos t1] at hok
      simp only [Bool.and_eq_true, decide_eq_true_eq] at hok
      obtain ⟨⟨⟨h1, h2⟩, h3⟩, h4⟩ := hok
      have b0 : (m.f0 == 0) = false := by simpa using t0
      have b1 : (m.f0 == 1) = true := by simpa using t1
      have d1 : decide (1 ≤ m.f2) = true := decide_eq_true h1
      have d2 : (m.f3 == 0) = true := by simpa using h2
      have d3 : (((m.f4.length : Nat) : Int) == m.f1) = true := by rw [h3]; simp
      have H4 := Aside0.mk h4
      obtain ⟨E, hE⟩ := cells_lists G4.out
      have HE := Aside0.mk hE
      clear t0 t1 h1 h2 h3 h4 hE
      go_enter Tryz.func150, Tryz.ntmps150
      go_wp2_with fail
      refine (ContainsFunc_lists 180 #[.pointer (some ⟨w.heap.size, 0, none⟩)] (fun j => !numB (m.f4.getD j []) 2 (m.f2 - 1)) E (enters_of Tryz.func180 (by kernel_rfl) rfl) A4 m.f4.length c4 _ ?_ hn ?_).mono ?_
      · intro W j hj hW
        obtain ⟨_, B, cj, e, e2, e3⟩ := HE.out j hj
        rw [e]
        exact plain1_any _ B cj m.f2 _ W hA0 hA1 (Kd.C_below (Kd.C_below e3 (below_alloc (Below.refl _ _) _)) hW) ((hW.cell (by simp)).trans (by simp))
      · intro j hj
        obtain ⟨⟨ad, e, hc⟩, _⟩ := HE.out j hj
        exact ⟨ad, e, ((below_alloc (Below.refl _ _) _).cell (World.block_lt_of_cell? w _ hc)).trans hc⟩
      rw [all_range m.f4 [] (fun x => !numB x 2 (m.f2 - 1))]
      have H5 : m.f4.any (fun x => !numB x 2 (m.f2 - 1)) = false := by
        rw [List.any_eq_false]
        intro x hx
        simpa using List.all_eq_true.1 H4.out x hx
      rw [H5]
      clear H5
      rintro e w' ⟨rfl, hb⟩
      go_wp2_with fail
      go_ret
      exact ⟨rfl, below_next (below_alloc (Below.refl _ _) _) hb⟩
    · rw [if_neg t1] at hok
      by_cases t2 : m.f0 = 2
      · rw [if_pos t2] at hok
        simp only [Bool.and_eq_true, decide_eq_true_eq] at hok
        obtain ⟨⟨⟨h1, h2⟩, h3⟩, h4⟩ := hok
        have b0 : (m.f0 == 0) = false := by simpa using t0
        have b1 : (m.f0 == 1) = false := by simpa using t1
        have b2 : (m.f0 == 2) = true := by simpa using t2
        have d2 : (m.f3 == 0) = true := by simpa using h1
        obtain ⟨E, hE⟩ := cells_lists G4.out
        obtain ⟨⟨ad, hA4, k0⟩, B0, e0, q0, l0, r0⟩ := hE 0 (by omega)
        obtain ⟨⟨ad', hA4', k1⟩, B1, e1, q1, l1, r1⟩ := hE 1 (by omega)
        subst hA4
        obtain rfl := Option.some.inj hA4'
        rw [q0, Addr.add_zero'] at k0
        rw [q1, add_one'] at k1
        have p0 := World.block_lt_of_cell? w _ k0
        have p1 := World.block_lt_of_cell? w _ k1
        rw [h2]
        have H3 := Aside0.mk h3
        have H4 := Aside0.mk h4
        have c1 : (w.alloc (.cells #[.int .i64 m.f0, .int .i64 m.f1, .int .i64 m.f2, .int .i64 m.f3, .slice (some ad) 2 c4, .slice A5 m.f5.length c5] 25)).cell? ⟨w.heap.size, 1, none⟩ = some (.int .i64 m.f1) := by simp
        have c2 : (w.alloc (.cells #[.int .i64 m.f0, .int .i64 m.f1, .int .i64 m.f2, .int .i64 m.f3, .slice (some ad) 2 c4, .slice A5 m.f5.length c5] 25)).cell? ⟨w.heap.size, 2, none⟩ = some (.int .i64 m.f2) := by simp
        have c3 : (w.alloc (.cells #[.int .i64 m.f0, .int .i64 m.f1, .int .i64 m.f2, .int .i64 m.f3, .slice (some ad) 2 c4, .slice A5 m.f5.length c5] 25)).cell? ⟨w.heap.size, 3, none⟩ = some (.int .i64 m.f3) := by simp
        have c4' : (w.alloc (.cells #[.int .i64 m.f0, .int .i64 m.f1, .int .i64 m.f2, .int .i64 m.f3, .slice (some ad) 2 c4, .slice A5 m.f5.length c5] 25)).cell? ⟨w.heap.size, 4, none⟩ = some (.slice (some ad) 2 c4) := by simp
        have HB := below_alloc (Below.refl w.heap.size w) (.cells #[.int .i64 m.f0, .int .i64 m.f1, .int .i64 m.f2, .int .i64 m.f3, .slice (some ad) 2 c4, .slice A5 m.f5.length c5] 25)
        have k0' := (HB.cell p0).trans k0
        have k1' := (HB.cell p1).trans k1
        have R0 := Aside0.mk (Kd.C_below r0 HB)
        have R1 := Aside0.mk (Kd.C_below r1 HB)
        have HBW := Aside0.mk HB
        have hwr : IntKind.i64.wrap (m.f2 - 1) = m.f2 - 1 := by rw [i64_w]; unfold wrap64; omega
        clear t0 t1 t2 h1 h2 h3 h4 hE q0 q1 r0 r1 hA4' l0 l1 G4 k0 k1 p0 p1 hn HB
        generalize m.f4.getD 0 [] = L0 at k0' R0 H3
        generalize m.f4.getD 1 [] = L1 at k1' R1 H4
        go_enter Tryz.func150, Tryz.ntmps150
        go_wp2_with fail
        generalize hW : w.alloc _ = W0 at c1 c2 c3 c4' k0' k1' HBW R0 R1 ⊢
        generalize hg : w.heap.size = g at c1 c2 c3 c4' ⊢
        clear hW
        go_region_held3 (fun W => W.cell? ⟨g, 1, none⟩ = some (.int .i64 m.f1) ∧ W.cell? ⟨g, 2, none⟩ = some (.int .i64 m.f2) ∧ W.cell? ⟨g, 3, none⟩ = some (.int .i64 m.f3) ∧ W.cell? ⟨g, 4, none⟩ = some (.slice (some ad) 2 c4) ∧ W.cell? ad = some (.slice B0 L0.length e0) ∧ W.cell? ⟨ad.block, ad.off + 1, none⟩ = some (.slice B1 L1.length e1))
          (first | go_keep | (go_split_ands; (repeat' apply And.intro) <;> exact pw_cell_below hb1 (by assumption)))
          (first | (go_at_call 181; with_reducible refine (numbers_any L0 B0 e0 m.f1 (m.f2 - 1) _ (Kd.C_drew R0.out)).mono ?_; rw [H3.out]; rintro e w1 ⟨rfl, hb1⟩; have R1w := Aside0.mk (Kd.C_below (Kd.C_drew R1.out) hb1); have HBq := Aside0.mk (below_next (below_drew HBW.out) hb1)) | (go_at_call 181; with_reducible refine (numbers_any L1 B1 e1 m.f2 64 _ R1w.out).mono ?_; rw [H4.out]; rintro e w1 ⟨rfl, hb1⟩; replace HBq := Aside0.mk (below_next HBq.out hb1)))
        go_wp2_with fail
        go_ret
        exact ⟨rfl, HBq.out⟩
      · rw [if_neg t2] at hok
        by_cases t3 : m.f0 = 3
        · rw [if_pos t3] at hok
          simp only [Bool.and_eq_true, decide_eq_true_eq] at hok
          obtain ⟨⟨h1, h2⟩, h3⟩ := hok
          have b0 : (m.f0 == 0) = false := by simpa using t0
          have b1 : (m.f0 == 1) = false := by simpa using t1
          have b2 : (m.f0 == 2) = false := by simpa using t2
          have b3 : (m.f0 == 3) = true := by simpa using t3
          have d2 : (m.f3 == 0) = true := by simpa using h1
          have d3 : (((m.f4.length : Nat) : Int) == m.f1) = true := by rw [h2]; simp
          have H3 := Aside0.mk h3
          clear t0 t1 t2 t3 h1 h2 h3
          go_enter Tryz.func150, Tryz.ntmps150
          go_wp2_with fail
          refine (matchMay_ok m.f2 m.f4 A4 c4 _ (Kd.C_alloc G4.out _) H3.out).mono ?_
          rintro e w' ⟨rfl, hb⟩
          go_wp2_with fail
          go_ret
          exact ⟨rfl, below_next (below_alloc (Below.refl _ _) _) hb⟩
        · rw [if_neg t3] at hok
          by_cases t4 : m.f0 = 4
          · rw [if_pos t4] at hok
            simp only [Bool.and_eq_true, decide_eq_true_eq] at hok
            obtain ⟨h2, h3⟩ := hok
            have b0 : (m.f0 == 0) = false := by simpa using t0
            have b1 : (m.f0 == 1) = false := by simpa using t1
            have b2 : (m.f0 == 2) = false := by simpa using t2
            have b3 : (m.f0 == 3) = false := by simpa using t3
            have b4 : (m.f0 == 4) = true := by simpa using t4
            have d3 : (((m.f4.length : Nat) : Int) == m.f1) = true := by rw [h2]; simp
            have H3 := Aside0.mk h3
            clear t0 t1 t2 t3 t4 h2 h3
            go_enter Tryz.func150, Tryz.ntmps150
            go_wp2_with fail
            refine (elimMay_ok m.f3 m.f2 m.f4 A4 c4 _ (Kd.C_alloc G4.out _) H3.out).mono ?_
            rintro e w' ⟨rfl, hb⟩
            go_wp2_with fail
            go_ret
            exact ⟨rfl, below_next (below_alloc (Below.refl _ _) _) hb⟩
          · rw [if_neg t4] at hok
            exact absurd hok (by simp)
end Go.Proofs.YtmcloifhgbehdaaGreatDoor
namespace Go.Proofs.YtmcloifhgbehdaaGreatDoor
open Go.RowKit Go.Proofs.YtmcloifhgbehdaaGreatDoorW.PrintWords Go.Proofs.YtmcloifhgbehdaaGreatDoorW.PrintLast Go.Proofs.YtmcloifhgbehdaaGreatDoorW.PrintMore Go.Proofs.YtmcloifhgbehdaaGreatDoor.PBasesSteps
set_option linter.unusedVariables false
set_option linter.unusedSimpArgs false
def inner0 (m : S25) : S25 := m.f5.getD 0 z25
def list0 (m : S25) : List Int := m.f4.getD 0 []
/-- what a matroid with others within may be, as far as these are not asked. -/
def outerOk (m : S25) : Bool :=
  decide (m.f3 = 0) && (decide (m.f0 = 7) || decide (m.f2 = 0)) && (decide (m.f0 < 7) || decide (m.f4.length = 0)) &&
  (if m.f0 = 9 then m.f5.all (fun x => inB x.f1 64) && decide (1 ≤ m.f5.length) && decide (m.f5.length ≤ 8) && decide ((m.f5.map (·.f1)).sum = m.f1)
   else decide (m.f5.length = 1) && (if m.f0 = 5 ∨ m.f0 = 6 then decide (m.f4.length = 1) && setN (list0 m) (inner0 m).f1 && decide (m.f1 = if m.f0 = 5 then ((list0 m).length : Int) else (inner0 m).f1 - (list0 m).length)
     else decide (m.f1 = (inner0 m).f1)))
/-- a matroid that may be, at most so deep. -/
def goodD : Nat → S25 → Bool
  | 0, _ => false
  | d + 1, m => inB m.f1 64 && inB m.f2 64 && (if 5 ≤ m.f0 ∧ m.f0 ≤ 9 then outerOk m && m.f5.all (goodD d) else decide (m.f5.length = 0) && plainB m)
theorem f5_one {w : World} {m : S25} {A5 : Option Addr} (g5 : Kd.C k25 w A5 m.f5.length m.f5) (h : 0 < m.f5.length) :
    ∃ ad B4 d4 B5 d5, A5 = some ad ∧ w.cell? ad = some (.int .i64 (inner0 m).f0) ∧ w.cell? ⟨ad.block, ad.off + 1, none⟩ = some (.int .i64 (inner0 m).f1) ∧ w.cell? ⟨ad.block, ad.off + 2, none⟩ = some (.int .i64 (inner0 m).f2) ∧ w.cell? ⟨ad.block, ad.off + 3, none⟩ = some (.int .i64 (inner0 m).f3) ∧
      w.cell? ⟨ad.block, ad.off + 4, none⟩ = some (.slice B4 (inner0 m).f4.length d4) ∧ w.cell? ⟨ad.block, ad.off + 5, none⟩ = some (.slice B5 (inner0 m).f5.length d5) ∧ (inner0 m).f4.length ≤ d4 ∧ Kd.C (Kd.slice 3 (Kd.int .i64)) w B4 (inner0 m).f4.length (inner0 m).f4 ∧ (inner0 m).f5.length ≤ d5 ∧ Kd.C k25 w B5 (inner0 m).f5.length (inner0 m).f5 := by
  obtain ⟨ad, B4, d4, B5, d5, e, h0, h1, h2, h3, h4, h5, l4, r4, l5, r5⟩ := at_T25 g5 (0 : Int) (by omega) (by omega)
  rw [show rd_T25 m.f5 (0 : Int) = inner0 m from rfl] at h0 h1 h2 h3 h4 h5 l4 r4 l5 r5
  simp only [Int.toNat_zero, Nat.zero_mul, Addr.add_zero'] at h0 h1 h2 h3 h4 h5
  exact ⟨ad, B4, d4, B5, d5, e, h0, h1, h2, h3, h4, h5, l4, r4, l5, r5⟩
theorem f4_one {w : World} {m : S25} {A4 : Option Addr} (g4 : Kd.C (Kd.slice 3 (Kd.int .i64)) w A4 m.f4.length m.f4) (h : 0 < m.f4.length) :
    ∃ ad B c, A4 = some ad ∧ w.cell? ad = some (.slice B (list0 m).length c) ∧ (list0 m).length ≤ c ∧ Kd.C (Kd.int .i64) w B (list0 m).length (list0 m) := by
  obtain ⟨ad, B, c, e, h1, h2, h3⟩ := at_L1 g4 (0 : Int) (by omega) (by omega)
  rw [show rd_L1 m.f4 (0 : Int) = list0 m from rfl] at h1 h2 h3
  simp only [Int.toNat_zero, Addr.add_zero'] at h1
  exact ⟨ad, B, c, e, h1, h2, h3⟩
set_option maxHeartbeats 1000000 in
set_option maxRecDepth 100000 in
theorem part_ok (m : S25) (A4 A5 : Option Addr) (c4 c5 : Nat) (w : World) (l4 : m.f4.length ≤ c4) (g4 : Kd.C (Kd.slice 3 (Kd.int .i64)) w A4 m.f4.length m.f4) (l5 : m.f5.length ≤ c5) (g5 : Kd.C k25 w A5 m.f5.length m.f5) (h4 : m.f4.length = 1) (h5 : m.f5.length = 1) (hs : setN (list0 m) (inner0 m).f1 = true) :
    Calls Tryz.prog 184 #[.agg #[.int .i64 m.f0, .int .i64 m.f1, .int .i64 m.f2, .int .i64 m.f3, .slice A4 m.f4.length c4, .slice A5 m.f5.length c5]] w fun e w' => ∃ B c, e = .returned (.tuple #[.slice B (list0 m).length c, .bool true]) ∧ Below w.heap.size w w' := by
  have hu25 := Tryz.underlying25
  obtain ⟨ad4, B, c, rfl, k4, lB, rB⟩ := f4_one g4 (by omega)
  obtain ⟨ad5, _, _, _, _, rfl, _, k5, _⟩ := f5_one g5 (by omega)
  rw [h4, h5]
  generalize list0 m = L at k4 lB rB hs ⊢
  generalize (inner0 m).f1 = N at k5 hs
  have hn := Kd.C_max rB
  have hm : mayB L = true := by unfold setN at hs; rw [Bool.and_eq_true] at hs; exact hs.1
  have HB := below_alloc (Below.refl w.heap.size w) (.cells #[.int .i64 m.f0, .int .i64 m.f1, .int .i64 m.f2, .int .i64 m.f3, .slice (some ad4) 1 c4, .slice (some ad5) 1 c5] 25)
  have k4' := (HB.cell (World.block_lt_of_cell? w _ k4)).trans k4
  have k5' := (HB.cell (World.block_lt_of_cell? w _ k5)).trans k5
  have RB := Aside0.mk (Kd.C_below rB HB)
  have HM := Aside0.mk hm
  have LB := Aside0.mk lB
  have HBW := Aside0.mk HB
  by_cases h0 : L.length = 0
  · have d1 : (((L.length : Nat) : Int) == 0) = true := by simp [h0]
    have d2 : (L.length == 0) = true := by simp [h0]
    clear HB h0 hs hm lB rB g4 g5 l4 l5 h4 h5 k4 k5
    go_enter Tryz.func184, Tryz.ntmps184
    go_wp2_with fail
    go_quiet ((go_at_call 125; exact Calls.quiet_of (May_q HM.out _ _ _ (Kd.C_drewN RB.out _) LB.out)))
    go_wp2_with fail
    go_ret2
    exact ⟨_, _, rfl, pw_below_drewN HBW.out _⟩
  · have d1 : (((L.length : Nat) : Int) == 0) = false := by simpa using h0
    have d2 : (L.length == 0) = false := by simpa using h0
    obtain ⟨adL, rfl, kL⟩ := cells_int rB (L.length - 1) (by omega)
    have kL' := (HB.cell (World.block_lt_of_cell? w _ kL)).trans kL
    have hb1 : ((L.length - 1 : Nat) : Int) < (L.length : Int) := by clear hn; omega
    have hb2 : (0 : Int) ≤ ((L.length - 1 : Nat) : Int) := Int.natCast_nonneg _
    have hw1 : IntKind.i64.wrap ((L.length : Int) - 1) = ((L.length - 1 : Nat) : Int) := (i64_w _).trans (wrap_pred L.length (by omega) hn)
    have hw2 : wrap64 ((L.length : Int) - 1) = ((L.length - 1 : Nat) : Int) := wrap_pred L.length (by omega) hn
    have hd : decide (rd L ((L.length - 1 : Nat) : Int) < N) = true := by rw [← setN_last hm (by omega) N]; exact hs
    have hd2 : rd L ((L.length - 1 : Nat) : Int) < N := of_decide_eq_true hd
    clear HB h0 hs hm lB rB g4 g5 l4 l5 h4 h5 k4 k5 kL
    go_enter Tryz.func184, Tryz.ntmps184
    go_wp2_with fail
    go_quiet ((go_at_call 125; exact Calls.quiet_of (May_q HM.out _ _ _ (Kd.C_drewN RB.out _) LB.out)))
    go_wp2_with fail
    go_ret2
    exact ⟨_, _, rfl, pw_below_drewN HBW.out _⟩
theorem at_mat {w : World} {A : Option Addr} {l : List S25} (h : Kd.C k25 w A l.length l) (j : Nat) (hj : j < l.length) :
    ∃ ad B4 d4 B5 d5, A = some ad ∧ w.cell? (ad.add (j * 6)) = some (.int .i64 l[j].f0) ∧ w.cell? ⟨(ad.add (j * 6)).block, (ad.add (j * 6)).off + 1, none⟩ = some (.int .i64 l[j].f1) ∧ w.cell? ⟨(ad.add (j * 6)).block, (ad.add (j * 6)).off + 2, none⟩ = some (.int .i64 l[j].f2) ∧ w.cell? ⟨(ad.add (j * 6)).block, (ad.add (j * 6)).off + 3, none⟩ = some (.int .i64 l[j].f3) ∧
      w.cell? ⟨(ad.add (j * 6)).block, (ad.add (j * 6)).off + 4, none⟩ = some (.slice B4 l[j].f4.length d4) ∧ w.cell? ⟨(ad.add (j * 6)).block, (ad.add (j * 6)).off + 5, none⟩ = some (.slice B5 l[j].f5.length d5) ∧ l[j].f4.length ≤ d4 ∧ Kd.C (Kd.slice 3 (Kd.int .i64)) w B4 l[j].f4.length l[j].f4 ∧ l[j].f5.length ≤ d5 ∧ Kd.C k25 w B5 l[j].f5.length l[j].f5 := by
  obtain ⟨ad, B4, d4, B5, d5, e, h0, h1, h2, h3, h4, h5, l4, r4, l5, r5⟩ := at_T25 h (j : Int) (by omega) (by omega)
  have e2 : rd_T25 l (j : Int) = l[j] := by simp [rd_T25, List.getD_eq_getElem?_getD, hj]
  rw [e2] at h0 h1 h2 h3 h4 h5 l4 r4 l5 r5
  simp only [Int.toNat_natCast] at h0 h1 h2 h3 h4 h5
  exact ⟨ad, B4, d4, B5, d5, e, h0, h1, h2, h3, h4, h5, l4, r4, l5, r5⟩
theorem sum_take (l : List Int) (k : Nat) (hk : k < l.length) : (l.take (k + 1)).sum = (l.take k).sum + l[k] := by
  rw [List.take_succ_eq_append_getElem hk, List.sum_append]; simp
theorem sum_range (l : List Int) (h : ∀ x ∈ l, 0 ≤ x ∧ x ≤ 64) (k : Nat) : 0 ≤ (l.take k).sum ∧ (l.take k).sum ≤ 64 * k := by
  induction k with
  | zero => simp
  | succ k ih =>
    by_cases hk : k < l.length
    · rw [sum_take l k hk]
      have := h l[k] (List.getElem_mem hk)
      omega
    · rw [List.take_of_length_le (by omega)] at ih ⊢
      omega
set_option maxHeartbeats 1000000 in
set_option maxRecDepth 100000 in
theorem outerSum_ok (m : S25) (A4 A5 : Option Addr) (c4 c5 : Nat) (w : World) (l4 : m.f4.length ≤ c4) (g4 : Kd.C (Kd.slice 3 (Kd.int .i64)) w A4 m.f4.length m.f4) (l5 : m.f5.length ≤ c5) (g5 : Kd.C k25 w A5 m.f5.length m.f5) (hN : inB m.f1 64 = true) (h0 : m.f0 = 9) (h3 : m.f3 = 0) (h2 : m.f2 = 0) (h4 : m.f4.length = 0) (hall : m.f5.all (fun x => inB x.f1 64) = true) (h1 : 1 ≤ m.f5.length) (h8 : m.f5.length ≤ 8) (hsum : (m.f5.map (·.f1)).sum = m.f1) :
    Calls Tryz.prog 151 #[.agg #[.int .i64 m.f0, .int .i64 m.f1, .int .i64 m.f2, .int .i64 m.f3, .slice A4 m.f4.length c4, .slice A5 m.f5.length c5]] w fun e w' => e = .returned (.bool true) ∧ Below w.heap.size w w' := by
  have hu25 := Tryz.underlying25
  have HB := below_alloc (Below.refl w.heap.size w) (.cells #[.int .i64 9, .int .i64 m.f1, .int .i64 0, .int .i64 0, .slice A4 0 c4, .slice A5 m.f5.length c5] 25)
  have G5 := Aside0.mk (Kd.C_below g5 HB)
  have HBW := Aside0.mk HB
  have c1 : (w.alloc (.cells #[.int .i64 9, .int .i64 m.f1, .int .i64 0, .int .i64 0, .slice A4 0 c4, .slice A5 m.f5.length c5] 25)).cell? ⟨w.heap.size, 1, none⟩ = some (.int .i64 m.f1) := by simp
  have c5' : (w.alloc (.cells #[.int .i64 9, .int .i64 m.f1, .int .i64 0, .int .i64 0, .slice A4 0 c4, .slice A5 m.f5.length c5] 25)).cell? ⟨w.heap.size, 5, none⟩ = some (.slice A5 m.f5.length c5) := by simp
  have C1 := Aside0.mk c1
  have C5 := Aside0.mk c5'
  have hx : ∀ j (hj : j < m.f5.length), 0 ≤ m.f5[j].f1 ∧ m.f5[j].f1 ≤ 64 := by
    intro j hj
    have := List.all_eq_true.1 hall m.f5[j] (List.getElem_mem hj)
    simpa [inB] using this
  have hr : ∀ k, 0 ≤ ((m.f5.map (·.f1)).take k).sum ∧ ((m.f5.map (·.f1)).take k).sum ≤ 64 * k := sum_range _ (fun x hx' => by
    simp only [List.mem_map] at hx'
    obtain ⟨y, hy, rfl⟩ := hx'
    simpa [inB] using List.all_eq_true.1 hall y hy)
  have HX := Aside0.mk hx
  have HR := Aside0.mk hr
  have HS := Aside0.mk hsum
  rw [h0, h2, h3, h4]
  clear hr hx HB c1 c5' g4 g5 l4 l5 hN h0 h3 h2 h4 hall hsum
  go_enter Tryz.func151, Tryz.ntmps151
  go_wp2_with fail
  generalize hW : w.alloc _ = W0 at HBW C1 C5 G5 ⊢
  generalize hg : w.heap.size = g at C1 C5 ⊢
  have HG := Aside0.mk hg
  clear hW hg
  go_loopg [3, 5, 40] m.f5.length (fun gg s3 s5 s40 wr => ∃ k : Nat, k ≤ m.f5.length ∧ m.f5.length - k ≤ gg ∧ s40 = .int .i64 k ∧ s3 = .int .i64 ((m.f5.map (·.f1)).take k).sum ∧ Aside0 (Below W0.heap.size W0 wr))
  case atStart => exact ⟨0, Nat.zero_le _, by omega, rfl, by simp, ⟨Below.refl _ _⟩⟩
  case round =>
    obtain ⟨k, hk, hgg, rfl, rfl, HB⟩ := hrel
    by_cases hlt : k < m.f5.length
    · have hltz : (k : Int) < (m.f5.length : Int) := by omega
      obtain ⟨ad, B4, d4, B5, d5, rfl, e0, e1, e2, e3, e4, e5, _⟩ := at_mat G5.out k hlt
      replace e0 := pw_cell_below HB.out e0
      replace e1 := pw_cell_below HB.out e1
      replace e2 := pw_cell_below HB.out e2
      replace e3 := pw_cell_below HB.out e3
      replace e4 := pw_cell_below HB.out e4
      replace e5 := pw_cell_below HB.out e5
      obtain ⟨x0, x1⟩ := HX.out k hlt
      obtain ⟨r0, r1⟩ := HR.out k
      have hst := sum_take (m.f5.map (·.f1)) k (by simpa using hlt)
      rw [List.getElem_map] at hst
      have HST := Aside0.mk hst
      clear hst
      generalize ((m.f5.map (·.f1)).take k).sum = S at r0 r1 HST ⊢
      generalize m.f5[k] = mk at *
      go_wp2_with fail
      refine (in_any mk.f1 64 _).mono ?_
      have hin : inB mk.f1 64 = true := by simp [inB, x0, x1]
      rw [hin]
      clear hin
      rintro e w' ⟨rfl, hb⟩
      have c1 : w'.cell? ⟨wr.heap.size, 1, none⟩ = some (.int .i64 mk.f1) := (hb.cell (by simp)).trans (by simp)
      have HB' := Aside0.mk (below_next HB.out ((Below.refl _ _).alloc (Nat.le_refl _) _ |>.trans (hb.mono (by simp))))
      go_wp2_with fail
      go_roundg (m.f5.length - (k + 1))
      case measure => omega
      case rel => exact ⟨k + 1, by omega, by omega, by go_num, by rw [HST.out], HB'⟩
    · have hltz : ¬ (k : Int) < (m.f5.length : Int) := by omega
      have hke : k = m.f5.length := by omega
      have hfull : ((m.f5.map (·.f1)).take k).sum = m.f1 := by rw [← HS.out, List.take_of_length_le (by simp; omega)]
      rw [hfull]
      have c1 := pw_cell_below HB.out C1.out
      have c5' := pw_cell_below HB.out C5.out
      have d1 : decide ((1 : Int) ≤ (m.f5.length : Int)) = true := decide_eq_true (by omega)
      have d2 : decide ((m.f5.length : Int) ≤ 8) = true := decide_eq_true (by omega)
      have d3 : decide (1 ≤ m.f5.length) = true := decide_eq_true (by omega)
      have d4 : decide (m.f5.length ≤ 8) = true := decide_eq_true (by omega)
      clear hfull hke
      go_wp2_with fail
      go_ret
      exact ⟨rfl, below_next HBW.out HB.out⟩
set_option maxHeartbeats 1000000 in
set_option maxRecDepth 100000 in
theorem outerTD_ok (m : S25) (A4 A5 : Option Addr) (c4 c5 : Nat) (w : World) (l4 : m.f4.length ≤ c4) (g4 : Kd.C (Kd.slice 3 (Kd.int .i64)) w A4 m.f4.length m.f4) (l5 : m.f5.length ≤ c5) (g5 : Kd.C k25 w A5 m.f5.length m.f5) (h0 : (m.f0 = 7) ∨ (m.f0 = 8 ∧ m.f2 = 0)) (h3 : m.f3 = 0) (h4 : m.f4.length = 0) (h5 : m.f5.length = 1) (h1 : m.f1 = (inner0 m).f1) :
    Calls Tryz.prog 151 #[.agg #[.int .i64 m.f0, .int .i64 m.f1, .int .i64 m.f2, .int .i64 m.f3, .slice A4 m.f4.length c4, .slice A5 m.f5.length c5]] w fun e w' => e = .returned (.bool true) ∧ Below w.heap.size w w' := by
  have hu25 := Tryz.underlying25
  obtain ⟨ad5, _, _, _, _, rfl, _, k5, _⟩ := f5_one g5 (by omega)
  rw [← h1] at k5
  rw [h4, h5, h3]
  have K5 := World.block_lt_of_cell? w _ k5
  rcases h0 with h0 | ⟨h0, h2⟩
  · have HB := below_alloc (Below.refl w.heap.size w) (.cells #[.int .i64 7, .int .i64 m.f1, .int .i64 m.f2, .int .i64 0, .slice A4 0 c4, .slice (some ad5) 1 c5] 25)
    have k5' := pw_cell_below HB k5
    have HBW := Aside0.mk HB
    rw [h0]
    clear h0 h4 h5 h3 g4 g5 l4 l5 HB k5 K5 h1
    go_enter Tryz.func151, Tryz.ntmps151
    go_wp2_with fail
    go_quiet (fail)
    go_wp2_with fail
    go_ret
    exact ⟨by simp, pw_below_drewN HBW.out _⟩
  · rw [h0, h2]
    have HB := below_alloc (Below.refl w.heap.size w) (.cells #[.int .i64 8, .int .i64 m.f1, .int .i64 0, .int .i64 0, .slice A4 0 c4, .slice (some ad5) 1 c5] 25)
    have k5' := pw_cell_below HB k5
    have HBW := Aside0.mk HB
    clear h0 h2 h4 h5 h3 g4 g5 l4 l5 HB k5 K5 h1
    go_enter Tryz.func151, Tryz.ntmps151
    go_wp2_with fail
    go_quiet (fail)
    go_wp2_with fail
    go_ret
    exact ⟨by simp, pw_below_drewN HBW.out _⟩
set_option maxHeartbeats 1000000 in
set_option maxRecDepth 100000 in
theorem outerRC_ok (m : S25) (A4 A5 : Option Addr) (c4 c5 : Nat) (w : World) (l4 : m.f4.length ≤ c4) (g4 : Kd.C (Kd.slice 3 (Kd.int .i64)) w A4 m.f4.length m.f4) (l5 : m.f5.length ≤ c5) (g5 : Kd.C k25 w A5 m.f5.length m.f5) (hN : inB m.f1 64 = true) (h0 : m.f0 = 5 ∨ m.f0 = 6) (h3 : m.f3 = 0) (h2 : m.f2 = 0) (h4 : m.f4.length = 1) (h5 : m.f5.length = 1) (hs : setN (list0 m) (inner0 m).f1 = true) (hi : inB (inner0 m).f1 64 = true)
    (h1 : m.f1 = if m.f0 = 5 then ((list0 m).length : Int) else (inner0 m).f1 - (list0 m).length) :
    Calls Tryz.prog 151 #[.agg #[.int .i64 m.f0, .int .i64 m.f1, .int .i64 m.f2, .int .i64 m.f3, .slice A4 m.f4.length c4, .slice A5 m.f5.length c5]] w fun e w' => e = .returned (.bool true) ∧ Below w.heap.size w w' := by
  have hu25 := Tryz.underlying25
  obtain ⟨ad5, _, _, _, _, rfl, _, k5, _⟩ := f5_one g5 (by omega)
  have HBx : ∀ o : Obj, Below w.heap.size w (w.alloc o) := fun o => below_alloc (Below.refl w.heap.size w) o
  have hcall : ∀ W : World, Below w.heap.size w W → Calls Tryz.prog 184 #[.agg #[.int .i64 m.f0, .int .i64 m.f1, .int .i64 0, .int .i64 0, .slice A4 1 c4, .slice (some ad5) 1 c5]] W fun e w' => ∃ B c, e = .returned (.tuple #[.slice B (list0 m).length c, .bool true]) ∧ Below W.heap.size W w' := by
    intro W hW
    have := part_ok m A4 (some ad5) c4 c5 W l4 (Kd.C_below g4 hW) l5 (Kd.C_below g5 hW) h4 h5 hs
    rwa [h4, h5, h2, h3] at this
  rw [h4, h5, h3, h2]
  simp only [inB, Bool.and_eq_true, decide_eq_true_eq] at hN hi
  have HC := Aside0.mk hcall
  have HK := Aside0.mk k5
  generalize (inner0 m).f1 = N at HK h1 hi
  generalize hL : (list0 m).length = L at HC h1
  have hL8 : (L : Int) ≤ 64 := by
    rcases h0 with h0 | h0
    · rw [h0] at h1; simp at h1; omega
    · rw [h0] at h1; simp at h1; omega
  clear hcall k5 hL HBx g4 g5 l4 l5 hs h4 h5 h3 h2
  rcases h0 with h0 | h0
  · have hq : (m.f1 == (L : Int)) = true := by rw [h0] at h1; simpa using h1
    rw [h0] at HC ⊢
    clear h0 h1
    go_enter Tryz.func151, Tryz.ntmps151
    go_wp2_with fail
    refine (HC.out _ (below_alloc (Below.refl _ _) _)).mono ?_
    rintro e w' ⟨B, c, rfl, hb⟩
    have c1 : w'.cell? ⟨w.heap.size, 1, none⟩ = some (.int .i64 m.f1) := (hb.cell (by simp)).trans (by simp)
    have HB' := Aside0.mk (below_next (below_alloc (Below.refl _ _) _) hb)
    clear hb
    go_wp2_with fail
    go_ret
    exact ⟨rfl, HB'.out⟩
  · have hq : (m.f1 == N - (L : Int)) = true := by rw [h0] at h1; simpa using h1
    rw [h0] at HC ⊢
    clear h0 h1
    go_enter Tryz.func151, Tryz.ntmps151
    go_wp2_with fail
    refine (HC.out _ (below_alloc (Below.refl _ _) _)).mono ?_
    rintro e w' ⟨B, c, rfl, hb⟩
    have c1 : w'.cell? ⟨w.heap.size, 1, none⟩ = some (.int .i64 m.f1) := (hb.cell (by simp)).trans (by simp)
    have c5' : w'.cell? ⟨w.heap.size, 5, none⟩ = some (.slice (some ad5) 1 c5) := (hb.cell (by simp)).trans (by simp)
    have HB' := Aside0.mk (below_next (below_alloc (Below.refl _ _) _) hb)
    have k5 := pw_cell_below HB'.out HK.out
    have hwr : IntKind.i64.wrap (N - (L : Int)) = N - L := by rw [i64_w]; unfold wrap64; omega
    clear hb
    go_wp2_with fail
    go_quiet (fail)
    go_wp2_with fail
    go_ret
    exact ⟨by simp, pw_below_drewN HB'.out _⟩
theorem outer_ok (m : S25) (A4 A5 : Option Addr) (c4 c5 : Nat) (w : World) (l4 : m.f4.length ≤ c4) (g4 : Kd.C (Kd.slice 3 (Kd.int .i64)) w A4 m.f4.length m.f4) (l5 : m.f5.length ≤ c5) (g5 : Kd.C k25 w A5 m.f5.length m.f5) (hN : inB m.f1 64 = true) (ht : 5 ≤ m.f0 ∧ m.f0 ≤ 9) (hi : ∀ x ∈ m.f5, inB x.f1 64 = true) (hok : outerOk m = true) :
    Calls Tryz.prog 151 #[.agg #[.int .i64 m.f0, .int .i64 m.f1, .int .i64 m.f2, .int .i64 m.f3, .slice A4 m.f4.length c4, .slice A5 m.f5.length c5]] w fun e w' => e = .returned (.bool true) ∧ Below w.heap.size w w' := by
  unfold outerOk at hok
  simp only [Bool.and_eq_true, Bool.or_eq_true, decide_eq_true_eq] at hok
  obtain ⟨⟨⟨h3, h2⟩, h4⟩, hk⟩ := hok
  by_cases t9 : m.f0 = 9
  · rw [if_pos t9] at hk
    simp only [Bool.and_eq_true, decide_eq_true_eq] at hk
    obtain ⟨⟨⟨k1, k2⟩, k3⟩, k4⟩ := hk
    exact outerSum_ok m A4 A5 c4 c5 w l4 g4 l5 g5 hN t9 h3 (by omega) (by omega) k1 k2 k3 k4
  · rw [if_neg t9] at hk
    simp only [Bool.and_eq_true, decide_eq_true_eq] at hk
    obtain ⟨h5, hk⟩ := hk
    by_cases t5 : m.f0 = 5 ∨ m.f0 = 6
    · rw [if_pos t5] at hk
      simp only [Bool.and_eq_true, decide_eq_true_eq] at hk
      obtain ⟨⟨k1, k2⟩, k3⟩ := hk
      have hin : inner0 m ∈ m.f5 := by
        unfold inner0
        rw [List.getD_eq_getElem?_getD, List.getElem?_eq_getElem (show 0 < m.f5.length by omega)]
        exact List.getElem_mem _
      exact outerRC_ok m A4 A5 c4 c5 w l4 g4 l5 g5 hN t5 h3 (by omega) k1 h5 k2 (hi _ hin) k3
    · rw [if_neg t5] at hk
      simp only [decide_eq_true_eq] at hk
      exact outerTD_ok m A4 A5 c4 c5 w l4 g4 l5 g5 (by omega) h3 (by omega) h5 hk
end Go.Proofs.YtmcloifhgbehdaaGreatDoor
namespace Go.Proofs.YtmcloifhgbehdaaGreatDoor
open Go.RowKit Go.Proofs.YtmcloifhgbehdaaGreatDoorW.PrintWords Go.Proofs.YtmcloifhgbehdaaGreatDoorW.PrintLast Go.Proofs.YtmcloifhgbehdaaGreatDoorW.PrintMore Go.Proofs.YtmcloifhgbehdaaGreatDoor.PBasesSteps
set_option linter.unusedVariables false
set_option linter.unusedSimpArgs false
theorem in_q {x most : Int} (h : inB x most = true) (w : World) : Calls Tryz.prog 148 #[.int .i64 x, .int .i64 most] w fun e w' => e = .returned (.bool true) ∧ ∃ m, w' = w.drewN m := by
  refine (matroid_in.calls x most true w ?_).mono fun e w' ⟨h1, h2⟩ => ⟨h1, h2.out⟩
  simp only [inB, Bool.and_eq_true, decide_eq_true_eq] at h
  unfold matroid_in.f
  rw [if_pos (by omega), decide_eq_true h.2]
theorem nests_q {x : Int} {b : Bool} (h : decide (5 ≤ x ∧ x ≤ 9) = b) (w : World) : Calls Tryz.prog 149 #[.int .i64 x] w fun e w' => e = .returned (.bool b) ∧ ∃ m, w' = w.drewN m := by
  refine (matroid_nests.calls x b w ?_).mono fun e w' ⟨h1, h2⟩ => ⟨h1, h2.out⟩
  unfold matroid_nests.f
  subst h
  by_cases h : x ≥ 5
  · rw [if_pos h]; congr 1; rw [Bool.eq_iff_iff]; simp; omega
  · rw [if_neg h]; congr 1; symm; rw [decide_eq_false_iff_not]; omega
theorem Quiet.below {P : Program} {f : FuncId} {args : Array Value} {w : World} {v : Value} (h : Calls P f args w fun e w' => e = .returned v ∧ ∃ m, w' = w.drewN m) : Calls P f args w fun e w' => e = .returned v ∧ Below w.heap.size w w' :=
  h.mono fun _ _ ⟨h1, m, h2⟩ => ⟨h1, h2 ▸ pw_below_drewN (Below.refl _ _) m⟩
theorem blk_below {W w' : World} (hb : Below W.heap.size W w') {g : Nat} {o : Obj} (h : W.heap[g]? = some o) : w'.heap[g]? = some o := (hb.block g (Array.getElem?_eq_some_iff.1 h).1).trans h
theorem blk_new (w : World) (o : Obj) : (w.alloc o).heap[w.heap.size]? = some o := by
  show (w.heap.push o)[w.heap.size]? = _
  simp
/-- a world behind another one: all that lay, lies. -/
structure After (W0 : World) where
  val : World
  h : Below W0.heap.size W0 val
instance after_some (W0 : World) : Nonempty (After W0) := ⟨⟨W0, Below.refl _ _⟩⟩
theorem Calls.after {P : Program} {W0 : World} {x : After W0} {f : FuncId} {args : Array Value} {v : Value} (h : Calls P f args x.val fun e w' => e = .returned v ∧ Below x.val.heap.size x.val w') :
    Calls P f args x.val fun e w' => e = .returned v ∧ ∃ y : After W0, w' = y.val :=
  h.mono fun e w' ⟨h1, h2⟩ => ⟨h1, ⟨w', below_next x.h h2⟩, rfl⟩
/-- a region that draws, whose operations read, and whose callees hand back one value whatever they have made: walked once, in the text's order. -/
theorem region_after {P : Program} {id : Nat} {Q : Exit → Act → World → Prop} {a : Act} {w : World} {l : List Oper} (hm : P.follows .mixedOrders = true) (hB : Region.lexB .any l.toArray = true)
    (h : wpQuiet P l.toArray (fun w' => ∃ x : After w, w' = x.val) (fun a' => ∀ w', (∃ x : After w, w' = x.val) → Q .normal a' w') l a) : (Code.region id l.toArray true).wp P Q a w :=
  wp_region_quiet (C := fun w' => ∃ x : After w, w' = x.val) hm hB ⟨⟨_, below_drew (Below.refl _ _)⟩, rfl⟩ (by simpa using h)
set_option maxHeartbeats 1000000 in
set_option maxRecDepth 100000 in
theorem check_ok (d : Nat) : ∀ (m : S25) (A4 A5 : Option Addr) (c4 c5 : Nat) (w : World) (l4 : m.f4.length ≤ c4) (g4 : Kd.C (Kd.slice 3 (Kd.int .i64)) w A4 m.f4.length m.f4) (l5 : m.f5.length ≤ c5) (g5 : Kd.C k25 w A5 m.f5.length m.f5) (hok : goodD d m = true),
    Calls Tryz.prog 112 #[.agg #[.int .i64 m.f0, .int .i64 m.f1, .int .i64 m.f2, .int .i64 m.f3, .slice A4 m.f4.length c4, .slice A5 m.f5.length c5]] w fun e w' => e = .returned .nilIface ∧ Below w.heap.size w w' := by
  induction d with
  | zero => intro m A4 A5 c4 c5 w l4 g4 l5 g5 hok; exact absurd hok (by simp [goodD])
  | succ d ih =>
    intro m A4 A5 c4 c5 w l4 g4 l5 g5 hok
    have hu25 := Tryz.underlying25
    have hn5 := Kd.C_max g5
    simp only [goodD, Bool.and_eq_true] at hok
    obtain ⟨⟨hN, hA⟩, hok⟩ := hok
    have HN := Aside0.mk hN
    have HA := Aside0.mk hA
    have IH := Aside0.mk ih
    clear ih
    by_cases t : 5 ≤ m.f0 ∧ m.f0 ≤ 9
    · rw [if_pos t, Bool.and_eq_true] at hok
      have hnest := Aside0.mk (decide_eq_true t)
      have hi : ∀ x ∈ m.f5, inB x.f1 64 = true := by
        intro x hx
        have := List.all_eq_true.1 hok.2 x hx
        cases d with
        | zero => simp [goodD] at this
        | succ d =>
          simp only [goodD, Bool.and_eq_true] at this
          exact this.1.1
      have hout := Aside0.mk (fun W (hW : Below w.heap.size w W) => outer_ok m A4 A5 c4 c5 W l4 (Kd.C_below g4 hW) l5 (Kd.C_below g5 hW) hN t hi hok.1)
      have G5 := Aside0.mk g5
      have HI := Aside0.mk hok.2
      clear hi g4 g5 hN hA hok t l4 l5
      go_enter Tryz.func112, Tryz.ntmps112
      go_wp2_with fail
      have BK0 := Aside0.mk (blk_new w (.cells #[.int .i64 m.f0, .int .i64 m.f1, .int .i64 m.f2, .int .i64 m.f3, .slice A4 m.f4.length c4, .slice A5 m.f5.length c5] 25))
      have HB0 := Aside0.mk (below_alloc (Below.refl w.heap.size w) (.cells #[.int .i64 m.f0, .int .i64 m.f1, .int .i64 m.f2, .int .i64 m.f3, .slice A4 m.f4.length c4, .slice A5 m.f5.length c5] 25))
      generalize w.alloc _ = W0 at BK0 HB0 ⊢
      generalize hg : w.heap.size = g at BK0 ⊢
      have HG := Aside0.mk hg
      clear hg
      refine (Quiet.below (in_q HN.out _)).mono ?_
      rintro e w' ⟨rfl, hb⟩
      have BK1 := Aside0.mk (blk_below hb BK0.out)
      have HB1 := Aside0.mk (below_next HB0.out hb)
      clear hb
      have z0 : _ = some (Value.int .i64 m.f0) := (blk_cell BK1.out 0).trans rfl
      have z1 : _ = some (Value.int .i64 m.f1) := (blk_cell BK1.out 1).trans rfl
      have z2 : _ = some (Value.int .i64 m.f2) := (blk_cell BK1.out 2).trans rfl
      have z3 : _ = some (Value.int .i64 m.f3) := (blk_cell BK1.out 3).trans rfl
      have z4 : _ = some (Value.slice A4 m.f4.length c4) := (blk_cell BK1.out 4).trans rfl
      have z5 : _ = some (Value.slice A5 m.f5.length c5) := (blk_cell BK1.out 5).trans rfl
      go_wp2_with fail
      refine (Quiet.below (in_q HA.out _)).mono ?_
      rintro e w2 ⟨rfl, hb⟩
      have BK2 := Aside0.mk (blk_below hb BK1.out)
      have HB2 := Aside0.mk (below_next HB1.out hb)
      clear hb
      clear z0 z1 z2 z3 z4 z5 BK1 HB1
      have z0 : _ = some (Value.int .i64 m.f0) := (blk_cell BK2.out 0).trans rfl
      have z1 : _ = some (Value.int .i64 m.f1) := (blk_cell BK2.out 1).trans rfl
      have z2 : _ = some (Value.int .i64 m.f2) := (blk_cell BK2.out 2).trans rfl
      have z3 : _ = some (Value.int .i64 m.f3) := (blk_cell BK2.out 3).trans rfl
      have z4 : _ = some (Value.slice A4 m.f4.length c4) := (blk_cell BK2.out 4).trans rfl
      have z5 : _ = some (Value.slice A5 m.f5.length c5) := (blk_cell BK2.out 5).trans rfl
      go_wp2_with fail
      refine (Quiet.below (nests_q hnest.out _)).mono ?_
      rintro e w3 ⟨rfl, hb⟩
      have BK3 := Aside0.mk (blk_below hb BK2.out)
      have HB3 := Aside0.mk (below_next HB2.out hb)
      clear hb
      clear z0 z1 z2 z3 z4 z5 BK2 HB2
      have z0 : _ = some (Value.int .i64 m.f0) := (blk_cell BK3.out 0).trans rfl
      have z1 : _ = some (Value.int .i64 m.f1) := (blk_cell BK3.out 1).trans rfl
      have z2 : _ = some (Value.int .i64 m.f2) := (blk_cell BK3.out 2).trans rfl
      have z3 : _ = some (Value.int .i64 m.f3) := (blk_cell BK3.out 3).trans rfl
      have z4 : _ = some (Value.slice A4 m.f4.length c4) := (blk_cell BK3.out 4).trans rfl
      have z5 : _ = some (Value.slice A5 m.f5.length c5) := (blk_cell BK3.out 5).trans rfl
      go_wp2_with fail
      refine (Quiet.below (nests_q hnest.out _)).mono ?_
      rintro e w4 ⟨rfl, hb⟩
      have BK4 := Aside0.mk (blk_below hb BK3.out)
      have HB4 := Aside0.mk (below_next HB3.out hb)
      clear hb
      clear z0 z1 z2 z3 z4 z5 BK3 HB3
      have z0 : _ = some (Value.int .i64 m.f0) := (blk_cell BK4.out 0).trans rfl
      have z1 : _ = some (Value.int .i64 m.f1) := (blk_cell BK4.out 1).trans rfl
      have z2 : _ = some (Value.int .i64 m.f2) := (blk_cell BK4.out 2).trans rfl
      have z3 : _ = some (Value.int .i64 m.f3) := (blk_cell BK4.out 3).trans rfl
      have z4 : _ = some (Value.slice A4 m.f4.length c4) := (blk_cell BK4.out 4).trans rfl
      have z5 : _ = some (Value.slice A5 m.f5.length c5) := (blk_cell BK4.out 5).trans rfl
      go_wp2_with fail
      refine (hout.out _ HB4.out).mono ?_
      rintro e w5 ⟨rfl, hb⟩
      have BK5 := Aside0.mk (blk_below hb BK4.out)
      have HB5 := Aside0.mk (below_next HB4.out hb)
      clear hb
      clear z0 z1 z2 z3 z4 z5 BK4 HB4
      have z0 : _ = some (Value.int .i64 m.f0) := (blk_cell BK5.out 0).trans rfl
      have z1 : _ = some (Value.int .i64 m.f1) := (blk_cell BK5.out 1).trans rfl
      have z2 : _ = some (Value.int .i64 m.f2) := (blk_cell BK5.out 2).trans rfl
      have z3 : _ = some (Value.int .i64 m.f3) := (blk_cell BK5.out 3).trans rfl
      have z4 : _ = some (Value.slice A4 m.f4.length c4) := (blk_cell BK5.out 4).trans rfl
      have z5 : _ = some (Value.slice A5 m.f5.length c5) := (blk_cell BK5.out 5).trans rfl
      go_wp2_with fail
      clear z0 z1 z2 z3 z4 z5
      go_loopg [3, 4, 5, 47] m.f5.length (fun gg s3 s4 s5 s47 wr => ∃ k : Nat, k ≤ m.f5.length ∧ m.f5.length - k ≤ gg ∧ s47 = .int .i64 k ∧ Aside0 (Below w.heap.size w wr))
      case atStart => exact ⟨0, Nat.zero_le _, by omega, rfl, HB5⟩
      case round =>
        obtain ⟨k, hk, hgg, rfl, HB⟩ := hrel
        by_cases hlt : k < m.f5.length
        · have hltz : (k : Int) < (m.f5.length : Int) := by omega
          obtain ⟨ad, B4, d4, B5, d5, rfl, e0, e1, e2, e3, e4, e5, l4, r4, l5, r5⟩ := at_mat G5.out k hlt
          replace e0 := pw_cell_below HB.out e0
          replace e1 := pw_cell_below HB.out e1
          replace e2 := pw_cell_below HB.out e2
          replace e3 := pw_cell_below HB.out e3
          replace e4 := pw_cell_below HB.out e4
          replace e5 := pw_cell_below HB.out e5
          have hgood := Aside0.mk (List.all_eq_true.1 HI.out m.f5[k] (List.getElem_mem hlt))
          have R4 := Aside0.mk (Kd.C_below r4 HB.out)
          have R5 := Aside0.mk (Kd.C_below r5 HB.out)
          have L4 := Aside0.mk l4
          have L5 := Aside0.mk l5
          clear r4 r5 l4 l5
          generalize m.f5[k] = mk at *
          go_wp2_with fail
          refine (IH.out mk B4 B5 d4 d5 _ L4.out (Kd.C_alloc R4.out _) L5.out (Kd.C_alloc R5.out _) hgood.out).mono ?_
          rintro e w' ⟨rfl, hb⟩
          have HB' := Aside0.mk (below_next HB.out ((Below.refl _ _).alloc (Nat.le_refl _) _ |>.trans (hb.mono (by simp))))
          clear hb
          go_wp2_with fail
          go_roundg (m.f5.length - (k + 1))
          case measure => omega
          case rel => exact ⟨k + 1, by omega, by omega, by go_num, HB'⟩
        · have hltz : ¬ (k : Int) < (m.f5.length : Int) := by omega
          go_wp2_with fail
          go_ret
          exact ⟨rfl, HB.out⟩
    · rw [if_neg t, Bool.and_eq_true, decide_eq_true_eq] at hok
      have hnest := Aside0.mk (decide_eq_false t)
      have hpl := Aside0.mk (fun W (hW : Below w.heap.size w W) => plain_ok m A4 A5 c4 c5 W hN hA l4 (Kd.C_below g4 hW) l5 (Kd.C_below g5 hW) hok.2)
      have h5 := hok.1
      have q1 : decide ((0 : Int) < (m.f5.length : Int)) = false := by simp [h5]
      have q2 : decide (0 < m.f5.length) = false := by simp [h5]
      have q3 : ¬ (0 : Int) < (m.f5.length : Int) := by omega
      clear g4 g5 hN hA hok t l4 l5 h5
      go_enter Tryz.func112, Tryz.ntmps112
      go_wp2_with fail
      have BK0 := Aside0.mk (blk_new w (.cells #[.int .i64 m.f0, .int .i64 m.f1, .int .i64 m.f2, .int .i64 m.f3, .slice A4 m.f4.length c4, .slice A5 m.f5.length c5] 25))
      have HB0 := Aside0.mk (below_alloc (Below.refl w.heap.size w) (.cells #[.int .i64 m.f0, .int .i64 m.f1, .int .i64 m.f2, .int .i64 m.f3, .slice A4 m.f4.length c4, .slice A5 m.f5.length c5] 25))
      generalize w.alloc _ = W0 at BK0 HB0 ⊢
      generalize hg : w.heap.size = g at BK0 ⊢
      have HG := Aside0.mk hg
      clear hg
      refine (Quiet.below (in_q HN.out _)).mono ?_
      rintro e w1 ⟨rfl, hb⟩
      have BK1 := Aside0.mk (blk_below hb BK0.out)
      have HB1 := Aside0.mk (below_next HB0.out hb)
      clear hb
      have z0 : _ = some (Value.int .i64 m.f0) := (blk_cell BK1.out 0).trans rfl
      have z1 : _ = some (Value.int .i64 m.f1) := (blk_cell BK1.out 1).trans rfl
      have z2 : _ = some (Value.int .i64 m.f2) := (blk_cell BK1.out 2).trans rfl
      have z3 : _ = some (Value.int .i64 m.f3) := (blk_cell BK1.out 3).trans rfl
      have z4 : _ = some (Value.slice A4 m.f4.length c4) := (blk_cell BK1.out 4).trans rfl
      have z5 : _ = some (Value.slice A5 m.f5.length c5) := (blk_cell BK1.out 5).trans rfl
      go_wp2_with fail
      refine (Quiet.below (in_q HA.out _)).mono ?_
      rintro e w2 ⟨rfl, hb⟩
      have BK2 := Aside0.mk (blk_below hb BK1.out)
      have HB2 := Aside0.mk (below_next HB1.out hb)
      clear hb
      clear z0 z1 z2 z3 z4 z5 BK1 HB1
      have z0 : _ = some (Value.int .i64 m.f0) := (blk_cell BK2.out 0).trans rfl
      have z1 : _ = some (Value.int .i64 m.f1) := (blk_cell BK2.out 1).trans rfl
      have z2 : _ = some (Value.int .i64 m.f2) := (blk_cell BK2.out 2).trans rfl
      have z3 : _ = some (Value.int .i64 m.f3) := (blk_cell BK2.out 3).trans rfl
      have z4 : _ = some (Value.slice A4 m.f4.length c4) := (blk_cell BK2.out 4).trans rfl
      have z5 : _ = some (Value.slice A5 m.f5.length c5) := (blk_cell BK2.out 5).trans rfl
      go_wp2_with fail
      refine (Quiet.below (nests_q hnest.out _)).mono ?_
      rintro e w3 ⟨rfl, hb⟩
      have BK3 := Aside0.mk (blk_below hb BK2.out)
      have HB3 := Aside0.mk (below_next HB2.out hb)
      clear hb
      clear z0 z1 z2 z3 z4 z5 BK2 HB2
      have z0 : _ = some (Value.int .i64 m.f0) := (blk_cell BK3.out 0).trans rfl
      have z1 : _ = some (Value.int .i64 m.f1) := (blk_cell BK3.out 1).trans rfl
      have z2 : _ = some (Value.int .i64 m.f2) := (blk_cell BK3.out 2).trans rfl
      have z3 : _ = some (Value.int .i64 m.f3) := (blk_cell BK3.out 3).trans rfl
      have z4 : _ = some (Value.slice A4 m.f4.length c4) := (blk_cell BK3.out 4).trans rfl
      have z5 : _ = some (Value.slice A5 m.f5.length c5) := (blk_cell BK3.out 5).trans rfl
      go_wp2_with fail
      refine (hpl.out _ HB3.out).mono ?_
      rintro e w4 ⟨rfl, hb⟩
      have BK4 := Aside0.mk (blk_below hb BK3.out)
      have HB4 := Aside0.mk (below_next HB3.out hb)
      clear hb
      clear z0 z1 z2 z3 z4 z5 BK3 HB3
      have z0 : _ = some (Value.int .i64 m.f0) := (blk_cell BK4.out 0).trans rfl
      have z1 : _ = some (Value.int .i64 m.f1) := (blk_cell BK4.out 1).trans rfl
      have z2 : _ = some (Value.int .i64 m.f2) := (blk_cell BK4.out 2).trans rfl
      have z3 : _ = some (Value.int .i64 m.f3) := (blk_cell BK4.out 3).trans rfl
      have z4 : _ = some (Value.slice A4 m.f4.length c4) := (blk_cell BK4.out 4).trans rfl
      have z5 : _ = some (Value.slice A5 m.f5.length c5) := (blk_cell BK4.out 5).trans rfl
      go_wp2_with fail
      refine (Quiet.below (nests_q hnest.out _)).mono ?_
      rintro e w5 ⟨rfl, hb⟩
      have BK5 := Aside0.mk (blk_below hb BK4.out)
      have HB5 := Aside0.mk (below_next HB4.out hb)
      clear hb
      clear z0 z1 z2 z3 z4 z5 BK4 HB4
      have z0 : _ = some (Value.int .i64 m.f0) := (blk_cell BK5.out 0).trans rfl
      have z1 : _ = some (Value.int .i64 m.f1) := (blk_cell BK5.out 1).trans rfl
      have z2 : _ = some (Value.int .i64 m.f2) := (blk_cell BK5.out 2).trans rfl
      have z3 : _ = some (Value.int .i64 m.f3) := (blk_cell BK5.out 3).trans rfl
      have z4 : _ = some (Value.slice A4 m.f4.length c4) := (blk_cell BK5.out 4).trans rfl
      have z5 : _ = some (Value.slice A5 m.f5.length c5) := (blk_cell BK5.out 5).trans rfl
      go_wp2_with fail
      clear z0 z1 z2 z3 z4 z5
      go_loopg [3, 4, 5, 47] 0 (fun gg s3 s4 s5 s47 wr => s47 = .int .i64 0 ∧ Aside0 (Below w.heap.size w wr))
      case atStart => exact ⟨rfl, HB5⟩
      case round =>
        obtain ⟨rfl, HB⟩ := hrel
        go_wp2_with fail
        go_ret
        exact ⟨rfl, HB.out⟩
theorem good_len {d : Nat} {m : S25} (h : goodD d m = true) : m.f5.length ≤ 8 := by
  cases d with
  | zero => simp [goodD] at h
  | succ d =>
    simp only [goodD, Bool.and_eq_true] at h
    obtain ⟨_, h⟩ := h
    by_cases t : 5 ≤ m.f0 ∧ m.f0 ≤ 9
    · rw [if_pos t, Bool.and_eq_true] at h
      have h1 := h.1
      unfold outerOk at h1
      simp only [Bool.and_eq_true] at h1
      have h2 := h1.2
      by_cases t9 : m.f0 = 9
      · rw [if_pos t9] at h2
        simp only [Bool.and_eq_true, decide_eq_true_eq] at h2
        exact h2.1.2
      · rw [if_neg t9] at h2
        simp only [Bool.and_eq_true, decide_eq_true_eq] at h2
        omega
    · rw [if_neg t, Bool.and_eq_true, decide_eq_true_eq] at h
      omega
theorem good_inner {d : Nat} {m : S25} (h : goodD (d + 1) m = true) : ∀ x ∈ m.f5, goodD d x = true := by
  intro x hx
  simp only [goodD, Bool.and_eq_true] at h
  obtain ⟨_, h⟩ := h
  by_cases t : 5 ≤ m.f0 ∧ m.f0 ≤ 9
  · rw [if_pos t, Bool.and_eq_true] at h
    exact List.all_eq_true.1 h.2 x hx
  · rw [if_neg t, Bool.and_eq_true, decide_eq_true_eq] at h
    have : m.f5 = [] := List.eq_nil_of_length_eq_zero h.1
    rw [this] at hx; simp at hx
theorem depth_f (d : Nat) : ∀ (m : S25) (left : Int) (k : Nat), goodD d m = true → d ≤ 10 → 0 ≤ left → left ≤ 4 → 12 * d + 12 ≤ k →
    ∃ r, matroid_depth.f k m.f0 m.f1 m.f2 m.f3 m.f4 m.f5 left = some r ∧ 1 ≤ r ∧ r ≤ d := by
  induction d with
  | zero => intro m left k h; simp [goodD] at h
  | succ d ih =>
    intro m left k hg hd h0 h4 hk
    have loop : ∀ (c i : Nat) (x : Int) (q : Nat), m.f5.length - i = c → i ≤ m.f5.length → 0 ≤ x → x ≤ d → 1 ≤ left → c + (12 * d + 12) + 1 ≤ q →
        ∃ r, matroid_depth.l0 q left x m.f5 (m.f5.length : Int) (i : Int) = some r ∧ 1 ≤ r ∧ r ≤ (d : Int) + 1 := by
      intro c
      induction c with
      | zero =>
        intro i x q hc hi hx0 hx1 hl hq
        obtain ⟨q, rfl⟩ : ∃ p, q = p + 1 := ⟨q - 1, by omega⟩
        refine ⟨x + 1, ?_, by omega, by omega⟩
        simp only [matroid_depth.l0]
        rw [if_neg (by omega)]
        congr 1; unfold wrap64; omega
      | succ c ihc =>
        intro i x q hc hi hx0 hx1 hl hq
        obtain ⟨q, rfl⟩ : ∃ p, q = p + 1 := ⟨q - 1, by omega⟩
        have hlt : i < m.f5.length := by omega
        have e2 : rd_T25 m.f5 (i : Int) = m.f5[i] := by simp [rd_T25, List.getD_eq_getElem?_getD, hlt]
        have hw : wrap64 (left - 1) = left - 1 := by unfold wrap64; omega
        obtain ⟨t, ht, t1, t2⟩ := ih m.f5[i] (left - 1) q (good_inner hg _ (List.getElem_mem hlt)) (by omega) (by omega) (by omega) (by omega)
        have hmx : 0 ≤ mx x t ∧ mx x t ≤ d := by unfold mx; split <;> omega
        obtain ⟨r, hr, r1, r2⟩ := ihc (i + 1) (mx x t) q (by omega) (by omega) hmx.1 hmx.2 hl (by omega)
        refine ⟨r, ?_, r1, r2⟩
        simp only [matroid_depth.l0]
        rw [if_pos (by omega), if_pos (by omega), if_pos (by omega), e2, hw, ht]
        simp only [Option.bind_some]
        rw [wrap_succ i (by have := good_len hg; omega)]
        exact hr
    obtain ⟨k, rfl⟩ : ∃ p, k = p + 2 := ⟨k - 2, by omega⟩
    rw [matroid_depth.f]
    by_cases hl : left = 0
    · rw [if_pos hl]
      exact ⟨1, by simp [matroid_depth.j0], by omega, by omega⟩
    · rw [if_neg hl]
      have hn : matroid_nests.f m.f0 = some (decide (5 ≤ m.f0 ∧ m.f0 ≤ 9)) := by
        unfold matroid_nests.f
        by_cases h : m.f0 ≥ 5
        · rw [if_pos h]; congr 1; rw [Bool.eq_iff_iff]; simp; omega
        · rw [if_neg h]; congr 1; symm; rw [decide_eq_false_iff_not]; omega
      rw [hn]
      simp only [Option.bind_some]
      by_cases t : 5 ≤ m.f0 ∧ m.f0 ≤ 9
      · rw [decide_eq_true t]
        obtain ⟨r, hr, r1, r2⟩ := loop m.f5.length 0 0 k (by omega) (by omega) (by omega) (by omega) (by omega) (by have := good_len hg; omega)
        refine ⟨r, ?_, r1, by omega⟩
        simp only [matroid_depth.j0, Bool.not_true, Bool.false_eq_true, if_false]
        exact hr
      · rw [decide_eq_false t]
        exact ⟨1, by simp [matroid_depth.j0], by omega, by omega⟩
theorem Deep_ok (m : S25) (A4 A5 : Option Addr) (c4 c5 : Nat) (w : World) (l4 : m.f4.length ≤ c4) (g4 : Kd.C (Kd.slice 3 (Kd.int .i64)) w A4 m.f4.length m.f4) (l5 : m.f5.length ≤ c5) (g5 : Kd.C k25 w A5 m.f5.length m.f5) (hok : goodD 4 m = true) :
    Calls Tryz.prog 111 #[.agg #[.int .i64 m.f0, .int .i64 m.f1, .int .i64 m.f2, .int .i64 m.f3, .slice A4 m.f4.length c4, .slice A5 m.f5.length c5]] w fun e w' => ∃ r : Int, r ≤ 4 ∧ e = .returned (.int .i64 r) ∧ Below w.heap.size w w' := by
  obtain ⟨r, hr, r1, r2⟩ := depth_f 4 m 4 60 hok (by omega) (by omega) (by omega) (by omega)
  refine (matroid_Deep.calls 60 _ _ _ _ A4 c4 m.f4 A5 c5 m.f5 r w g4 l4 g5 l5 ?_).mono fun e w' ⟨h1, h2⟩ => ⟨r, by omega, h1, h2⟩
  unfold matroid_Deep.f
  rw [hr]; rfl
set_option maxHeartbeats 1000000 in
set_option maxRecDepth 100000 in
theorem Check_ok (m : S25) (A4 A5 : Option Addr) (c4 c5 : Nat) (w : World) (l4 : m.f4.length ≤ c4) (g4 : Kd.C (Kd.slice 3 (Kd.int .i64)) w A4 m.f4.length m.f4) (l5 : m.f5.length ≤ c5) (g5 : Kd.C k25 w A5 m.f5.length m.f5) (hok : goodD 4 m = true) :
    Calls Tryz.prog 82 #[.agg #[.int .i64 m.f0, .int .i64 m.f1, .int .i64 m.f2, .int .i64 m.f3, .slice A4 m.f4.length c4, .slice A5 m.f5.length c5]] w fun e w' => e = .returned (.int .i64 0) ∧ Below w.heap.size w w' := by
  have hu25 := Tryz.underlying25
  have G4 := Aside0.mk g4
  have G5 := Aside0.mk g5
  have L4 := Aside0.mk l4
  have L5 := Aside0.mk l5
  have HOK := Aside0.mk hok
  clear g4 g5 l4 l5 hok
  go_enter Tryz.func82, Tryz.ntmps82
  go_wp2_with fail
  have BK0 := Aside0.mk (blk_new w (.cells #[.int .i64 m.f0, .int .i64 m.f1, .int .i64 m.f2, .int .i64 m.f3, .slice A4 m.f4.length c4, .slice A5 m.f5.length c5] 25))
  have HB0 := Aside0.mk (below_alloc (Below.refl w.heap.size w) (.cells #[.int .i64 m.f0, .int .i64 m.f1, .int .i64 m.f2, .int .i64 m.f3, .slice A4 m.f4.length c4, .slice A5 m.f5.length c5] 25))
  generalize w.alloc _ = W0 at BK0 HB0 ⊢
  generalize hg : w.heap.size = g at BK0 ⊢
  have HG := Aside0.mk hg
  clear hg
  refine (Deep_ok m A4 A5 c4 c5 _ L4.out (Kd.C_below G4.out HB0.out) L5.out (Kd.C_below G5.out HB0.out) HOK.out).mono ?_
  rintro e w1 ⟨r, hr, rfl, hb⟩
  have BK1 := Aside0.mk (blk_below hb BK0.out)
  have HB1 := Aside0.mk (below_next HB0.out hb)
  clear hb
  have z0 : _ = some (Value.int .i64 m.f0) := (blk_cell BK1.out 0).trans rfl
  have z1 : _ = some (Value.int .i64 m.f1) := (blk_cell BK1.out 1).trans rfl
  have z2 : _ = some (Value.int .i64 m.f2) := (blk_cell BK1.out 2).trans rfl
  have z3 : _ = some (Value.int .i64 m.f3) := (blk_cell BK1.out 3).trans rfl
  have z4 : _ = some (Value.slice A4 m.f4.length c4) := (blk_cell BK1.out 4).trans rfl
  have z5 : _ = some (Value.slice A5 m.f5.length c5) := (blk_cell BK1.out 5).trans rfl
  have hr2 : decide (4 < r) = false := decide_eq_false (by omega)
  go_wp2_with fail
  refine (check_ok 4 m A4 A5 c4 c5 _ L4.out (Kd.C_below G4.out HB1.out) L5.out (Kd.C_below G5.out HB1.out) HOK.out).mono ?_
  rintro e w2 ⟨rfl, hb⟩
  have HB2 := Aside0.mk (below_next HB1.out hb)
  clear hb z0 z1 z2 z3 z4 z5 BK1 HB1
  go_wp2_with fail
  go_ret
  exact ⟨rfl, by first | exact HB2.out | exact below_alloc HB2.out _⟩
end Go.Proofs.YtmcloifhgbehdaaGreatDoor
namespace Go.Proofs.YtmcloifhgbehdaaGreatDoor
open Go.RowKit Go.Proofs.YtmcloifhgbehdaaGreatDoorW.PrintWords Go.Proofs.YtmcloifhgbehdaaGreatDoorW.PrintLast Go.Proofs.YtmcloifhgbehdaaGreatDoorW.PrintMore Go.Proofs.YtmcloifhgbehdaaGreatDoor.PBasesSteps
set_option linter.unusedVariables false
set_option linter.unusedSimpArgs false
theorem setN_may {l : List Int} {n : Int} (h : setN l n = true) : mayB l = true := by unfold setN at h; rw [Bool.and_eq_true] at h; exact h.1
theorem setN_lt {l : List Int} {n : Int} (h : setN l n = true) {x : Int} (hx : x ∈ l) : 0 ≤ x ∧ x < n := by
  unfold setN at h
  rw [Bool.and_eq_true, List.all_eq_true] at h
  exact ⟨may_nonneg h.1 hx, by simpa using h.2 x hx⟩
theorem setN_length {l : List Int} {n : Nat} (h : setN l n = true) : l.length ≤ n := by
  have h1 := may_nodup (setN_may h)
  have h2 : l ⊆ allL n := fun x hx => mem_allL.2 (setN_lt h hx)
  have := List.Nodup.length_le_of_subset h1 h2
  rwa [allL_length] at this
end Go.Proofs.YtmcloifhgbehdaaGreatDoor
namespace Go.Proofs.YtmcloifhgbehdaaGreatDoor
open Go.RowKit Go.Proofs.YtmcloifhgbehdaaGreatDoorW.PrintWords Go.Proofs.YtmcloifhgbehdaaGreatDoorW.PrintLast Go.Proofs.YtmcloifhgbehdaaGreatDoorW.PrintMore Go.Proofs.YtmcloifhgbehdaaGreatDoor.PBasesSteps
set_option linter.unusedVariables false
set_option linter.unusedSimpArgs false
theorem elements_any (m : S25) (s : List Int) (A4 A5 : Option Addr) (c4 c5 : Nat) (B : Option Addr) (cs : Nat) (w : World) (l4 : m.f4.length ≤ c4) (g4 : Kd.C (Kd.slice 3 (Kd.int .i64)) w A4 m.f4.length m.f4) (l5 : m.f5.length ≤ c5) (g5 : Kd.C k25 w A5 m.f5.length m.f5) (hr : Kd.C (Kd.int .i64) w B s.length s) (hc : s.length ≤ cs) :
    Calls Tryz.prog 96 #[.agg #[.int .i64 m.f0, .int .i64 m.f1, .int .i64 m.f2, .int .i64 m.f3, .slice A4 m.f4.length c4, .slice A5 m.f5.length c5], .slice B s.length cs] w fun e w' => e = .returned (.bool (setN s m.f1)) ∧ Below w.heap.size w w' := by
  have hn := Kd.C_max hr
  refine indep_elements.calls (s.length + 1) _ _ _ _ A4 c4 m.f4 A5 c5 m.f5 B cs s (setN s m.f1) w g4 l4 g5 l5 hr hc ?_
  unfold indep_elements.f
  rw [May_f s hn _ (by omega)]
  simp only [Option.bind_some]
  by_cases hm : mayB s = true
  · rw [if_pos hm]
    by_cases h0 : (s.length : Int) = 0
    · rw [if_pos h0]
      have : s = [] := List.eq_nil_of_length_eq_zero (by omega)
      rw [this]; rfl
    · rw [if_neg h0, wrap_pred s.length (by omega) hn, if_pos (by omega), if_pos (by omega), setN_last hm (by omega)]
  · rw [if_neg hm, setN_no (by simpa using hm)]
theorem May_ok (m : S25) (s : List Int) (A4 A5 : Option Addr) (c4 c5 : Nat) (B : Option Addr) (cs : Nat) (w : World) (l4 : m.f4.length ≤ c4) (g4 : Kd.C (Kd.slice 3 (Kd.int .i64)) w A4 m.f4.length m.f4) (l5 : m.f5.length ≤ c5) (g5 : Kd.C k25 w A5 m.f5.length m.f5) (hr : Kd.C (Kd.int .i64) w B s.length s) (hc : s.length ≤ cs) (hok : goodD 4 m = true) :
    Calls Tryz.prog 55 #[.agg #[.int .i64 m.f0, .int .i64 m.f1, .int .i64 m.f2, .int .i64 m.f3, .slice A4 m.f4.length c4, .slice A5 m.f5.length c5], .slice B s.length cs] w fun e w' => e = .returned (.bool (setN s m.f1)) ∧ Below w.heap.size w w' := by
  have hu25 := Tryz.underlying25
  have hcheck := Aside0.mk (fun W (hW : Below w.heap.size w W) => Check_ok m A4 A5 c4 c5 W l4 (Kd.C_below g4 hW) l5 (Kd.C_below g5 hW) hok)
  have hel := Aside0.mk (fun W (hW : Below w.heap.size w W) => elements_any m s A4 A5 c4 c5 B cs W l4 (Kd.C_below g4 hW) l5 (Kd.C_below g5 hW) (Kd.C_below hr hW) hc)
  clear g4 g5 l4 l5 hr hc hok
  go_enter Tryz.func55, Tryz.ntmps55
  go_wp2_with fail
  have BK0 := Aside0.mk (blk_new w (.cells #[.int .i64 m.f0, .int .i64 m.f1, .int .i64 m.f2, .int .i64 m.f3, .slice A4 m.f4.length c4, .slice A5 m.f5.length c5] 25))
  have HB0 := Aside0.mk (below_alloc (Below.refl w.heap.size w) (.cells #[.int .i64 m.f0, .int .i64 m.f1, .int .i64 m.f2, .int .i64 m.f3, .slice A4 m.f4.length c4, .slice A5 m.f5.length c5] 25))
  generalize w.alloc _ = W0 at BK0 HB0 ⊢
  generalize hg : w.heap.size = g at BK0 ⊢
  have HG := Aside0.mk hg
  clear hg
  refine (hcheck.out _ HB0.out).mono ?_
  rintro e w1 ⟨rfl, hb⟩
  have BK1 := Aside0.mk (blk_below hb BK0.out)
  have HB1 := Aside0.mk (below_next HB0.out hb)
  clear hb
  have z0 : _ = some (Value.int .i64 m.f0) := (blk_cell BK1.out 0).trans rfl
  have z1 : _ = some (Value.int .i64 m.f1) := (blk_cell BK1.out 1).trans rfl
  have z2 : _ = some (Value.int .i64 m.f2) := (blk_cell BK1.out 2).trans rfl
  have z3 : _ = some (Value.int .i64 m.f3) := (blk_cell BK1.out 3).trans rfl
  have z4 : _ = some (Value.slice A4 m.f4.length c4) := (blk_cell BK1.out 4).trans rfl
  have z5 : _ = some (Value.slice A5 m.f5.length c5) := (blk_cell BK1.out 5).trans rfl
  go_wp2_with fail
  refine (hel.out _ HB1.out).mono ?_
  rintro e w2 ⟨rfl, hb⟩
  have HB2 := Aside0.mk (below_next HB1.out hb)
  clear hb z0 z1 z2 z3 z4 z5
  go_wp2_with fail
  go_ret
  exact ⟨rfl, HB2.out⟩
end Go.Proofs.YtmcloifhgbehdaaGreatDoor
namespace Go.Proofs.YtmcloifhgbehdaaGreatDoor
open Go.RowKit Go.Proofs.YtmcloifhgbehdaaGreatDoorW.PrintWords Go.Proofs.YtmcloifhgbehdaaGreatDoorW.PrintLast Go.Proofs.YtmcloifhgbehdaaGreatDoorW.PrintMore Go.Proofs.YtmcloifhgbehdaaGreatDoor.PBasesSteps
set_option linter.unusedVariables false
set_option linter.unusedSimpArgs false
def par (up : List Nat) (i : Nat) : Nat := (up[i]?).getD i
def nl (up : List Nat) : List Int := up.map fun i : Nat => (i : Int)
theorem nl_length (up : List Nat) : (nl up).length = up.length := by simp [nl]
theorem nl_set (up : List Nat) (v b : Nat) : (nl up).set v (b : Int) = nl (up.set v b) := by simp [nl, List.map_set]
theorem rd_nl (up : List Nat) (v : Nat) (hv : v < up.length) : rd (nl up) (v : Int) = (par up v : Int) := by
  rw [rd_nat _ _ (by rw [nl_length]; exact hv)]
  simp [nl, par, hv]
/-- the forest in memory: its block F, the parents' block U. -/
structure FstAt (wB W : World) (F U cap : Nat) (up : List Nat) (joins : Int) : Prop where
  blk : W.heap[F]? = some (.cells #[.slice (some ⟨U, 0, none⟩) up.length cap, .int .i64 joins] 161 (0, 0))
  own : Kd.R (Kd.int .i64) 3 W wB.heap.size (fun _ => True) (.slice (some ⟨U, 0, none⟩) up.length cap) (nl up)
  below : Below wB.heap.size wB W
  base : wB.heap.size ≤ F
theorem FstAt.apart {wB W : World} {F U cap : Nat} {up : List Nat} {joins : Int} (h : FstAt wB W F U cap up joins) (hp : 0 < up.length) : F ≠ U ∧ wB.heap.size ≤ U := by
  obtain ⟨g, c, hv, hg, -, cells, hc⟩ := Kd.R_form h.own (by rw [nl_length]; exact hp)
  injection hv with hv
  injection hv with hv
  injection hv with hv
  subst hv
  exact ⟨blk_ne h.blk hc (by decide), hg⟩
theorem FstAt.put {wB W : World} {F U cap : Nat} {up : List Nat} {joins : Int} (h : FstAt wB W F U cap up joins) (x q : Nat) (hx : x < up.length) :
    FstAt wB (W.setCell ⟨U, x, none⟩ (.int .i64 q)) F U cap (up.set x q) joins := by
  obtain ⟨hne, hU⟩ := h.apart (by omega)
  have hp := Kd.R_put (by have := h.own; rw [← nl_length] at this; exact this) (x : Int) (q : Int)
  rw [Int.toNat_natCast, nl_set, nl_length] at hp
  exact ⟨by rw [List.length_set]; exact blk_far h.blk hne _, by rw [List.length_set]; exact hp.1, h.below.setCell (p := ⟨U, x, none⟩) hU (.int .i64 q), h.base⟩
theorem FstAt.drew {wB W : World} {F U cap : Nat} {up : List Nat} {joins : Int} (h : FstAt wB W F U cap up joins) : FstAt wB W.drew F U cap up joins :=
  ⟨h.blk, Kd.R_drew h.own, below_drew h.below, h.base⟩
theorem FstAt.alloc {wB W : World} {F U cap : Nat} {up : List Nat} {joins : Int} (h : FstAt wB W F U cap up joins) (o : Obj) : FstAt wB (W.alloc o) F U cap up joins :=
  ⟨(Below.refl W.heap.size W).alloc (Nat.le_refl _) o |>.block F (blk_lt h.blk) |>.trans h.blk, Kd.R_alloc h.own o, h.below.alloc h.below.size o, h.base⟩
theorem FstAt.cells {wB W : World} {F U cap : Nat} {up : List Nat} {joins : Int} (h : FstAt wB W F U cap up joins) :
    W.cell? ⟨F, 0, none⟩ = some (.slice (some ⟨U, 0, none⟩) up.length cap) ∧ W.cell? ⟨F, 1, none⟩ = some (.int .i64 joins) ∧ W.frozen? ⟨F, 1, none⟩ = false ∧
      ∀ x, x < up.length → W.cell? ⟨U, x, none⟩ = some (.int .i64 (par up x : Nat)) ∧ W.frozen? ⟨U, x, none⟩ = false := by
  refine ⟨(blk_cell h.blk 0).trans rfl, (blk_cell h.blk 1).trans rfl, blk_frozen h.blk 1, fun x hx => ?_⟩
  have c := Kd.R_cell (0 : Int) (by have := h.own; rw [← nl_length] at this; exact this) (x : Int) (by omega) (by rw [nl_length]; omega)
  simp only [Int.toNat_natCast] at c
  refine ⟨?_, c.2⟩
  rw [c.1, show rdOf 0 (nl up) (x : Int) = rd (nl up) (x : Int) from rfl, rd_nl up x hx]
theorem FstAt.count {wB W : World} {F U cap : Nat} {up : List Nat} {joins : Int} (h : FstAt wB W F U cap up joins) (hp : 0 < up.length) (j : Int) : FstAt wB (W.setCell ⟨F, 1, none⟩ (.int .i64 j)) F U cap up j := by
  obtain ⟨hne, hU⟩ := h.apart hp
  refine ⟨?_, ?_, h.below.setCell (p := ⟨F, 1, none⟩) h.base (.int .i64 j), h.base⟩
  · exact (blk_set h.blk 1 (.int .i64 j)).trans rfl
  · refine Kd.R_mono (Kd.R_far (Kd.R_bound h.own) (p := ⟨F, 1, none⟩) (fun k hk => ?_) _) (fun _ _ => trivial)
    rintro rfl
    obtain ⟨-, -, -, q, hq, cells, hc⟩ := hk
    have hx := hc.symm.trans h.blk
    injection hx with hx
    injection hx with _ hx
    subst hx
    exact absurd hq (by decide)
/-- join: two trees become one. -/
def joinR (r : Nat → Nat) (u v : Nat) (i : Nat) : Nat := if r i = max (r u) (r v) then min (r u) (r v) else r i
/-- the forest that a graph's edges make: roots and the number of joins. -/
def grow : (Nat → Nat) × Nat → List (Int × Int) → (Nat → Nat) × Nat
  | p, [] => p
  | p, e :: es => grow (joinR p.1 e.1.toNat e.2.toNat, if p.1 e.1.toNat = p.1 e.2.toNat then p.2 else p.2 + 1) es
end Go.Proofs.YtmcloifhgbehdaaGreatDoor
namespace Go.Proofs.YtmcloifhgbehdaaGreatDoor
open Go.RowKit Go.Proofs.YtmcloifhgbehdaaGreatDoorW.PrintWords Go.Proofs.YtmcloifhgbehdaaGreatDoorW.PrintLast Go.Proofs.YtmcloifhgbehdaaGreatDoorW.PrintMore Go.Proofs.YtmcloifhgbehdaaGreatDoor.PBasesSteps
set_option linter.unusedVariables false
set_option linter.unusedSimpArgs false
theorem mul_one_ok : ∀ n : Nat, n < 128 → bits_Mul.f 1 (n : Int) = some (0, (n : Int)) := by decide
/-- a part of a row of one's own overwritten. -/
theorem R_splice {w : World} {base g n cap : Nat} {xs : List Int} (h : Kd.R (Kd.int .i64) 3 w base (fun _ => True) (.slice (some ⟨g, 0, none⟩) n cap) xs) (hn : xs.length = n) (h0 : 0 < n) :
    ∃ cur : List Value, w.heap[g]? = some (.cells cur.toArray 3 (0, 0)) ∧ base ≤ g ∧ n ≤ cap ∧ cur.length = cap ∧ (∀ j, j < n → cur[j]? = some (.int .i64 (xs.getD j 0))) ∧
      ∀ (w' : World) (off : Nat) (ys : List Int), off + ys.length ≤ n → w'.heap[g]? = some (.cells (splice cur off (ys.map (Value.int .i64))).toArray 3 (0, 0)) →
        Kd.R (Kd.int .i64) 3 w' base (fun _ => True) (.slice (some ⟨g, 0, none⟩) n cap) (splice xs off ys) := by
  have ho := Kd.own_of_R h
  rw [hn] at ho
  obtain ⟨hl, ⟨_, hx0⟩ | ⟨g', cap', cur, hv, hb, hh, hnc, hcm, hcs, htake⟩⟩ := ho
  · omega
  · injection hv with hv1 hv2 hv3
    injection hv1 with hv1
    injection hv1 with hv1
    subst hv1
    subst hv3
    rw [Nat.mul_one] at hcs htake
    have hch : ∀ j, j < n → cur.toList[j]? = some (.int .i64 (xs.getD j 0)) := by
      intro j hj
      have e := encs_get (enc := Value.int .i64) (d := (0 : Int)) xs j (by omega)
      rw [← htake, List.getElem?_take, if_pos hj] at e
      exact e
    refine ⟨cur.toList, by simpa using hh, hb, hnc, by simpa using hcs, hch, fun w' off ys hfit hw => ?_⟩
    have hsl : (splice xs off ys).length = n := by rw [length_splice _ _ _ (by omega)]; exact hn
    refine Kd.R_of_own ?_ (fun _ _ => trivial)
    rw [hsl]
    refine ⟨by rw [encs_length, hsl, Nat.mul_one], .inr ⟨g, cap, _, rfl, hb, hw, hnc, hcm, ?_, ?_⟩⟩
    · rw [List.size_toArray, length_splice _ _ _ (by simp; omega)]
      simpa using hcs
    · have he : encs (Value.int .i64) xs = xs.map (Value.int .i64) := rfl
      have he2 : encs (Value.int .i64) (splice xs off ys) = (splice xs off ys).map (Value.int .i64) := rfl
      rw [he2, Nat.mul_one]
      rw [he] at htake
      simp only [splice, List.map_append, List.map_take, List.map_drop, ← htake]
      rw [List.take_append, List.take_append, List.take_take, List.length_take, List.length_map, List.take_take]
      have hcl : cur.toList.length = cap := by simpa using hcs
      rw [hcl, show min n off = off from by omega, show min off n = off from by omega, show min off cap = off from by omega, List.take_of_length_le (l := ys.map _) (by simp; omega), List.drop_take]
      rw [show n - off - ys.length = n - (off + ys.length) from by omega]
def row (n k : Nat) (x : Int) : List Int := List.replicate k x ++ List.replicate (n - k) 0
theorem row_length (n k : Nat) (hk : k ≤ n) (x : Int) : (row n k x).length = n := by simp [row]; omega
theorem row_first (n : Nat) (x : Int) : ([x].take (min 1 (List.replicate (n : Int).toNat (0 : Int)).length) ++ (List.replicate (n : Int).toNat (0 : Int)).drop (min 1 (List.replicate (n : Int).toNat (0 : Int)).length)) = row n (min 1 n) x := by
  rw [Int.toNat_natCast, List.length_replicate]
  cases n with
  | zero => rfl
  | succ n => simp [row, show min 1 (n + 1) = 1 from by omega]
theorem row_step (n k m : Nat) (hm : k + m ≤ n) (x : Int) : splice (row n k x) k (List.replicate m x) = row n (k + m) x := by
  unfold splice row
  rw [List.take_append_of_le_length (by simp), List.take_of_length_le (by simp), List.length_replicate, List.drop_append, List.drop_of_length_le (by simp), List.length_replicate, List.drop_replicate, List.nil_append, ← List.append_assoc, List.replicate_append_replicate]
  congr 2
  omega
set_option maxHeartbeats 2000000 in
set_option maxRecDepth 100000 in
theorem Repeat_ok (w : World) (n : Nat) (hn : n < 128) (x : Int) (A : Option Addr) (c : Nat) (hc : 1 ≤ c) (h0 : Kd.C (Kd.int .i64) w A 1 [x]) :
    Calls Tryz.prog 107 #[.slice A 1 c, .int .i64 n] w fun e w' => ∃ v, e = .returned v ∧ Kd.R (Kd.int .i64) 3 w' w.heap.size (fun _ => True) v (List.replicate n x) ∧ Below w.heap.size w w' := by
  have hmul := mul_one_ok n hn
  have x0 : ¬ ((n : Int) < 0) := by omega
  have HM := Aside0.mk hmul
  clear hmul
  go_enter Tryz.func107, Tryz.ntmps107
  go_wp2_with (first
    | (go_at_call 110; with_reducible refine (bits_Mul.calls 1 n 0 n _ HM.out).mono ?_; rintro e w1 ⟨rfl, hw1⟩; have HW1 := Aside0.mk hw1.below; clear hw1)
    | ((with_reducible refine gate_dst (N := 30) rfl ?_); refine Kd.R_make (Kd.int .i64) _ 3 rfl (N := 30) rfl 28 _ _ rfl (n : Int) rfl rfl Tryz.underlying28 (.int .i64 0) 8 info3 rfl (by decide) (by omega) 0 (ok := fun _ => True) (okp := fun _ => True) rfl (fun _ hk => hk) trivial (by omega) (by omega) HW1.out HW1.out.size ?_; intro v1 w2 ho hb hg hat; have HO := Aside0.mk ho; have HB := Aside0.mk hb; clear ho hb hg hat)
    | ((with_reducible refine gate_dst (N := 33) rfl ?_); refine Kd.R_copy (0 : Int) w.heap.size rfl (.tmp 31) (.tmp 32) 28 28 3 rfl Tryz.underlying28 (by kernel_rfl) v1 (List.replicate (n : Int).toNat 0) [x] A 1 c (fun _ => True) rfl rfl HO.out (Kd.C_below h0 HB.out) HB.out HB.out.size ?_; intro w3 ho3 hb3 hg3; rw [row_first] at ho3; have HO3 := Aside0.mk ho3; have HB3 := Aside0.mk hb3; clear ho3 hb3 hg3))
  obtain ⟨A', c', hv1⟩ := own_slice (Kd.own_of_R HO3.out)
  rw [row_length n _ (by omega)] at hv1
  subst hv1
  have hcc : n ≤ c' := (Kd.R_reads' HO3.out).2.1
  clear HO HB
  go_loopg [8] n (fun gg s8 wr => ∃ k : Nat, k ≤ n ∧ n - k ≤ gg ∧ (n = 0 ∨ 1 ≤ k) ∧ s8 = .int .i64 k ∧ Aside0 (Kd.R (Kd.int .i64) 3 wr w.heap.size (fun _ => True) (.slice A' n c') (row n k x)) ∧ Aside0 (Below w.heap.size w wr))
  case atStart => exact ⟨min 1 n, by omega, by omega, by omega, rfl, HO3, HB3⟩
  case round =>
    obtain ⟨k, hkn0, hgg, hk1, rfl, HO, HB⟩ := hrel
    by_cases hk : k < n
    · have x1 : (k : Int) < (n : Int) := by omega
      have x2 : (0 : Int) ≤ (k : Int) := by omega
      have hck : ¬ c' = k := by omega
      have hkc : k ≤ c' := by omega
      obtain ⟨g, cap, hv, -⟩ := Kd.R_form HO.out (by rw [row_length n k (by omega)]; omega)
      rw [row_length n k (by omega)] at hv
      injection hv with hv1 hv2 hv3
      subst hv1
      subst hv3
      obtain ⟨cur, hcur, hgb, hnc, hcl, hce, hput⟩ := R_splice HO.out (row_length n k (by omega) x) (by omega)
      have HPUT := Aside0.mk hput
      clear hput
      go_wp2_with fail
      have hn1 : (List.replicate (min k (n - k)) (Value.int .i64 x)).length = Nat.min k (n - k) := by rw [List.length_replicate]
      have hsr : 0 < (List.replicate (min k (n - k)) (Value.int .i64 x)).length → (some ⟨g, k, none⟩ : Option Addr) = some ⟨g, k, none⟩ ∧ ∃ ad, (some ⟨g, 0, none⟩ : Option Addr) = some ad ∧ ∀ j v, (List.replicate (min k (n - k)) (Value.int .i64 x))[j]? = some v → wr.drew.cell? (ad.add j) = some v := by
        intro _
        refine ⟨rfl, _, rfl, fun j v hj => ?_⟩
        rw [List.getElem?_replicate] at hj
        split at hj
        · rename_i hjk
          rw [add_plain]
          refine (show wr.drew.cell? ⟨g, j, none⟩ = wr.cell? ⟨g, j, none⟩ from rfl).trans ((blk_cell hcur j).trans ?_)
          rw [List.getElem?_toArray, hce j (by omega), ← hj]
          simp only [row, List.getD_eq_getElem?_getD]
          rw [List.getElem?_append_left (by simp; omega), List.getElem?_replicate, if_pos (by omega)]
          rfl
        · cases hj
      have hft : k + (List.replicate (min k (n - k)) (Value.int .i64 x)).length ≤ cur.length := by rw [List.length_replicate]; omega
      have hon : ∀ v ∈ List.replicate (min k (n - k)) (Value.int .i64 x), v.oneCell' = true := by
        intro v hv
        rw [List.eq_of_mem_replicate hv]; rfl
      have hcd : wr.drew.heap[g]? = some (.cells cur.toArray 3 (0, 0)) := hcur
      have hbd := below_drew HB.out
      have H1 := Aside0.mk hn1
      have H2 := Aside0.mk hsr
      have H3 := Aside0.mk hft
      have H4 := Aside0.mk hon
      have H5 := Aside0.mk hcd
      have H6 := Aside0.mk hbd
      have HCS : Aside0 (List.replicate (min k (n - k)) (Value.int .i64 x) = (List.replicate (min k (n - k)) x).map (Value.int .i64)) := ⟨by simp⟩
      have HCL : Aside0 ((List.replicate (min k (n - k)) (Value.int .i64 x)).length = min k (n - k)) := ⟨by simp⟩
      clear hn1 hsr hft hon hcd hbd hce hcl hcur
      generalize List.replicate (min k (n - k)) (Value.int .i64 x) = CS at *
      go_region_law (refine step_copy_splice rfl (.tmp 41) (.tmp 44) 28 28 rfl 3 Tryz.underlying28 (by kernel_rfl) (some ⟨g, k, none⟩) (some ⟨g, 0, none⟩) (n - k) (c' - k) k c' (by simp [Act.eval, Act.put]) (by simp [Act.eval, Act.put]) g k cur 3 H5.out CS H1.out H2.out H3.out H4.out w.heap.size w H6.out hgb ?_; intro w4 hg4 hb4)
      rw [HCS.out] at hg4
      have HO4 := HPUT.out w4 k (List.replicate (min k (n - k)) x) (by simp; omega) hg4
      rw [row_step n k _ (by omega)] at HO4
      have HO5 := Aside0.mk HO4
      have HB5 := Aside0.mk hb4
      have HL := HCL.out
      rw [HCS.out] at HL
      clear HO4 hg4 hb4
      go_wp2_with fail
      go_roundg (n - (k + min k (n - k)))
      case measure => omega
      case rel => exact ⟨k + min k (n - k), by omega, by omega, by omega, by rw [HCL.out]; refine congrArg _ ?_; rw [IntWalk.i64_in _ (by omega)]; omega, HO5, HB5⟩
    · have x1 : ¬ (k : Int) < (n : Int) := by omega
      have hkn : k = n := by omega
      rw [hkn, row, Nat.sub_self, List.replicate_zero, List.append_nil] at HO
      go_wp2_with fail
      go_ret
      exact ⟨_, rfl, HO.out, HB.out⟩
end Go.Proofs.YtmcloifhgbehdaaGreatDoor
namespace Go.Proofs.YtmcloifhgbehdaaGreatDoor
open Go.RowKit Go.Proofs.YtmcloifhgbehdaaGreatDoorW.PrintWords Go.Proofs.YtmcloifhgbehdaaGreatDoorW.PrintLast Go.Proofs.YtmcloifhgbehdaaGreatDoorW.PrintMore Go.Proofs.YtmcloifhgbehdaaGreatDoor.PBasesSteps
set_option linter.unusedVariables false
set_option linter.unusedSimpArgs false
structure St where
  left : List Int
  of : List Int
  seen : List Bool
structure OkS (nl nr : Nat) (s : St) : Prop where
  left : s.left.length = nl
  of : s.of.length = nr
  seen : s.seen.length = nr
  may : ∀ k : Int, 0 ≤ k → k < nr → rd s.of k = -1 ∨ 0 ≤ rd s.of k ∧ rd s.of k < nl
def Arcs (nr : Nat) (l : List Int) : Prop := ∀ k, k ∈ l → 0 ≤ k ∧ k < nr
theorem OkS.take {nl nr : Nat} {s : St} (h : OkS nl nr s) (i : Nat) (k : Int) (hi : i < nl) : OkS nl nr { s with left := s.left.set i k, of := s.of.set k.toNat i } := by
  refine ⟨by simp [h.left], by simp [h.of], h.seen, fun j h0 h1 => ?_⟩
  have := h.may j h0 h1
  have hl := h.of
  simp only [rd, List.getD_eq_getElem?_getD, List.getElem?_set] at this ⊢
  split
  · rename_i e
    rw [if_pos (by omega)]
    right
    simp
    omega
  · exact this
/-- the pairs in memory: their block P, the three rows. -/
structure PairAt (wB W : World) (P : Nat) (A : Option Addr) (n c : Nat) (vL vO vS : Value) (s : St) : Prop where
  blk : W.heap[P]? = some (.cells #[.slice A n c, vL, vO, vS] 194 (0, 0))
  left : Kd.R (Kd.int .i64) 3 W wB.heap.size (fun _ => True) vL s.left
  of : Kd.R (Kd.int .i64) 3 W wB.heap.size (fun _ => True) vO s.of
  seen : Kd.R Kd.bool 4 W wB.heap.size (fun _ => True) vS s.seen
  ne : ∀ k, vL.ownBlock = some k → vO.ownBlock ≠ some k
  below : Below wB.heap.size wB W
  base : wB.heap.size ≤ P
section
variable {wB W : World} {P n c : Nat} {A : Option Addr} {vL vO vS : Value} {s : St}
theorem own_grown {W W' : World} {base : Nat} {v : Value} {xs : List Int} (h : Kd.R (Kd.int .i64) 3 W base (fun _ => True) v xs) {row : Option Nat} (hg : W.grownBy W' row) (hne : ∀ k, v.ownBlock = some k → some k ≠ row) : Kd.R (Kd.int .i64) 3 W' base (fun _ => True) v xs :=
  Kd.R_mono (Kd.R_grown (Kd.R_of_own (h1 := fun _ => rfl) (Kd.own_of_R h) (fun _ hk => hk)) hg hne) (fun _ _ => trivial)
theorem PairAt.take (h : PairAt wB W P A n c vL vO vS s) (i k : Nat) (hi : i < s.left.length) (hk : k < s.of.length) :
    ∃ g cap g' cap' x y, vL = .slice (some ⟨g, 0, none⟩) s.left.length cap ∧ vO = .slice (some ⟨g', 0, none⟩) s.of.length cap' ∧ W.cell? ⟨g, i, none⟩ = some (.int .i64 x) ∧ W.frozen? ⟨g, i, none⟩ = false ∧ W.cell? ⟨g', k, none⟩ = some (.int .i64 y) ∧ W.frozen? ⟨g', k, none⟩ = false ∧ g ≠ g' ∧
      PairAt wB ((W.setCell ⟨g, i, none⟩ (.int .i64 k)).setCell ⟨g', k, none⟩ (.int .i64 i)) P A n c vL vO vS { s with left := s.left.set i k, of := s.of.set k i } := by
  obtain ⟨g, cap, hv, hg, -, cells, hcl⟩ := Kd.R_form h.left (by omega)
  obtain ⟨g', cap', hv', hg', -, cells', hcl'⟩ := Kd.R_form h.of (by omega)
  subst hv hv'
  have hgg : g ≠ g' := by
    rintro rfl
    exact h.ne g rfl rfl
  obtain ⟨hc1, hc2⟩ := Kd.R_cell (0 : Int) h.left (i : Int) (by omega) (by omega)
  obtain ⟨hd1, hd2⟩ := Kd.R_cell (0 : Int) h.of (k : Int) (by omega) (by omega)
  have hp := Kd.R_put h.left (i : Int) (k : Int)
  rw [Int.toNat_natCast] at hc1 hc2 hd1 hd2 hp
  have ho := own_grown h.of hp.2 (fun q hq => by
    have : q = g' := (Option.some.inj hq).symm
    rw [this]
    exact fun e => hgg (Option.some.inj e).symm)
  have hp' := Kd.R_put ho (k : Int) (i : Int)
  rw [Int.toNat_natCast] at hp'
  have hl' := own_grown hp.1 hp'.2 (fun q hq => by
    have : q = g := (Option.some.inj hq).symm
    rw [this]
    exact fun e => hgg (Option.some.inj e))
  have hne := blk_ne h.blk hcl (by decide)
  have hne' := blk_ne h.blk hcl' (by decide)
  exact ⟨g, cap, g', cap', _, _, rfl, rfl, hc1, hc2, hd1, hd2, hgg, blk_far (blk_far h.blk hne _) hne' _, hl', hp'.1,
    Kd.R_over (Kd.R_over h.seen h.left (by decide) hp.2) ho (by decide) hp'.2, h.ne, (h.below.setCell (p := ⟨g, i, none⟩) hg _).setCell (p := ⟨g', k, none⟩) hg' _, h.base⟩
theorem PairAt.cells (h : PairAt wB W P A n c vL vO vS s) : W.cell? ⟨P, 0, none⟩ = some (.slice A n c) ∧ W.cell? ⟨P, 1, none⟩ = some vL ∧ W.cell? ⟨P, 2, none⟩ = some vO ∧ W.cell? ⟨P, 3, none⟩ = some vS :=
  ⟨(blk_cell h.blk 0).trans rfl, (blk_cell h.blk 1).trans rfl, (blk_cell h.blk 2).trans rfl, (blk_cell h.blk 3).trans rfl⟩
theorem PairAt.drew (h : PairAt wB W P A n c vL vO vS s) : PairAt wB W.drew P A n c vL vO vS s := ⟨h.blk, Kd.R_drew h.left, Kd.R_drew h.of, Kd.R_drew h.seen, h.ne, below_drew h.below, h.base⟩
end
end Go.Proofs.YtmcloifhgbehdaaGreatDoor
namespace Go.Proofs.YtmcloifhgbehdaaGreatDoor
open Go.RowKit Go.Proofs.YtmcloifhgbehdaaGreatDoorW.PrintWords Go.Proofs.YtmcloifhgbehdaaGreatDoorW.PrintLast Go.Proofs.YtmcloifhgbehdaaGreatDoorW.PrintMore Go.Proofs.YtmcloifhgbehdaaGreatDoor.PBasesSteps
set_option linter.unusedVariables false
set_option linter.unusedSimpArgs false
theorem C_one {W : World} {g : Nat} {x : Int} (h : W.cell? ⟨g, 0, none⟩ = some (.int .i64 x)) : Kd.C (Kd.int .i64) W (some ⟨g, 0, none⟩) 1 [x] := by
  refine Kd.C_of_reads (enc := Value.int .i64) (d := (0 : Int)) ⟨rfl, by omega, fun _ => ⟨_, rfl, fun i hi => ?_⟩⟩
  obtain rfl : i = 0 := by omega
  rw [add_plain]
  exact h
theorem slice_of {W : World} {base n : Nat} {v : Value} {xs : List Int} (h : Kd.R (Kd.int .i64) 3 W base (fun _ => True) v xs) (hn : xs.length = n) : ∃ A c, v = .slice A n c := by
  obtain ⟨A, c, hv⟩ := own_slice (v := v) (Kd.own_of_R (enc := Value.int .i64) (h1 := fun _ => rfl) h)
  exact ⟨A, c, hn ▸ hv⟩
end Go.Proofs.YtmcloifhgbehdaaGreatDoor
namespace Go.Proofs.YtmcloifhgbehdaaGreatDoor
open Go.RowKit Go.Proofs.YtmcloifhgbehdaaGreatDoorW.PrintWords Go.Proofs.YtmcloifhgbehdaaGreatDoorW.PrintLast Go.Proofs.YtmcloifhgbehdaaGreatDoorW.PrintMore Go.Proofs.YtmcloifhgbehdaaGreatDoor.PBasesSteps
set_option linter.unusedVariables false
set_option linter.unusedSimpArgs false
theorem R_empty (W : World) (base : Nat) (hb : base ≤ W.heap.size) : Kd.R (Kd.int .i64) 3 (W.alloc (.cells #[] 3 (0, 0))) base (fun _ => True) (.slice (some ⟨W.heap.size, 0, none⟩) 0 0) ([] : List Int) := by
  refine Kd.R_of_own (enc := Value.int .i64) (h1 := fun _ => rfl) ?_ (fun _ _ => trivial)
  exact ⟨rfl, .inr ⟨W.heap.size, 0, #[], rfl, hb, blk_new _ _, Nat.le_refl _, by decide, rfl, rfl⟩⟩
set_option maxHeartbeats 2000000 in
set_option maxRecDepth 100000 in
theorem Clone_any (w : World) (A : Option Addr) (c : Nat) (xs : List Int) (hc : xs.length ≤ c) (hr : Kd.C (Kd.int .i64) w A xs.length xs) (hx : xs.length ≤ 4096) :
    Calls Tryz.prog 161 #[.slice A xs.length c] w fun e w' => ∃ v, e = .returned v ∧ Kd.R (Kd.int .i64) 3 w' w.heap.size (fun _ => True) v xs ∧ Below w.heap.size w w' := by
  have hnil := fun (W : World) (a : Option Addr) (l c : Nat) => run_eql_slice_nil (P := Tryz.prog) W 28 3 a l c Tryz.underlying28
  cases A with
  | none =>
    have hx0 : xs = [] := by
      rcases Nat.eq_zero_or_pos xs.length with h | h
      · exact List.eq_nil_of_length_eq_zero h
      · obtain ⟨ad, h2, -⟩ := hr.2.2 h
        cases h2
    subst hx0
    go_enter Tryz.func161, Tryz.ntmps161
    go_wp2_with fail
    go_ret
    exact ⟨_, rfl, Kd.R_nil _ _ _ _ _, Below.refl _ _⟩
  | some ad =>
    have HR := Aside0.mk hr
    clear hr
    go_enter Tryz.func161, Tryz.ntmps161
    go_wp2_with (at_builtin; refine Kd.R_append_rows (Kd.int .i64) (w0 := w) w.heap.size rfl (.tmp 5) (.tmp 6) 28 3 (.int .i64 0) 8 rfl Tryz.underlying28 info3 rfl (by decide) (by omega) (.slice (some ⟨w.heap.size, 0, none⟩) 0 0) [] xs (some ad) xs.length c (fun _ => True) (fun _ => False) rfl rfl (R_empty w w.heap.size (Nat.le_refl _)) (Kd.C_below HR.out (below_alloc (Below.refl _ _) _)) (fun x cs h => h) (fun _ hk => hk.elim) (fun _ _ => trivial) (below_alloc (Below.refl _ _) _) (below_alloc (Below.refl _ _) _).size (by simp; omega) ?_; intro v5 w1 ho hb hg hat; rw [List.nil_append] at ho; have HO1 := Aside0.mk ho; have HB1 := Aside0.mk hb; clear ho hb hg hat)
    go_ret
    exact ⟨_, rfl, HO1.out, HB1.out⟩
end Go.Proofs.YtmcloifhgbehdaaGreatDoor
namespace Go.Proofs.YtmcloifhgbehdaaGreatDoor
open Go.RowKit Go.Proofs.YtmcloifhgbehdaaGreatDoorW.PrintWords Go.Proofs.YtmcloifhgbehdaaGreatDoorW.PrintLast Go.Proofs.YtmcloifhgbehdaaGreatDoorW.PrintMore Go.Proofs.YtmcloifhgbehdaaGreatDoor.PBasesSteps
set_option linter.unusedVariables false
set_option linter.unusedSimpArgs false
theorem points_any (s : List Int) (n : Int) (B : Option Addr) (cs : Nat) (w : World) (hr : Kd.C (Kd.int .i64) w B s.length s) (hc : s.length ≤ cs) :
    Calls Tryz.prog 119 #[.slice B s.length cs, .int .i64 n] w fun e w' => e = .returned (.bool (setN s n)) ∧ Below w.heap.size w w' := by
  have hn := Kd.C_max hr
  refine (reach_points.calls (s.length + 1) B cs s n (setN s n) w hr hc ?_).mono fun e w' ⟨h1, h2⟩ => ⟨h1, h2.below⟩
  unfold reach_points.f
  rw [May_f s hn _ (by omega)]
  simp only [Option.bind_some]
  by_cases hm : mayB s = true
  · rw [if_pos hm]
    by_cases h0 : (s.length : Int) = 0
    · rw [if_pos h0]
      have : s = [] := List.eq_nil_of_length_eq_zero (by omega)
      rw [this]; rfl
    · rw [if_neg h0, wrap_pred s.length (by omega) hn, if_pos (by omega), if_pos (by omega), setN_last hm (by omega)]
  · rw [if_neg hm, setN_no (by simpa using hm)]
theorem reachMay1_ok (l : List Int) (A : Option Addr) (c : Nat) (b : Nat) (B : Option Addr) (n m : Nat) (w : World) (hr : Kd.C (Kd.int .i64) w A l.length l) (hl : l.length ≤ c) (hc : w.cell? ⟨b, 0, none⟩ = some (.slice B n m)) :
    Calls Tryz.prog 160 #[.slice A l.length c, .pointer (some ⟨b, 0, none⟩)] w fun e w' => e = .returned (.bool (!setN l n)) ∧ Below w.heap.size w w' := by
  have HR := Aside0.mk hr
  clear hr
  go_enter Tryz.func160, Tryz.ntmps160
  go_wp2_with (go_at_call 119; refine (points_any l n A c _ HR.out hl).mono ?_; rintro e w1 ⟨rfl, hb⟩; have HB := Aside0.mk hb; clear hb)
  go_ret
  exact ⟨rfl, HB.out⟩
/-- of what may be. -/
theorem reachMay_ok (l : List (List Int)) (A : Option Addr) (c : Nat) (w : World) (hr : Kd.C (Kd.slice 3 (Kd.int .i64)) w A l.length l) (h1 : l.length ≤ 4096) (h4 : l.all (fun x => setN x l.length) = true) :
    Calls Tryz.prog 118 #[.slice A l.length c] w fun e w' => e = .returned (.bool true) ∧ Below w.heap.size w w' := by
  have hmf := run_makeFunc
  have hn := Kd.C_max hr
  have H4 := Aside0.mk h4
  have d3 : decide ((l.length : Int) ≤ 4096) = true := decide_eq_true (by omega)
  have d4 : decide (l.length ≤ 4096) = true := decide_eq_true (by omega)
  obtain ⟨E, hE⟩ := cells_lists hr
  have HE := Aside0.mk hE
  clear hr hE h4
  go_enter Tryz.func118, Tryz.ntmps118
  go_wp2_with fail
  refine (ContainsFunc_lists 160 #[.pointer (some ⟨w.heap.size, 0, none⟩)] (fun j => !setN (l.getD j []) l.length) E (enters_of Tryz.func160 (by kernel_rfl) rfl) A l.length c _ ?_ hn ?_).mono ?_
  · intro W j hj hW
    obtain ⟨_, B, cj, e, e2, e3⟩ := HE.out j hj
    rw [e]
    exact reachMay1_ok _ B cj _ A l.length c W (Kd.C_below (Kd.C_below e3 (below_alloc (Below.refl _ _) _)) hW) e2 ((hW.cell (by simp)).trans (by simp))
  · intro j hj
    obtain ⟨⟨ad, e, hc⟩, _⟩ := HE.out j hj
    exact ⟨ad, e, ((below_alloc (Below.refl _ _) _).cell (World.block_lt_of_cell? w _ hc)).trans hc⟩
  rw [all_range l [] (fun x => !setN x l.length)]
  have H5 : l.any (fun x => !setN x l.length) = false := by
    rw [List.any_eq_false]
    intro x hx
    simpa using List.all_eq_true.1 H4.out x hx
  rw [H5]
  clear H5
  rintro e w' ⟨rfl, hb⟩
  go_wp2_with fail
  go_ret
  exact ⟨rfl, below_next (below_alloc (Below.refl _ _) _) hb⟩
end Go.Proofs.YtmcloifhgbehdaaGreatDoor
namespace Go.Proofs.YtmcloifhgbehdaaGreatDoor
open Go.RowKit Go.Proofs.YtmcloifhgbehdaaGreatDoorW.PrintWords Go.Proofs.YtmcloifhgbehdaaGreatDoorW.PrintLast Go.Proofs.YtmcloifhgbehdaaGreatDoorW.PrintMore Go.Proofs.YtmcloifhgbehdaaGreatDoor.PBasesSteps
set_option linter.unusedVariables false
set_option linter.unusedSimpArgs false
def visit (v : Int) : List Int → List Int × List Int → List Int × List Int
  | [], s => s
  | u :: us, s => visit v us (if rd s.1 u = -1 then (s.1.set u.toNat (rd s.1 v + 1), s.2 ++ [u]) else s)
def farL (adj : List (List Int)) : Nat → List Int × List Int → List Int
  | 0, s => s.1
  | f + 1, s => match s.2 with
    | [] => s.1
    | v :: q => farL adj f (visit v (rd_L1 adj v) (s.1, q))
def zeroL : List Int → List Int → List Int
  | [], out => out
  | v :: vs, out => zeroL vs (out.set v.toNat 0)
def farF (adj : List (List Int)) (src : List Int) : List Int :=
  farL adj (2 * adj.length + src.length + 1) (zeroL src (List.replicate adj.length (-1)), src)
/-- all is in its bounds: distances below the number of points. -/
structure OkF (n most : Nat) (out q : List Int) : Prop where
  len : out.length = n
  queue : ∀ v, v ∈ q → 0 ≤ v ∧ v < n
  least : ∀ i, i < n → -1 ≤ rd out (i : Int) ∧ rd out (i : Int) ≤ most
def blank (out : List Int) : Nat := out.count (-1)
theorem blank_set (out : List Int) (u x : Int) (h0 : 0 ≤ u) (h1 : u < out.length) (hu : rd out u = -1) (hx : 0 ≤ x) : blank (out.set u.toNat x) + 1 = blank out := by
  have hu' : out[u.toNat]'(by omega) = -1 := by rw [← hu]; simp [rd, show u.toNat < out.length from by omega]
  have hp : 0 < out.count (-1) := List.count_pos_iff.2 (hu' ▸ List.getElem_mem _)
  unfold blank
  rw [List.count_set (by omega), hu']
  have : (x == (-1 : Int)) = false := by simp; omega
  simp [this]
  omega
theorem rd_set (out : List Int) (u : Nat) (x : Int) (i : Nat) (hi : i < out.length) : rd (out.set u x) (i : Int) = if u = i then x else rd out (i : Int) := by
  simp only [rd, List.getD_eq_getElem?_getD, Int.toNat_natCast, List.getElem?_set]
  split
  · rename_i e; subst e; simp [hi]
  · rfl
theorem OkF.mark {n most : Nat} {out q : List Int} (h : OkF n most out q) (u : Nat) (x : Int) (hu : u < n) (h0 : -1 ≤ x) (most' : Nat) (hx : x ≤ most') (hm : most ≤ most') : OkF n most' (out.set u x) (q ++ [(u : Int)]) := by
  refine ⟨by simp [h.len], fun v hv => ?_, fun i hi => ?_⟩
  · rcases List.mem_append.1 hv with hv | hv
    · exact h.queue v hv
    · rw [List.mem_singleton.1 hv]; omega
  · rw [rd_set _ _ _ _ (by rw [h.len]; exact hi)]
    split
    · exact ⟨h0, hx⟩
    · have := h.least i hi; omega
theorem OkF.more {n most : Nat} {out q : List Int} (h : OkF n most out q) (most' : Nat) (hm : most ≤ most') : OkF n most' out q := ⟨h.len, h.queue, fun i hi => by have := h.least i hi; omega⟩
theorem OkF.pop {n most : Nat} {out q : List Int} {v : Int} (h : OkF n most out (v :: q)) : OkF n most out q := ⟨h.len, fun u hu => h.queue u (List.mem_cons_of_mem _ hu), h.least⟩
/-- the distances and the queue in memory. -/
structure FarAt (wB W : World) (vO vQ : Value) (out q : List Int) : Prop where
  out : Kd.R (Kd.int .i64) 3 W wB.heap.size (fun _ => True) vO out
  queue : Kd.Q (Kd.int .i64) 3 W wB.heap.size (fun _ => True) vQ q
  ne : ∀ k, vO.ownBlock = some k → vQ.ownBlock ≠ some k
  below : Below wB.heap.size wB W
theorem Q_own {W W' : World} {base : Nat} {v : Value} {xs : List Int} (h : Kd.Q (Kd.int .i64) 3 W base (fun _ => True) v xs) (hm : ∀ k, v.ownBlock = some k → W'.heap[k]? = W.heap[k]?) : Kd.Q (Kd.int .i64) 3 W' base (fun _ => True) v xs := by
  obtain ⟨h0, inner, ho, hr⟩ := h
  exact ⟨h0, inner, q_move ho hm, hr.imp_ (fun x cs hp => hp)⟩
theorem FarAt.mark {wB W : World} {vO vQ : Value} {out q : List Int} (h : FarAt wB W vO vQ out q) (u : Nat) (hu : u < out.length) :
    ∃ g cap, vO = .slice (some ⟨g, 0, none⟩) out.length cap ∧ W.cell? ⟨g, u, none⟩ = some (.int .i64 (rd out (u : Int))) ∧ W.frozen? ⟨g, u, none⟩ = false ∧
      ∀ x, FarAt wB (W.setCell ⟨g, u, none⟩ (.int .i64 x)) vO vQ (out.set u x) q := by
  obtain ⟨g, cap, hv, hg, -, -⟩ := Kd.R_form h.out (by omega)
  have ho := h.out
  have hn := h.ne
  subst hv
  obtain ⟨hc1, hc2⟩ := Kd.R_cell (0 : Int) ho (u : Int) (by omega) (by omega)
  rw [Int.toNat_natCast] at hc1 hc2
  refine ⟨g, cap, rfl, hc1, hc2, fun x => ?_⟩
  have hp := Kd.R_put ho (u : Int) x
  rw [Int.toNat_natCast] at hp
  exact ⟨hp.1, Q_own h.queue (fun k hk => Below.heap_setCell W ⟨g, u, none⟩ (.int .i64 x) k (fun e => hn g rfl (by rw [hk]; exact congrArg some e))), h.ne, h.below.setCell (p := ⟨g, u, none⟩) hg (.int .i64 x)⟩
theorem FarAt.push {wB W W1 : World} {vO vQ v1 : Value} {out q q1 : List Int} (h : FarAt wB W vO vQ out q) (hq : Kd.Q (Kd.int .i64) 3 W1 wB.heap.size (fun _ => True) v1 q1) (hb : Below wB.heap.size wB W1) (hg : W.grownBy W1 vQ.ownBlock) (hat : v1.ownBlock = vQ.ownBlock ∨ ∃ b, v1.ownBlock = some b ∧ W.heap.size ≤ b) :
    FarAt wB W1 vO v1 out q1 := by
  refine ⟨own_grown h.out hg (fun k hk e => h.ne k hk e.symm), hq, fun k hk e => ?_, hb⟩
  rcases hat with hat | ⟨b, hb1, hb2⟩
  · exact h.ne k hk (hat ▸ e)
  · have := Kd.R_lt h.out k hk
    rw [hb1] at e
    have := Option.some.inj e
    omega
theorem zeroL_length (src : List Int) : ∀ out, (zeroL src out).length = out.length := by
  induction src with
  | nil => intro out; rfl
  | cons v vs ih => intro out; rw [zeroL, ih, List.length_set]
theorem zeroL_may (src : List Int) : ∀ out : List Int, (∀ i, i < out.length → -1 ≤ rd out (i : Int) ∧ rd out (i : Int) ≤ 0) → ∀ i, i < (zeroL src out).length → -1 ≤ rd (zeroL src out) (i : Int) ∧ rd (zeroL src out) (i : Int) ≤ 0 := by
  induction src with
  | nil => intro out h; exact h
  | cons v vs ih =>
    intro out h
    rw [zeroL]
    refine ih _ (fun i hi => ?_)
    rw [List.length_set] at hi
    rw [rd_set _ _ _ _ hi]
    split
    · omega
    · exact h i hi
theorem farL_empty (adj : List (List Int)) (f : Nat) (out : List Int) : farL adj f (out, []) = out := by cases f <;> rfl
theorem FarAt.start {w w1 w2 : World} {vO vQ : Value} {out src : List Int} (h : FarAt w w1 vO (.slice none 0 0) out []) (hq : Kd.R (Kd.int .i64) 3 w2 w1.heap.size (fun _ => True) vQ src) (hb : Below w1.heap.size w1 w2) : FarAt w w2 vO vQ out src := by
  refine ⟨Kd.R_below h.out hb, Kd.Q_lower (Kd.Q_of_R hq) h.below.size, fun k hk e => ?_, below_then h.below h.below.size hb⟩
  have h1 := Kd.R_lt h.out k hk
  have h2 := Kd.R_base hq k e
  omega
set_option maxHeartbeats 2000000 in
set_option maxRecDepth 100000 in
theorem far_ok (w : World) (A : Option Addr) (c : Nat) (adj : List (List Int)) (B : Option Addr) (cs : Nat) (src : List Int) (hn : adj.length ≤ 100) (hc : adj.length ≤ c) (hadj : Kd.C (Kd.slice 3 (Kd.int .i64)) w A adj.length adj) (ha : ∀ i : Nat, Arcs adj.length (rd_L1 adj i))
    (hs : src.length ≤ 100) (hcs : src.length ≤ cs) (hsrc : Kd.C (Kd.int .i64) w B src.length src) (hsa : Arcs adj.length src) :
    Calls Tryz.prog 120 #[.slice A adj.length c, .slice B src.length cs] w fun e w' => ∃ v, e = .returned v ∧ Kd.R (Kd.int .i64) 3 w' w.heap.size (fun _ => True) v (farF adj src) ∧ Below w.heap.size w w' ∧ OkF adj.length adj.length (farF adj src) [] := by
  have HAD := Aside0.mk hadj
  have HA := Aside0.mk ha
  have HS := Aside0.mk hsrc
  have HSA := Aside0.mk hsa
  have hsm := Kd.C_max hsrc
  clear hadj ha hsrc hsa
  go_enter Tryz.func120, Tryz.ntmps120
  go_wp2_with (go_at_call 107; with_reducible refine (Repeat_ok (w.alloc _) adj.length (by omega) (-1) (some ⟨w.heap.size, 0, none⟩) 1 (by omega) (C_one ((blk_cell (blk_new _ _) 0).trans rfl))).mono ?_; rintro e w1 ⟨vO, rfl, hO, hbO⟩; have HO := Aside0.mk (Kd.R_lower hO (below_alloc (Below.refl _ _) _).size); have HB := Aside0.mk (below_then (below_alloc (Below.refl _ _) _) (below_alloc (Below.refl _ _) _).size hbO); clear hO hbO)
  go_loopg [7, 18] src.length (fun gg s7 s18 wr => ∃ (i : Nat) (out : List Int), i + gg = src.length ∧ s18 = .int .i64 i ∧ Aside0 (zeroL (src.drop i) out = zeroL src (List.replicate adj.length (-1))) ∧ Aside0 (out.length = adj.length) ∧ Aside0 (FarAt w wr vO (.slice none 0 0) out []))
  case atStart => exact ⟨0, _, by omega, rfl, ⟨rfl⟩, ⟨by simp⟩, ⟨HO.out, Kd.Q_nil _ _ _ _ _, fun k _ e => by simp [Value.ownBlock] at e, HB.out⟩⟩
  case round =>
    obtain ⟨i, out, hgg, rfl, HZ, HL, HF⟩ := hrel
    by_cases hi : i < src.length
    · have x1 : (i : Int) < (src.length : Int) := by omega
      have x2 : (0 : Int) ≤ (i : Int) := by omega
      obtain ⟨bd, rfl, k0⟩ := Kd.at_int (Kd.C_below HS.out HF.out.below) (i : Int) x2 x1
      rw [Int.toNat_natCast] at k0
      have hmem : rd src (i : Int) ∈ src := by rw [rd_nat _ _ hi]; exact List.getElem_mem _
      have hdr : src.drop i = rd src (i : Int) :: src.drop (i + 1) := by rw [rd_nat _ _ hi]; exact List.drop_eq_getElem_cons hi
      obtain ⟨x3, x4⟩ := HSA.out _ hmem
      rw [hdr] at HZ
      obtain ⟨u, hu⟩ := Int.eq_ofNat_of_zero_le x3
      rw [hu] at k0 x3 x4 HZ
      rw [zeroL, Int.toNat_natCast] at HZ
      have hul : u < out.length := by have := HL.out; omega
      obtain ⟨g, cap, rfl, k1, f1, hm⟩ := HF.out.mark u hul
      have x5 : (u : Int) < (out.length : Int) := by omega
      have HF2 := Aside0.mk (hm 0)
      clear hm hmem hdr hu
      go_wp2_with fail
      go_roundg (src.length - (i + 1))
      case measure => omega
      case rel => exact ⟨i + 1, out.set u 0, by omega, by go_num, HZ, ⟨by rw [List.length_set]; exact HL.out⟩, HF2⟩
    · have x1 : ¬ (i : Int) < (src.length : Int) := by omega
      have hin : src.drop i = [] := List.drop_eq_nil_of_le (by omega)
      rw [hin, zeroL] at HZ
      go_wp2_with (go_at_call 161; with_reducible refine (Clone_any wr B cs src hcs (Kd.C_below HS.out HF.out.below) (by omega)).mono ?_; rintro e w2 ⟨vQ, rfl, hQ, hbQ⟩; have HQ := Aside0.mk hQ; have HBQ := Aside0.mk hbQ; clear hQ hbQ)
      have hst := HF.out.start HQ.out HBQ.out
      have HF0 := Aside0.mk hst
      have hz : OkF adj.length 0 out src := by
        have h1 := zeroL_may src (List.replicate adj.length (-1)) (fun i hi => by
          rw [List.length_replicate] at hi
          simp [rd, hi])
        rw [← HZ.out] at h1
        refine ⟨HL.out, HSA.out, fun i hi => ?_⟩
        have := h1 i (by rw [HL.out]; exact hi)
        omega
      have HZ0 := Aside0.mk hz
      have hbl : blank out ≤ adj.length := by rw [← HL.out]; exact List.count_le_length
      have HT : Aside0 (farL adj (2 * adj.length + src.length + 1) (out, src) = farF adj src) := ⟨by rw [HZ.out]; rfl⟩
      clear hst hz HF HQ HBQ HL HZ hin x1
      go_loopg [8] (2 * adj.length + src.length + 1) (fun gg s8 wr => ∃ (out q : List Int) (most : Nat), most + blank out ≤ adj.length ∧ q.length + blank out < gg ∧ q.length + blank out ≤ adj.length + src.length ∧ Aside0 (farL adj gg (out, q) = farF adj src) ∧ Aside0 (OkF adj.length most out q) ∧ Aside0 (FarAt w wr vO s8 out q))
      case atStart => exact ⟨out, src, 0, by omega, by omega, by omega, HT, HZ0, HF0⟩
      case round =>
        clear HT HZ0 HF0 hbl
        obtain ⟨out, q, most, hmb, hqb, hqc, HT, HK, HF⟩ := hrel
        obtain ⟨Aq, cq, hv8, hcq⟩ := Kd.Q_slice HF.out.queue
        subst hv8
        by_cases hq0 : q.length = 0
        · have hqe : q = [] := List.eq_nil_of_length_eq_zero hq0
          rw [hqe, farL_empty] at HT
          rw [hqe] at HK
          have hKF := HK.out.more adj.length (by omega)
          rw [HT.out] at hKF
          have HKF := Aside0.mk hKF
          clear hKF
          have y1 : ¬ (0 : Int) < (q.length : Int) := by omega
          have y2 : ¬ 0 < q.length := by omega
          go_wp2_with fail
          go_ret
          rw [HT.out] at HF
          exact ⟨_, rfl, HF.out.out, HF.out.below, HKF.out⟩
        · have y1 : (0 : Int) < (q.length : Int) := by omega
          have y2 : 0 < q.length := by omega
          obtain ⟨ad, rfl, k0⟩ := Kd.at_int (Kd.Q_reads' HF.out.queue).2.2 (0 : Int) (by omega) y1
          have hdr : q = rd q (0 : Int) :: q.drop 1 := by
            cases q with
            | nil => exact absurd rfl hq0
            | cons a l => rfl
          have hdrl : (q.drop 1).length = q.length - 1 := List.length_drop
          have HDR := Aside0.mk hdr
          obtain ⟨x3, x4⟩ := HK.out.queue (rd q (0 : Int)) (by rw [hdr]; exact List.mem_cons_self)
          obtain ⟨v, hv⟩ := Int.eq_ofNat_of_zero_le x3
          rw [hv] at k0 x3 x4 HDR
          have hk0 : wr.cell? ad = some (.int .i64 (v : Int)) := by simpa [Addr.add_zero'] using k0
          obtain ⟨i0, hi0, hzz⟩ := Option.map_eq_some_iff.1 info3
          have hsz : i0.size = 1 := congrArg (fun p => p.2.1) hzz
          obtain ⟨V, hV⟩ : ∃ V, (if cq = 1 then some ad else (some ad).map (·.add (1 * 1))) = V := ⟨_, rfl⟩
          have hcut : ∀ W : World, (Instr.slice 28 (.slice (some ad) q.length cq) (some (.int .i64 1)) none none).run Tryz.prog W = .ok (.slice V (q.length - 1) (cq - 1)) W := by
            rw [← hV]
            exact cut_from (P := Tryz.prog) 28 3 .i64 Tryz.underlying28 hi0 1 hsz (some ad) q.length cq 1 (by omega) (by omega)
          have hdrop := Kd.Q_drop (k := 1) HF.out.queue (by omega)
          replace hdrop : Kd.Q (Kd.int .i64) 3 wr w.heap.size (fun _ => True) (.slice V (q.length - 1) (cq - 1)) (q.drop 1) := by rw [← hV]; exact hdrop
          have hne : ∀ k, vO.ownBlock = some k → (Value.slice V (q.length - 1) (cq - 1)).ownBlock ≠ some k := by
            intro k hk
            have h1 := HF.out.ne k hk
            rw [← hV]
            split
            · exact h1
            · exact h1
          have HF2 : Aside0 (FarAt w wr vO (.slice V (q.length - 1) (cq - 1)) out (q.drop 1)) := ⟨HF.out.out, hdrop, hne, HF.out.below⟩
          obtain ⟨A', rfl⟩ : ∃ A', A = some A' := by
            obtain ⟨ad', A0, c0, e, -⟩ := at_L1 HAD.out (v : Int) x3 x4
            exact ⟨ad', e⟩
          obtain ⟨ad2, A0, c0, e2, k1, l1, g1⟩ := at_L1 HAD.out (v : Int) x3 x4
          injection e2 with e2
          subst e2
          have k2 := (HF.out.below.cell (World.block_lt_of_cell? _ _ k1)).trans k1
          rw [Int.toNat_natCast] at k2
          have hLm := Kd.C_max g1
          have G1 := Aside0.mk g1
          have HAv := Aside0.mk (HA.out v)
          obtain ⟨g', rfl⟩ : ∃ g', gk = g' + 1 := ⟨gk - 1, by omega⟩
          have HLE : Aside0 (farL adj g' (visit v (rd_L1 adj v) (out, q.drop 1)) = farF adj src) := by
            have := HT.out
            rw [HDR.out] at this
            exact ⟨this⟩
          clear hi0 hzz hsz hdr k0 hdrop hv hV hne k1 g1
          have HK2 := Aside0.mk (HDR.out ▸ HK.out : OkF adj.length most out ((v : Int) :: q.drop 1)).pop
          have hdl : (q.drop 1).length = q.length - 1 := List.length_drop
          go_wp2_with fail
          generalize rd_L1 adj (v : Int) = L at *
          go_loopg [8, 41] L.length (fun gi s8 s41 wi => ∃ (j : Nat) (out' q' : List Int) (most' : Nat), j + gi = L.length ∧ s41 = .int .i64 j ∧ most' + blank out' ≤ adj.length ∧ q'.length + blank out' = (q.length - 1) + blank out ∧ Aside0 (visit v (L.drop j) (out', q') = visit v L (out, q.drop 1)) ∧ Aside0 (OkF adj.length most' out' q') ∧ Aside0 (FarAt w wi vO s8 out' q'))
          case atStart => exact ⟨0, out, q.drop 1, most, by omega, rfl, hmb, by omega, ⟨rfl⟩, HK2, HF2⟩
          case round =>
            clear HF HF2 HK HK2 k2 hcut hk0 HT
            obtain ⟨j, out', q', most', hgi, rfl, hmb', hqb', HV, HK, HF⟩ := hrel
            by_cases hj : j < L.length
            · have z1 : (j : Int) < (L.length : Int) := by omega
              have z2 : (0 : Int) ≤ (j : Int) := by omega
              obtain ⟨bd, rfl, k4⟩ := Kd.at_int (Kd.C_below G1.out HF.out.below) (j : Int) z2 z1
              rw [Int.toNat_natCast] at k4
              have hmem : rd L (j : Int) ∈ L := by rw [rd_nat _ _ hj]; exact List.getElem_mem _
              have hdr : L.drop j = rd L (j : Int) :: L.drop (j + 1) := by rw [rd_nat _ _ hj]; exact List.drop_eq_getElem_cons hj
              obtain ⟨z3, z4⟩ := HAv.out _ hmem
              rw [hdr] at HV
              obtain ⟨u, hu⟩ := Int.eq_ofNat_of_zero_le z3
              rw [hu] at k4 z3 z4 HV
              rw [visit] at HV
              clear hmem hdr hu
              have hul : u < out'.length := by have := HK.out.len; omega
              have hvl : v < out'.length := by have := HK.out.len; omega
              obtain ⟨gv, cv, hvO, k6, f6, -⟩ := HF.out.mark v hvl
              obtain ⟨g, cap, rfl, k5, f5, hm⟩ := HF.out.mark u hul
              injection hvO with e1 e2 e3
              injection e1 with e1
              injection e1 with e1
              subst e1
              clear e2 e3
              have z5 : (u : Int) < (out'.length : Int) := by omega
              have z6 : (v : Int) < (out'.length : Int) := by omega
              by_cases hb : rd out' (u : Int) = -1
              · simp only [if_pos hb, Int.toNat_natCast] at HV
                obtain ⟨y0, y1⟩ := HK.out.least v (by omega)
                have hbs := blank_set out' (u : Int) (rd out' (v : Int) + 1) z3 z5 hb (by omega)
                rw [Int.toNat_natCast] at hbs
                have hk3 := HK.out.mark u (rd out' (v : Int) + 1) (by omega) (by omega) (most' + 1) (by omega) (by omega)
                have hF3 := hm (rd out' (v : Int) + 1)
                rw [hb] at k5
                generalize rd out' (v : Int) = y at *
                have HK3 := Aside0.mk hk3
                have HF3 := Aside0.mk hF3
                clear hF3
                have hql : q'.length ≤ 200 := by omega
                obtain ⟨W1, hW1⟩ : ∃ W1, wr.setCell ⟨g, u, none⟩ (.int .i64 (y + 1)) = W1 := ⟨_, rfl⟩
                rw [hW1] at HF3
                clear hk3 hm
                go_wp2_with (at_builtin; refine Kd.Q_append (Kd.int .i64) (w0 := w) w.heap.size rfl (.tmp 58) (.tmp 60) 28 3 (.int .i64 0) 8 rfl Tryz.underlying28 info3 rfl (by decide) (by omega) _ q' (u : Int) [.int .i64 u] (fun _ => True) (fun _ => False) rfl rfl rfl (fun _ hk => hk.elim) (fun _ _ => trivial) HF3.out.queue HF3.out.below HF3.out.below.size (by omega) ?_; intro v5 w5 hq5 hb5 hg5 hat5; have HF5 := Aside0.mk (HF3.out.push hq5 hb5 hg5 hat5); clear hq5 hb5 hg5 hat5)
                go_roundg (L.length - (j + 1))
                case measure => omega
                case rel => exact ⟨j + 1, _, _, most' + 1, by omega, by go_num, by omega, by rw [List.length_append]; simp only [List.length_cons, List.length_nil]; omega, HV, HK3, HF5⟩
              · simp only [if_neg hb] at HV
                have hbb : (rd out' (u : Int) == -1) = false := by simpa using hb
                clear hm
                go_wp2_with fail
                go_roundg (L.length - (j + 1))
                case measure => omega
                case rel => exact ⟨j + 1, out', q', most', by omega, by go_num, hmb', hqb', HV, HK, HF⟩
            · have z1 : ¬ (j : Int) < (L.length : Int) := by omega
              have hjn : L.drop j = [] := List.drop_eq_nil_of_le (by omega)
              rw [hjn, visit] at HV
              rw [← HV.out] at HLE
              go_wp2_with fail
              go_roundg g'
              case measure => omega
              case rel => exact ⟨out', q', most', hmb', by omega, by omega, HLE, HK, HF⟩
end Go.Proofs.YtmcloifhgbehdaaGreatDoor
namespace Go.Proofs.YtmcloifhgbehdaaGreatDoor
open Go.RowKit Go.Proofs.YtmcloifhgbehdaaGreatDoorW.PrintWords Go.Proofs.YtmcloifhgbehdaaGreatDoorW.PrintLast Go.Proofs.YtmcloifhgbehdaaGreatDoorW.PrintMore Go.Proofs.YtmcloifhgbehdaaGreatDoor.PBasesSteps
set_option linter.unusedVariables false
set_option linter.unusedSimpArgs false
/-- the points with a distance, below k. -/
def reachedL (d : List Int) (k : Nat) : List Int := ((List.range k).filter fun i : Nat => rd d (i : Int) != -1).map fun i : Nat => (i : Int)
theorem reachedL_succ (d : List Int) (k : Nat) : reachedL d (k + 1) = reachedL d k ++ if rd d (k : Int) = -1 then [] else [(k : Int)] := by
  unfold reachedL
  rw [List.range_succ, List.filter_append, List.map_append]
  congr 1
  by_cases h : rd d (k : Int) = -1
  · simp [h]
  · simp [h]
theorem reachedL_length (d : List Int) (k : Nat) : (reachedL d k).length ≤ k := by
  unfold reachedL
  rw [List.length_map]
  exact Nat.le_trans (List.length_filter_le _ _) (by simp)
def fromF (adj : List (List Int)) (src : List Int) : List Int := reachedL (farF adj src) adj.length
/-- of a digraph and points that may be. -/
structure MayG (adj : List (List Int)) : Prop where
  len : adj.length ≤ 100
  all : adj.all (fun x => setN x adj.length) = true
theorem MayG.arcs {adj : List (List Int)} (h : MayG adj) (i : Nat) : Arcs adj.length (rd_L1 adj i) := by
  intro k hk
  unfold rd_L1 at hk
  rw [Int.toNat_natCast, List.getD_eq_getElem?_getD] at hk
  rcases Nat.lt_or_ge i adj.length with hi | hi
  · rw [List.getElem?_eq_getElem hi, Option.getD_some] at hk
    exact setN_lt (List.all_eq_true.1 h.all _ (List.getElem_mem hi)) hk
  · rw [List.getElem?_eq_none hi, Option.getD_none] at hk
    cases hk
theorem arcs_setN {n : Nat} {l : List Int} (h : setN l n = true) : Arcs n l := fun _ hk => setN_lt h hk
set_option maxHeartbeats 2000000 in
set_option maxRecDepth 100000 in
theorem From_ok (w : World) (A : Option Addr) (c : Nat) (adj : List (List Int)) (B : Option Addr) (cs : Nat) (src : List Int) (hM : MayG adj) (hc : adj.length ≤ c) (hadj : Kd.C (Kd.slice 3 (Kd.int .i64)) w A adj.length adj)
    (hs : src.length ≤ 100) (hcs : src.length ≤ cs) (hsrc : Kd.C (Kd.int .i64) w B src.length src) (hsn : setN src adj.length = true) :
    Calls Tryz.prog 85 #[.slice A adj.length c, .slice B src.length cs] w fun e w' => ∃ v, e = .returned v ∧ Kd.R (Kd.int .i64) 3 w' w.heap.size (fun _ => True) v (fromF adj src) ∧ Below w.heap.size w w' := by
  have HAD := Aside0.mk hadj
  have HS := Aside0.mk hsrc
  have HM := Aside0.mk hM
  have HSN := Aside0.mk hsn
  have hln := hM.len
  obtain ⟨D, hD⟩ : ∃ D, farF adj src = D := ⟨_, rfl⟩
  have HD := Aside0.mk hD
  rw [fromF, hD]
  clear hadj hsrc hM hsn hD
  go_enter Tryz.func85, Tryz.ntmps85
  go_wp2_with (first
    | (go_at_call 118; with_reducible refine (reachMay_ok adj A c w HAD.out (by omega) HM.out.all).mono ?_; rintro e w1 ⟨rfl, hb⟩; have HB1 := Aside0.mk hb; clear hb)
    | (go_at_call 119; with_reducible refine (points_any src adj.length B cs w1 (Kd.C_below HS.out HB1.out) hcs).mono ?_; rintro e w2 ⟨rfl, hb⟩; rw [HSN.out]; have HB2 := Aside0.mk (below_then HB1.out HB1.out.size hb); clear hb)
    | (go_at_call 120; with_reducible refine (far_ok w2 A c adj B cs src hln hc (Kd.C_below HAD.out HB2.out) HM.out.arcs hs hcs (Kd.C_below HS.out HB2.out) (arcs_setN HSN.out)).mono ?_; rintro e w3 ⟨vD, rfl, hO, hb, hK⟩; rw [HD.out] at hO hK; obtain ⟨AD, CD, rfl⟩ := slice_of (n := adj.length) hO hK.len; have HC := Aside0.mk (Kd.R_reads' hO).2.2; have HKL := Aside0.mk hK.len; have HB3 := Aside0.mk (below_then HB2.out HB2.out.size hb); clear hO hb hK))
  have hDl := HKL.out
  go_loopg [5, 6, 7, 22] adj.length (fun gg s5 s6 s7 s22 wr => ∃ (i : Nat), i + gg = adj.length ∧ s22 = .int .i64 i ∧ Aside0 (Kd.R (Kd.int .i64) 3 wr w3.heap.size (fun _ => True) s5 (reachedL D i)) ∧ Aside0 (Below w3.heap.size w3 wr))
  case atStart => exact ⟨0, by omega, rfl, ⟨Kd.R_nil _ _ _ _ _⟩, ⟨Below.refl _ _⟩⟩
  case round =>
    obtain ⟨i, hgg, rfl, HO, HB⟩ := hrel
    by_cases hi : i < adj.length
    · have x1 : (i : Int) < (adj.length : Int) := by omega
      have x2 : (0 : Int) ≤ (i : Int) := by omega
      have hC := Kd.C_below HC.out HB.out
      rw [hDl] at hC
      obtain ⟨bd, rfl, k0⟩ := Kd.at_int hC (i : Int) x2 x1
      rw [Int.toNat_natCast] at k0
      have hst := reachedL_succ D i
      have hle := reachedL_length D i
      clear hC
      by_cases hk : rd D (i : Int) = -1
      · rw [if_pos hk, List.append_nil] at hst
        rw [hk] at k0
        clear hk
        rw [← hst] at HO
        clear hst
        go_wp2_with fail
        go_roundg (adj.length - (i + 1))
        case measure => omega
        case rel => exact ⟨i + 1, by omega, by go_num, HO, HB⟩
      · rw [if_neg hk] at hst
        have hk2 : ((rd D (i : Int)) != -1) = true := by simpa using hk
        generalize rd D (i : Int) = y at *
        have HST := Aside0.mk hst
        clear hst
        go_wp2_with (at_builtin; refine Kd.R_append (Kd.int .i64) (w0 := w3) w3.heap.size rfl (.tmp 29) (.tmp 31) 28 3 (.int .i64 0) 8 rfl Tryz.underlying28 info3 rfl (by decide) (by omega) _ (reachedL D i) (i : Int) [.int .i64 i] (fun _ => True) (fun _ => False) rfl rfl rfl (fun _ hk => hk.elim) (fun _ _ => trivial) HO.out HB.out HB.out.size (by omega) ?_; intro v5 w5 ho5 hb5 hg5 hat5; rw [← HST.out] at ho5; have HO5 := Aside0.mk ho5; have HB5 := Aside0.mk hb5; clear ho5 hb5 hg5 hat5)
        go_roundg (adj.length - (i + 1))
        case measure => omega
        case rel => exact ⟨i + 1, by omega, by go_num, HO5, HB5⟩
    · have x1 : ¬ (i : Int) < (adj.length : Int) := by omega
      have hin : i = adj.length := by omega
      rw [hin] at HO
      clear hin
      go_wp2_with fail
      go_ret
      exact ⟨_, rfl, Kd.R_lower HO.out HB3.out.size, below_then HB3.out HB3.out.size HB.out⟩
end Go.Proofs.YtmcloifhgbehdaaGreatDoor
namespace Go.Proofs.YtmcloifhgbehdaaGreatDoor
open Go.RowKit Go.Proofs.YtmcloifhgbehdaaGreatDoorW.PrintWords Go.Proofs.YtmcloifhgbehdaaGreatDoorW.PrintLast Go.Proofs.YtmcloifhgbehdaaGreatDoorW.PrintMore Go.Proofs.YtmcloifhgbehdaaGreatDoor.PBasesSteps
set_option linter.unusedVariables false
set_option linter.unusedSimpArgs false
def turnIn (v : Int) : List Int → List (List Int) → List (List Int)
  | [], o => o
  | u :: us, o => turnIn v us (o.set u.toNat (rd_L1 o u ++ [v]))
def turnL : List (List Int) → Int → List (List Int) → List (List Int)
  | [], _, o => o
  | l :: ls, v, o => turnL ls (v + 1) (turnIn v l o)
def turnF (adj : List (List Int)) : List (List Int) := turnL adj 0 (List.replicate adj.length [])
theorem rd_L1_set (o : List (List Int)) (u : Nat) (x : List Int) (i : Nat) : rd_L1 (o.set u x) (i : Int) = if u = i ∧ i < o.length then x else rd_L1 o (i : Int) := by
  simp only [rd_L1, List.getD_eq_getElem?_getD, Int.toNat_natCast, List.getElem?_set]
  by_cases e : u = i
  · subst e
    by_cases h : u < o.length
    · simp [h]
    · simp [h, List.getElem?_eq_none (Nat.le_of_not_lt h)]
  · simp [e]
def Low (b : Nat) (o : List (List Int)) : Prop := ∀ i : Nat, (rd_L1 o (i : Int)).length ≤ b
theorem turnIn_length (v : Int) (l : List Int) : ∀ o, (turnIn v l o).length = o.length := by
  induction l with
  | nil => intro o; rfl
  | cons u us ih => intro o; rw [turnIn, ih, List.length_set]
theorem Low.push {b : Nat} {o : List (List Int)} (h : Low b o) (u : Nat) (v : Int) : Low (b + 1) (o.set u (rd_L1 o (u : Int) ++ [v])) := by
  intro i
  rw [rd_L1_set]
  split
  · rw [List.length_append]
    have := h u
    simp only [List.length_cons, List.length_nil]
    omega
  · have := h i
    omega
theorem turnIn_low (v : Int) (n : Nat) (l : List Int) : ∀ o b, Arcs n l → Low b o → Low (b + l.length) (turnIn v l o) := by
  induction l with
  | nil => intro o b _ h; exact h
  | cons u us ih =>
    intro o b ha h
    obtain ⟨h0, -⟩ := ha u List.mem_cons_self
    obtain ⟨k, rfl⟩ := Int.eq_ofNat_of_zero_le h0
    rw [turnIn, Int.toNat_natCast]
    have := ih _ (b + 1) (fun x hx => ha x (List.mem_cons_of_mem _ hx)) (h.push k v)
    rw [List.length_cons, show b + (us.length + 1) = b + 1 + us.length from by omega]
    exact this
theorem turned_l1 (adj : List (List Int)) (n : Int) (v : Int) (L : List Int) (hL : L.length ≤ 1000) (hA : ∀ m : Nat, (m : Int) = n → Arcs m L) (r : List (List Int)) (K : Nat) :
    ∀ (m j b : Nat) (o : List (List Int)), j + m = L.length → (o.length : Int) = n → Low b o → b + m ≤ 1000000 → reach_turned.l0 K (turnIn v (L.drop j) o) adj n (wrap64 (v + 1)) = some r → reach_turned.l1 (K + m + 1) o v adj n v L (L.length : Int) (j : Int) = some r := by
  intro m
  induction m with
  | zero =>
    intro j b o hj hn hlow hb h
    have hd : L.drop j = [] := List.drop_eq_nil_of_le (by omega)
    rw [hd, turnIn] at h
    show reach_turned.l1 (K + 1) o v adj n v L (L.length : Int) (j : Int) = some r
    rw [reach_turned.l1, if_neg (by omega)]
    exact h
  | succ m ih =>
    intro j b o hj hn hlow hb h
    have hjl : j < L.length := by omega
    have hd : L.drop j = rd L (j : Int) :: L.drop (j + 1) := by rw [rd_nat _ _ hjl]; exact List.drop_eq_getElem_cons hjl
    have hmem : rd L (j : Int) ∈ L := by rw [rd_nat _ _ hjl]; exact List.getElem_mem _
    obtain ⟨h0, h1⟩ := hA o.length hn _ hmem
    rw [hd, turnIn] at h
    obtain ⟨u, hu⟩ := Int.eq_ofNat_of_zero_le h0
    show reach_turned.l1 (K + m + 1 + 1) o v adj n v L (L.length : Int) (j : Int) = some r
    rw [reach_turned.l1, if_pos (by omega), if_pos (by omega), if_pos (by omega), if_pos h0, if_pos h1]
    have hlu := hlow u
    rw [hu] at h ⊢
    rw [if_pos (by omega), wrap_succ j (by omega)]
    refine ih (j + 1) (b + 1) _ (by omega) (by rw [List.length_set]; exact hn) ?_ (by omega) h
    rw [Int.toNat_natCast]
    exact hlow.push u v
theorem turned_l0 (adj : List (List Int)) (hM : MayG adj) : ∀ (m i b : Nat) (o : List (List Int)), i + m = adj.length → o.length = adj.length → Low b o → b + 100 * m ≤ 100000 →
    ∃ K, reach_turned.l0 K o adj (adj.length : Int) (i : Int) = some (turnL (adj.drop i) i o) := by
  have hn := hM.len
  intro m
  induction m with
  | zero =>
    intro i b o hi ho hlow hb
    refine ⟨1, ?_⟩
    rw [List.drop_eq_nil_of_le (by omega), turnL, reach_turned.l0, if_neg (by omega)]
  | succ m ih =>
    intro i b o hi ho hlow hb
    have hil : i < adj.length := by omega
    have hdr : adj.drop i = rd_L1 adj (i : Int) :: adj.drop (i + 1) := by
      have : rd_L1 adj (i : Int) = adj[i] := by simp [rd_L1, hil]
      rw [this]
      exact List.drop_eq_getElem_cons hil
    have hlen : (rd_L1 adj (i : Int)).length ≤ 100 := by
      have hmem : rd_L1 adj (i : Int) ∈ adj := by
        have : rd_L1 adj (i : Int) = adj[i] := by simp [rd_L1, hil]
        rw [this]; exact List.getElem_mem _
      have := setN_length (List.all_eq_true.1 hM.all _ hmem)
      omega
    obtain ⟨K, hK⟩ := ih (i + 1) (b + (rd_L1 adj (i : Int)).length) (turnIn i (rd_L1 adj (i : Int)) o) (by omega) (by rw [turnIn_length]; exact ho) (turnIn_low _ adj.length _ _ _ (hM.arcs i) hlow) (by omega)
    refine ⟨K + (rd_L1 adj (i : Int)).length + 1 + 1, ?_⟩
    rw [hdr, turnL, reach_turned.l0, if_pos (by omega), if_pos (by omega), if_pos (by omega)]
    refine turned_l1 adj adj.length i (rd_L1 adj (i : Int)) (by omega) (fun q hq => ?_) _ K (rd_L1 adj (i : Int)).length 0 b o (by omega) (by omega) hlow (by omega) ?_
    · have : q = adj.length := by omega
      subst this
      exact hM.arcs i
    · rw [List.drop_zero, wrap_succ i (by omega), hK]
      rfl
theorem turned_f (adj : List (List Int)) (hM : MayG adj) : ∃ K, reach_turned.f K adj = some (turnF adj) := by
  have hn := hM.len
  obtain ⟨K, hK⟩ := turned_l0 adj hM adj.length 0 0 (List.replicate adj.length []) (by omega) (by simp) (fun i => by
    simp only [rd_L1, List.getD_eq_getElem?_getD, List.getElem?_replicate]
    split <;> simp) (by omega)
  refine ⟨K, ?_⟩
  unfold reach_turned.f
  rw [if_pos (by omega), if_pos (by omega), Int.toNat_natCast]
  exact hK
theorem turnL_length (ls : List (List Int)) : ∀ (v : Int) (o : List (List Int)), (turnL ls v o).length = o.length := by
  induction ls with
  | nil => intro v o; rfl
  | cons l ls ih => intro v o; rw [turnL, ih, turnIn_length]
theorem turnF_length (adj : List (List Int)) : (turnF adj).length = adj.length := by
  unfold turnF
  rw [turnL_length, List.length_replicate]
theorem turnIn_mem (v : Int) (n : Nat) (l : List Int) : ∀ (o : List (List Int)), Arcs n l → o.length = n → ∀ (i : Nat) (x : Int), x ∈ rd_L1 (turnIn v l o) (i : Int) ↔ x ∈ rd_L1 o (i : Int) ∨ x = v ∧ (i : Int) ∈ l := by
  induction l with
  | nil => intro o _ _ i x; simp [turnIn]
  | cons u us ih =>
    intro o ha hn i x
    obtain ⟨h0, h1⟩ := ha u List.mem_cons_self
    obtain ⟨k, rfl⟩ := Int.eq_ofNat_of_zero_le h0
    rw [turnIn, Int.toNat_natCast, ih _ (fun x hx => ha x (List.mem_cons_of_mem _ hx)) (by rw [List.length_set]; exact hn), rd_L1_set, List.mem_cons]
    by_cases e : k = i
    · subst e
      rw [if_pos ⟨rfl, by omega⟩, List.mem_append, List.mem_singleton]
      constructor
      · rintro ((h | h) | ⟨h, h2⟩)
        · exact .inl h
        · exact .inr ⟨h, .inl rfl⟩
        · exact .inr ⟨h, .inr h2⟩
      · rintro (h | ⟨h, h2 | h2⟩)
        · exact .inl (.inl h)
        · exact .inl (.inr h)
        · exact .inr ⟨h, h2⟩
    · rw [if_neg (by omega)]
      constructor
      · rintro (h | ⟨h, h2⟩)
        · exact .inl h
        · exact .inr ⟨h, .inr h2⟩
      · rintro (h | ⟨h, h2 | h2⟩)
        · exact .inl h
        · omega
        · exact .inr ⟨h, h2⟩
theorem turnL_mem (n : Nat) (ls : List (List Int)) : ∀ (v : Nat) (o : List (List Int)), (∀ l, l ∈ ls → Arcs n l) → o.length = n → ∀ (i : Nat) (x : Int), x ∈ rd_L1 (turnL ls v o) (i : Int) ↔ x ∈ rd_L1 o (i : Int) ∨ ∃ j, j < ls.length ∧ x = ((v + j : Nat) : Int) ∧ (i : Int) ∈ rd_L1 ls (j : Int) := by
  induction ls with
  | nil => intro v o _ _ i x; simp [turnL]
  | cons l ls ih =>
    intro v o ha hn i x
    rw [turnL, show (v : Int) + 1 = ((v + 1 : Nat) : Int) from by omega, ih (v + 1) _ (fun q hq => ha q (List.mem_cons_of_mem _ hq)) (by rw [turnIn_length]; exact hn), turnIn_mem v n l o (ha l List.mem_cons_self) hn]
    constructor
    · rintro ((h | ⟨h, h2⟩) | ⟨j, h1, h2, h3⟩)
      · exact .inl h
      · exact .inr ⟨0, by simp, by omega, by simpa [rd_L1] using h2⟩
      · exact .inr ⟨j + 1, by simp; omega, by omega, by simpa [rd_L1] using h3⟩
    · rintro (h | ⟨j, h1, h2, h3⟩)
      · exact .inl (.inl h)
      · cases j with
        | zero => exact .inl (.inr ⟨by omega, by simpa [rd_L1] using h3⟩)
        | succ j => exact .inr ⟨j, by simp at h1; omega, by omega, by simpa [rd_L1] using h3⟩
theorem turnF_mem (adj : List (List Int)) (hM : MayG adj) (i : Nat) (x : Int) : x ∈ rd_L1 (turnF adj) (i : Int) ↔ ∃ j : Nat, j < adj.length ∧ x = (j : Int) ∧ (i : Int) ∈ rd_L1 adj (j : Int) := by
  have h := turnL_mem adj.length adj 0 (List.replicate adj.length []) (fun l hl k hk => setN_lt (List.all_eq_true.1 hM.all _ hl) hk) (by simp) i x
  have h0 : rd_L1 (List.replicate adj.length ([] : List Int)) (i : Int) = [] := by
    simp only [rd_L1, List.getD_eq_getElem?_getD, List.getElem?_replicate]
    split <;> simp
  rw [h0] at h
  simp only [List.not_mem_nil, false_or, Nat.zero_add] at h
  exact h
theorem turnF_arcs (adj : List (List Int)) (hM : MayG adj) (i : Nat) : Arcs (turnF adj).length (rd_L1 (turnF adj) i) := by
  intro x hx
  obtain ⟨j, h1, rfl, -⟩ := (turnF_mem adj hM i x).1 hx
  rw [turnF_length]
  omega
theorem turned_ok (w : World) (A : Option Addr) (c : Nat) (adj : List (List Int)) (hM : MayG adj) (hc : adj.length ≤ c) (hadj : Kd.C (Kd.slice 3 (Kd.int .i64)) w A adj.length adj) :
    Calls Tryz.prog 121 #[.slice A adj.length c] w fun e w' => ∃ A' c', e = .returned (.slice A' (turnF adj).length c') ∧ (turnF adj).length ≤ c' ∧ Kd.C (Kd.slice 3 (Kd.int .i64)) w' A' (turnF adj).length (turnF adj) ∧ Below w.heap.size w w' := by
  obtain ⟨K, hK⟩ := turned_f adj hM
  refine (reach_turned.calls K A c adj (turnF adj) w hadj hc hK).mono ?_
  rintro e w' ⟨v, rfl, hS, hb⟩
  have hR := Kd.S_R hS
  obtain ⟨inner, ho⟩ := Kd.R_own hR
  obtain ⟨A', c', rfl⟩ := own_slice ho
  obtain ⟨-, h2, h3⟩ := Kd.R_reads' hR
  exact ⟨A', c', rfl, h2, h3, hb⟩
end Go.Proofs.YtmcloifhgbehdaaGreatDoor
namespace Go.Proofs.YtmcloifhgbehdaaGreatDoor
open Go.RowKit Go.Proofs.YtmcloifhgbehdaaGreatDoorW.PrintWords Go.Proofs.YtmcloifhgbehdaaGreatDoorW.PrintLast Go.Proofs.YtmcloifhgbehdaaGreatDoorW.PrintMore Go.Proofs.YtmcloifhgbehdaaGreatDoor.PBasesSteps
set_option linter.unusedVariables false
set_option linter.unusedSimpArgs false
def bestL (d : List Int) : List Int → Int → Int
  | [], b => b
  | v :: vs, b => bestL d vs (if rd d v ≠ -1 ∧ (b = -1 ∨ rd d v < rd d b) then v else b)
/-- the first place of a list where the distance is one less. -/
def nextI (d L : List Int) (v : Int) : Int := fidx (fun j => rd d (rd L (j : Int)) == rd d v - 1) L.length 0
def walkL (d : List Int) (adj : List (List Int)) : Nat → Int → List Int
  | 0, _ => []
  | f + 1, v => if 0 < rd d v then rd (rd_L1 adj v) (nextI d (rd_L1 adj v) v) :: walkL d adj f (rd (rd_L1 adj v) (nextI d (rd_L1 adj v) v)) else []
theorem next_ok (d L : List Int) (v : Int) (h : ∃ u, u ∈ L ∧ rd d u = rd d v - 1) : ∃ j : Nat, j < L.length ∧ nextI d L v = j ∧ rd d (rd L (j : Int)) = rd d v - 1 := by
  obtain ⟨u, hu, he⟩ := h
  obtain ⟨j, hj, rfl⟩ := List.getElem_of_mem hu
  have hany : (List.range L.length).any (fun j => rd d (rd L (j : Int)) == rd d v - 1) = true := by
    rw [List.any_eq_true]
    exact ⟨j, by simpa using hj, by rw [rd_nat _ _ hj]; simpa using he⟩
  rw [← fidx_any] at hany
  obtain ⟨q, -, h2, h3, h4, -⟩ := fidx_some _ _ _ (of_decide_eq_true hany)
  exact ⟨q, by omega, h4, by simpa using h3⟩
theorem path1_any (d : List Int) (u v : Int) (A : Option Addr) (n c : Nat) (b1 b2 : Nat) (w : World) (hd : Kd.C (Kd.int .i64) w A n d) (h1 : w.cell? ⟨b1, 0, none⟩ = some (.slice A n c)) (h2 : w.cell? ⟨b2, 0, none⟩ = some (.int .i64 v))
    (u0 : 0 ≤ u) (u1 : u < n) (v0 : 0 ≤ v) (v1 : v < n) (hv : -1 ≤ rd d v ∧ rd d v ≤ 1000) :
    Calls Tryz.prog 123 #[.int .i64 u, .pointer (some ⟨b1, 0, none⟩), .pointer (some ⟨b2, 0, none⟩)] w fun e w' => e = .returned (.bool (rd d u == rd d v - 1)) ∧ Below w.heap.size w w' := by
  obtain ⟨ad, rfl, k1⟩ := Kd.at_int hd u u0 u1
  obtain ⟨ad', e, k2⟩ := Kd.at_int hd v v0 v1
  injection e with e
  subst e
  obtain ⟨y0, y1⟩ := hv
  clear hd
  generalize rd d u = x at *
  generalize rd d v = y at *
  go_enter Tryz.func123, Tryz.ntmps123
  go_wp2_with fail
  go_quiet (fail)
  go_wp2_with fail
  go_ret
  exact ⟨rfl, pw_below_drewN (Below.refl _ _) _⟩
theorem MayG.turned {adj : List (List Int)} (h : MayG adj) : (turnF adj).length ≤ 100 := by rw [turnF_length]; exact h.len
set_option maxHeartbeats 2000000 in
set_option maxRecDepth 100000 in
theorem Path_ok (w : World) (A : Option Addr) (c : Nat) (adj : List (List Int)) (B B2 : Option Addr) (cs ct : Nat) (src tgt : List Int) (hM : MayG adj) (hc : adj.length ≤ c) (hadj : Kd.C (Kd.slice 3 (Kd.int .i64)) w A adj.length adj)
    (hs : src.length ≤ 100) (hcs : src.length ≤ cs) (hsrc : Kd.C (Kd.int .i64) w B src.length src) (hsn : setN src adj.length = true)
    (ht : tgt.length ≤ 100) (hct : tgt.length ≤ ct) (htgt : Kd.C (Kd.int .i64) w B2 tgt.length tgt) (htn : setN tgt adj.length = true) (D : List Int) (hD : farF (turnF adj) tgt = D)
    (hstep : ∀ v : Nat, v < adj.length → 0 < rd D (v : Int) → ∃ u, u ∈ rd_L1 adj (v : Int) ∧ rd D u = rd D (v : Int) - 1) :
    Calls Tryz.prog 84 #[.slice A adj.length c, .slice B src.length cs, .slice B2 tgt.length ct] w fun e w' => (bestL D src (-1) = -1 ∧ e = .returned (.tuple #[.slice none 0 0, .bool false]) ∨ bestL D src (-1) ≠ -1 ∧ ∃ v, e = .returned (.tuple #[v, .bool true]) ∧ Kd.R (Kd.int .i64) 3 w' w.heap.size (fun _ => True) v (bestL D src (-1) :: walkL D adj (adj.length + 2) (bestL D src (-1)))) ∧ Below w.heap.size w w' := by
  have HAD := Aside0.mk hadj
  have HS := Aside0.mk hsrc
  have HT := Aside0.mk htgt
  have HM := Aside0.mk hM
  have HSN := Aside0.mk hsn
  have HTN := Aside0.mk htn
  have HST := Aside0.mk hstep
  have hln := hM.len
  have hTL := turnF_length adj
  have HD := Aside0.mk hD
  have HTT := Aside0.mk hTL
  obtain ⟨T, hT⟩ : ∃ T, bestL D src (-1) = T := ⟨_, rfl⟩
  rw [hT]
  have HTB := Aside0.mk hT
  clear hT
  clear hadj hsrc htgt hM hsn htn hstep hD hTL
  go_enter Tryz.func84, Tryz.ntmps84
  go_wp2_with (first
    | (go_at_call 118; with_reducible refine (reachMay_ok adj A c w HAD.out (by omega) HM.out.all).mono ?_; rintro e w1 ⟨rfl, hb⟩; have HB1 := Aside0.mk hb; clear hb)
    | (go_at_call 119; with_reducible refine (points_any src adj.length B cs w1 (Kd.C_below HS.out HB1.out) hcs).mono ?_; rintro e w2 ⟨rfl, hb⟩; rw [HSN.out]; have HB2 := Aside0.mk (below_then HB1.out HB1.out.size hb); clear hb)
    | (go_at_call 119; with_reducible refine (points_any tgt adj.length B2 ct w2 (Kd.C_below HT.out HB2.out) hct).mono ?_; rintro e w3 ⟨rfl, hb⟩; rw [HTN.out]; have HB3 := Aside0.mk (below_then HB2.out HB2.out.size hb); clear hb)
    | (go_at_call 121; with_reducible refine (turned_ok w3 A c adj HM.out hc (Kd.C_below HAD.out HB3.out)).mono ?_; rintro e w4 ⟨At, ctt, rfl, hlt, hCt, hb⟩; have HCT := Aside0.mk hCt; have HB4 := Aside0.mk (below_then HB3.out HB3.out.size hb); clear hb hCt)
    | (go_at_call 120; with_reducible refine (far_ok w4 At ctt (turnF adj) B2 ct tgt HM.out.turned hlt HCT.out (turnF_arcs adj HM.out) ht hct (Kd.C_below HT.out HB4.out) (HTT.out ▸ arcs_setN HTN.out)).mono ?_; rintro e w5 ⟨vD, rfl, hO, hb, hK⟩; rw [HTT.out, HD.out] at hK; rw [HD.out] at hO; obtain ⟨AD, CD, rfl⟩ := slice_of (n := adj.length) hO hK.len; have HC := Aside0.mk (Kd.R_reads' hO).2.2; have HK := Aside0.mk hK; have HB5 := Aside0.mk (below_then HB4.out HB4.out.size hb); clear hO hb hK))
  have hDl := HK.out.len
  have HBK := Aside0.mk (blk_new w5 (.cells #[.slice AD adj.length CD] 28 (0, 0)))
  have HC6 := Aside0.mk (Kd.C_below HC.out (below_alloc (Below.refl _ _) (.cells #[.slice AD adj.length CD] 28 (0, 0))))
  have HB6 := Aside0.mk (HB5.out.alloc HB5.out.size (.cells #[.slice AD adj.length CD] 28 (0, 0)))
  generalize w5.alloc _ = W6 at *
  generalize w5.heap.size = g at *
  go_loopg [9, 11, 38] src.length (fun gg s9 s11 s38 wr => ∃ (i : Nat) (b : Int), i + gg = src.length ∧ s38 = .int .i64 i ∧ s9 = .int .i64 b ∧ (b = -1 ∨ 0 ≤ b ∧ b < adj.length) ∧ Aside0 (bestL D (src.drop i) b = T) ∧ Aside0 (Below W6.heap.size W6 wr))
  case atStart => exact ⟨0, -1, by omega, rfl, rfl, .inl rfl, HTB, ⟨Below.refl _ _⟩⟩
  case round =>
    obtain ⟨i, b, hgg, rfl, rfl, hbb, HE, HB⟩ := hrel
    have z0 : wr.cell? ⟨g, 0, none⟩ = some (.slice AD adj.length CD) := (blk_cell (blk_below HB.out HBK.out) 0).trans rfl
    by_cases hi : i < src.length
    · have x1 : (i : Int) < (src.length : Int) := by omega
      have x2 : (0 : Int) ≤ (i : Int) := by omega
      obtain ⟨bd, rfl, k0⟩ := Kd.at_int (Kd.C_below HS.out (below_next HB6.out HB.out)) (i : Int) x2 x1
      rw [Int.toNat_natCast] at k0
      have hmem : rd src (i : Int) ∈ src := by rw [rd_nat _ _ hi]; exact List.getElem_mem _
      have hdr : src.drop i = rd src (i : Int) :: src.drop (i + 1) := by rw [rd_nat _ _ hi]; exact List.drop_eq_getElem_cons hi
      obtain ⟨x3, x4⟩ := arcs_setN HSN.out _ hmem
      rw [hdr] at HE
      obtain ⟨v, hv⟩ := Int.eq_ofNat_of_zero_le x3
      rw [hv] at k0 x3 x4 HE
      rw [bestL] at HE
      clear hmem hdr hv
      have hC := Kd.C_below HC6.out HB.out
      rw [hDl] at hC
      obtain ⟨ad, rfl, k1⟩ := Kd.at_int hC (v : Int) x3 x4
      rw [Int.toNat_natCast] at k1
      by_cases hx : rd D (v : Int) = -1
      · rw [if_neg (fun h => h.1 hx)] at HE
        rw [hx] at k1
        clear hC
        go_wp2_with fail
        go_quiet (fail)
        go_wp2_with fail
        go_roundg (src.length - (i + 1))
        case measure => omega
        case rel => exact ⟨i + 1, b, by omega, by go_num, rfl, hbb, HE, ⟨pw_below_drewN HB.out _⟩⟩
      · have hx2 : ((rd D (v : Int)) != -1) = true := by simpa using hx
        by_cases hb : b = -1
        · rw [if_pos ⟨hx, .inl hb⟩] at HE
          subst hb
          clear hC
          go_wp2_with fail
          go_quiet (fail)
          go_wp2_with fail
          go_roundg (src.length - (i + 1))
          case measure => omega
          case rel => exact ⟨i + 1, v, by omega, by go_num, rfl, .inr ⟨x3, x4⟩, HE, ⟨pw_below_drewN HB.out _⟩⟩
        · obtain ⟨b0, b1⟩ := hbb.resolve_left hb
          obtain ⟨ad', e, k2⟩ := Kd.at_int hC b b0 b1
          injection e with e
          subst e
          have hb2 : (b == (-1 : Int)) = false := by simpa using hb
          clear hC
          by_cases hlt : rd D (v : Int) < rd D b
          · rw [if_pos ⟨hx, .inr hlt⟩] at HE
            have hlt2 : decide (rd D (v : Int) < rd D b) = true := decide_eq_true hlt
            generalize rd D (v : Int) = y1 at *
            generalize rd D b = y2 at *
            go_wp2_with fail
            go_quiet (fail)
            go_wp2_with fail
            go_roundg (src.length - (i + 1))
            case measure => omega
            case rel => exact ⟨i + 1, v, by omega, by go_num, rfl, .inr ⟨x3, x4⟩, HE, ⟨pw_below_drewN HB.out _⟩⟩
          · rw [if_neg (fun h => h.2.elim hb hlt)] at HE
            have hlt2 : decide (rd D (v : Int) < rd D b) = false := decide_eq_false hlt
            generalize rd D (v : Int) = y1 at *
            generalize rd D b = y2 at *
            go_wp2_with fail
            go_quiet (fail)
            go_wp2_with fail
            go_roundg (src.length - (i + 1))
            case measure => omega
            case rel => exact ⟨i + 1, b, by omega, by go_num, rfl, .inr ⟨b0, b1⟩, HE, ⟨pw_below_drewN HB.out _⟩⟩
    · have x1 : ¬ (i : Int) < (src.length : Int) := by omega
      have hin : src.drop i = [] := List.drop_eq_nil_of_le (by omega)
      rw [hin, bestL] at HE
      by_cases hb : b = -1
      · subst hb
        go_wp2_with fail
        go_ret2
        refine ⟨.inl ⟨HE.out.symm, rfl⟩, below_next HB6.out HB.out⟩
      · have hb2 : (b == (-1 : Int)) = false := by simpa using hb
        obtain ⟨b0, b1⟩ := hbb.resolve_left hb
        have hbT : b = T := HE.out
        have hu2 : T ≠ -1 := hbT ▸ hb
        clear HE
        go_wp2_with fail
        subst hbT
        have hrow : Kd.R (Kd.int .i64) 3 ((wr.alloc (.cells #[.int .i64 b] 3 (0, 0))).alloc (.cells #[.int .i64 b] 3 (0, 0))) W6.heap.size (fun k => k ≠ wr.heap.size + 1) (.slice (some ⟨wr.heap.size, 0, none⟩) 1 1) [b] := by
          refine Kd.R_alloc (Kd.R_of_own (enc := Value.int .i64) (h1 := fun _ => rfl) ?_ (fun k hk => ?_)) _
          · exact ⟨rfl, .inr ⟨wr.heap.size, 1, #[.int .i64 b], rfl, HB.out.size, blk_new _ _, Nat.le_refl _, by decide, rfl, rfl⟩⟩
          · have : k = wr.heap.size := (Option.some.inj hk).symm
            omega
        have HR0 := Aside0.mk hrow
        have HBB := Aside0.mk ((HB.out.alloc HB.out.size (.cells #[.int .i64 b] 3 (0, 0))).alloc (below_alloc (Below.refl _ _) _ |> fun h => Nat.le_trans HB.out.size h.size) (.cells #[.int .i64 b] 3 (0, 0)))
        have HBX := Aside0.mk (blk_new (wr.alloc (.cells #[.int .i64 b] 3 (0, 0))) (.cells #[.int .i64 b] 3 (0, 0)))
        have hsz : (wr.alloc (.cells #[.int .i64 b] 3 (0, 0))).heap.size = wr.heap.size + 1 := Array.size_push _
        rw [hsz] at HBX
        have hbw : W6.heap.size ≤ wr.heap.size + 1 := Nat.le_succ_of_le HB.out.size
        generalize (wr.alloc _).alloc _ = W7 at *
        generalize wr.heap.size + 1 = bv at *
        obtain ⟨v, rfl⟩ := Int.eq_ofNat_of_zero_le b0
        have hlb := HK.out.least v (by omega)
        obtain ⟨T2, hT2⟩ : ∃ T2, ((v : Int) :: walkL D adj (adj.length + 2) (v : Int)) = T2 := ⟨_, rfl⟩
        have HT2 : Aside0 ([(v : Int)] ++ walkL D adj (adj.length + 2) (v : Int) = T2) := ⟨hT2⟩
        have HTE := Aside0.mk hT2
        clear hT2 hrow
        go_loopg [12, 13] (adj.length + 2) (fun gg s12 s13 wx => ∃ (bv v : Nat) (acc : List Int), s13 = .pointer (some ⟨bv, 0, none⟩) ∧ W6.heap.size ≤ bv ∧ v < adj.length ∧ rd D (v : Int) + 1 < gg ∧ (acc.length : Int) + rd D (v : Int) ≤ 101 ∧ Aside0 (acc ++ walkL D adj gg (v : Int) = T2) ∧ Aside0 (wx.heap[bv]? = some (.cells #[.int .i64 (v : Int)] 3 (0, 0))) ∧ Aside0 (Kd.R (Kd.int .i64) 3 wx W6.heap.size (fun k => k ≠ bv) s12 acc) ∧ Aside0 (Below W6.heap.size W6 wx))
        case atStart => exact ⟨bv, v, [(v : Int)], rfl, hbw, by omega, by omega, by simp; omega, HT2, HBX, HR0, HBB⟩
        case round =>
          clear HR0 HBB HBX
          obtain ⟨bv, v, acc, rfl, hbv, hvn, hvg, hacc, HE, HX, HR, HBx⟩ := hrel
          have z1 : wr.cell? ⟨g, 0, none⟩ = some (.slice AD adj.length CD) := (blk_cell (blk_below HBx.out HBK.out) 0).trans rfl
          have z2 : wr.cell? ⟨bv, 0, none⟩ = some (.int .i64 (v : Int)) := (blk_cell HX.out 0).trans rfl
          have z3 := blk_frozen HX.out 0
          have y0 : (0 : Int) ≤ (v : Int) := by omega
          have y1 : (v : Int) < (adj.length : Int) := by omega
          have hC := Kd.C_below HC6.out HBx.out
          rw [hDl] at hC
          obtain ⟨ad, rfl, k1⟩ := Kd.at_int hC (v : Int) y0 y1
          rw [Int.toNat_natCast] at k1
          obtain ⟨gg, rfl⟩ : ∃ gg, gk = gg + 1 := ⟨gk - 1, by have := (HK.out.least v hvn).1; omega⟩
          rw [walkL] at HE
          by_cases hp : 0 < rd D (v : Int)
          · rw [if_pos hp] at HE
            obtain ⟨j, hj, hnx, hnd⟩ := next_ok D (rd_L1 adj (v : Int)) (v : Int) (HST.out v hvn hp)
            rw [hnx] at HE
            obtain ⟨A1, A0, c0, eA, k2, l1, g1⟩ := at_L1 HAD.out (v : Int) y0 y1
            subst eA
            have k3 := ((below_next HB6.out HBx.out).cell (World.block_lt_of_cell? _ _ k2)).trans k2
            rw [Int.toNat_natCast] at k3
            have hLm := Kd.C_max g1
            have G1 := Aside0.mk g1
            have hLA := HM.out.arcs v
            have hmem : rd (rd_L1 adj (v : Int)) (j : Int) ∈ rd_L1 adj (v : Int) := by rw [rd_nat _ _ hj]; exact List.getElem_mem _
            have hju := hLA _ hmem
            have HLA := Aside0.mk hLA
            have HNX : Aside0 (fidx (fun j => rd D (rd (rd_L1 adj (v : Int)) (j : Int)) == rd D (v : Int) - 1) (rd_L1 adj (v : Int)).length 0 = (j : Int)) := ⟨hnx⟩
            have hlv := HK.out.least v hvn
            have HCD := Aside0.mk hC
            clear k2 g1 hLA hmem hnx hC
            generalize rd_L1 adj (v : Int) = L at *
            have hp2 : (0 : Int) < rd D (v : Int) := hp
            have hmf := run_makeFunc
            go_wp2_with fail
            refine (IndexFunc_ints 123 #[.pointer (some ⟨g, 0, none⟩), .pointer (some ⟨bv, 0, none⟩)] (fun j => rd D (rd L (j : Int)) == rd D (v : Int) - 1) (fun j => .int .i64 (rd L (j : Int))) (enters_of Tryz.func123 (by kernel_rfl) rfl) A0 L.length c0 wr ?_ hLm ?_).mono ?_
            · intro W jj hjj hW
              have hm := HLA.out (rd L (jj : Int)) (by rw [rd_nat _ _ hjj]; exact List.getElem_mem _)
              exact path1_any D (rd L (jj : Int)) v (some ad) adj.length CD g bv W (Kd.C_below HCD.out hW) ((hW.cell (World.block_lt_of_cell? _ _ z1)).trans z1) ((hW.cell (World.block_lt_of_cell? _ _ z2)).trans z2) hm.1 hm.2 y0 y1 (by omega)
            · exact cells_int (Kd.C_below G1.out (below_next HB6.out HBx.out))
            rw [HNX.out]
            rintro e w' ⟨rfl, hb⟩
            have HBw := Aside0.mk hb
            have HXw := Aside0.mk (blk_below hb HX.out)
            have HRw := Aside0.mk (Kd.R_below HR.out hb)
            have HBy := Aside0.mk (below_next HBx.out hb)
            have q2 : w'.cell? ⟨bv, 0, none⟩ = some (.int .i64 (v : Int)) := (hb.cell (World.block_lt_of_cell? _ _ z2)).trans z2
            have q3 := blk_frozen HXw.out 0
            have k4 := (hb.cell (World.block_lt_of_cell? _ _ k3)).trans k3
            obtain ⟨bd, rfl, k5⟩ := Kd.at_int (Kd.C_below G1.out (below_next HB6.out HBy.out)) (j : Int) (by omega) (by omega)
            rw [Int.toNat_natCast] at k5
            obtain ⟨u, hu⟩ := Int.eq_ofNat_of_zero_le hju.1
            rw [hu] at k5 hju hnd HE
            clear hu hb
            have hjj : (j : Int) < (L.length : Int) := by omega
            have hj0 : (0 : Int) ≤ (j : Int) := by omega
            have hbvlt : bv < w'.heap.size := blk_lt HXw.out
            obtain ⟨W1, hW1⟩ : ∃ W1, w'.setCell ⟨bv, 0, none⟩ (.int .i64 (u : Int)) = W1 := ⟨_, rfl⟩
            have r1 : Kd.R (Kd.int .i64) 3 W1 W6.heap.size (fun k => k ≠ bv) u12 acc := by rw [← hW1]; exact Kd.R_far (p := ⟨bv, 0, none⟩) HRw.out (fun _ hk => hk) _
            have r2 : Below W6.heap.size W6 W1 := by rw [← hW1]; exact HBy.out.setCell (p := ⟨bv, 0, none⟩) hbv _
            have q5 : W1.cell? ⟨bv, 0, none⟩ = some (.int .i64 (u : Int)) := by rw [← hW1]; exact (blk_cell (blk_set HXw.out 0 _) 0).trans rfl
            obtain ⟨W2, hW2⟩ : ∃ W2, W1.alloc (.cells #[.int .i64 (u : Int)] 3 (0, 0)) = W2 := ⟨_, rfl⟩
            have hs2 : W2.heap.size = W1.heap.size + 1 := by rw [← hW2]; exact Array.size_push _
            have r3 : Kd.R (Kd.int .i64) 3 W2 W6.heap.size (fun k => k ≠ W1.heap.size) u12 acc := by
              rw [← hW2]
              exact Kd.R_alloc (Kd.R_mono (Kd.R_bound r1) (fun k hk => by have := hk.2.2.1; omega)) _
            have r4 : Below W6.heap.size W6 W2 := by rw [← hW2]; exact r2.alloc r2.size _
            have r5 : W2.heap[W1.heap.size]? = some (.cells #[.int .i64 (u : Int)] 3 (0, 0)) := by rw [← hW2]; exact blk_new _ _
            have r6 : W2.cell? ⟨W1.heap.size, 0, none⟩ = some (.int .i64 (u : Int)) := (blk_cell r5 0).trans rfl
            have hb6 : W6.heap.size ≤ W1.heap.size := r2.size
            have R3 := Aside0.mk r3
            have R4 := Aside0.mk r4
            have R5 := Aside0.mk r5
            have HS2 := Aside0.mk hs2
            clear r1 r2 r3 r4 r5 hs2
            go_wp2_with (at_builtin; refine Kd.R_append (Kd.int .i64) (w0 := W6) W6.heap.size rfl (.tmp 74) (.tmp 76) 28 3 (.int .i64 0) 8 rfl Tryz.underlying28 info3 rfl (by decide) (by omega) u12 acc (u : Int) [.int .i64 u] (fun k => k ≠ W1.heap.size) (fun _ => False) rfl rfl rfl (fun _ hk => hk.elim) (fun k hk => by have := HS2.out; omega) R3.out R4.out R4.out.size (by omega) ?_; intro v5 w5 ho5 hb5 hg5 hat5; have HO5 := Aside0.mk ho5; have HB5 := Aside0.mk hb5; have HX5 := Aside0.mk (blk_grown R5.out hg5 (fun e => R3.out.1 _ e.symm rfl)); clear ho5 hb5 hg5 hat5)
            go_roundg gg
            case measure => omega
            case rel => exact ⟨W1.heap.size, u, acc ++ [(u : Int)], rfl, hb6, by omega, by omega, by rw [List.length_append]; simp only [List.length_cons, List.length_nil]; omega, ⟨by rw [List.append_assoc]; exact HE.out⟩, HX5, HO5, HB5⟩
          · rw [if_neg hp, List.append_nil] at HE
            have hp2 : ¬ (0 : Int) < rd D (v : Int) := hp
            go_wp2_with fail
            go_ret2
            rw [HE.out] at HR
            exact ⟨⟨_, rfl, by rw [HTE.out]; exact Kd.R_lower (Kd.R_mono HR.out (fun _ _ => trivial)) HB6.out.size⟩, below_next HB6.out HBx.out⟩
end Go.Proofs.YtmcloifhgbehdaaGreatDoor
namespace Go.Proofs.YtmcloifhgbehdaaGreatDoor
open Go.RowKit Go.Proofs.YtmcloifhgbehdaaGreatDoorW.PrintWords Go.Proofs.YtmcloifhgbehdaaGreatDoorW.PrintLast Go.Proofs.YtmcloifhgbehdaaGreatDoorW.PrintMore Go.Proofs.YtmcloifhgbehdaaGreatDoor.PBasesSteps
set_option linter.unusedVariables false
set_option linter.unusedSimpArgs false
/-- what holds between the rounds: each positive distance has a point that is one nearer; a marked point whose arcs are not all marked is in the queue; only the sources have 0. -/
structure Bfs (adj : List (List Int)) (src out q : List Int) : Prop where
  near : ∀ u : Nat, u < out.length → 0 < rd out (u : Int) → ∃ v : Nat, v < out.length ∧ (u : Int) ∈ rd_L1 adj (v : Int) ∧ rd out (v : Int) = rd out (u : Int) - 1
  zero : ∀ u : Nat, u < out.length → (rd out (u : Int) = 0 ↔ (u : Int) ∈ src)
  least : ∀ u : Nat, u < out.length → -1 ≤ rd out (u : Int)
  queue : ∀ v : Nat, (v : Int) ∈ q → rd out (v : Int) ≠ -1
  shut : ∀ v : Nat, v < out.length → rd out (v : Int) ≠ -1 → (v : Int) ∈ q ∨ ∀ u : Nat, u < out.length → (u : Int) ∈ rd_L1 adj (v : Int) → rd out (u : Int) ≠ -1
theorem Bfs.mark {adj : List (List Int)} {src out q : List Int} (h : Bfs adj src out q) {v u : Nat} (hv : v < out.length) (hu : u < out.length) (hm : (u : Int) ∈ rd_L1 adj (v : Int)) (hv0 : rd out (v : Int) ≠ -1) (hu0 : rd out (u : Int) = -1) :
    Bfs adj src (out.set u (rd out (v : Int) + 1)) (q ++ [(u : Int)]) := by
  have hl := h.least v hv
  have hvu : u ≠ v := by rintro rfl; exact hv0 hu0
  refine ⟨fun i hi h0 => ?_, fun i hi => ?_, fun i hi => ?_, fun x hx => ?_, fun i hi h0 => ?_⟩
  · rw [List.length_set] at hi
    rw [rd_set _ _ _ _ hi] at h0 ⊢
    split at h0
    · rename_i e
      subst e
      rw [if_pos rfl]
      refine ⟨v, by rw [List.length_set]; exact hv, hm, ?_⟩
      rw [rd_set _ _ _ _ hv, if_neg hvu]
      omega
    · rename_i e
      rw [if_neg e]
      obtain ⟨x, h1, h2, h3⟩ := h.near i hi h0
      refine ⟨x, by rw [List.length_set]; exact h1, h2, ?_⟩
      rw [rd_set _ _ _ _ h1, if_neg (by rintro rfl; omega)]
      exact h3
  · rw [List.length_set] at hi
    rw [rd_set _ _ _ _ hi]
    split
    · rename_i e
      subst e
      have := h.zero u hi
      constructor
      · intro; omega
      · intro hs; have := this.2 hs; omega
    · exact h.zero i hi
  · rw [List.length_set] at hi
    rw [rd_set _ _ _ _ hi]
    split
    · omega
    · exact h.least i hi
  · rcases Nat.lt_or_ge x out.length with hl2 | hl2
    · rw [rd_set _ _ _ _ hl2]
      split
      · omega
      · rename_i e
        rcases List.mem_append.1 hx with hx | hx
        · exact h.queue x hx
        · have := List.mem_singleton.1 hx
          omega
    · have e : rd (out.set u (rd out (v : Int) + 1)) (x : Int) = 0 := by simp [rd, Nat.not_lt.2 hl2, List.getElem?_eq_none (l := out.set u (rd out (v : Int) + 1)) (by rw [List.length_set]; exact hl2)]
      rw [e]
      omega
  · rw [List.length_set] at hi
    rw [rd_set _ _ _ _ hi] at h0
    by_cases e : u = i
    · subst e
      exact .inl (List.mem_append_right _ (List.mem_singleton_self _))
    · rw [if_neg e] at h0
      rcases h.shut i hi h0 with h1 | h1
      · exact .inl (List.mem_append_left _ h1)
      · refine .inr fun y hy hy2 => ?_
        rw [List.length_set] at hy
        rw [rd_set _ _ _ _ hy]
        split
        · omega
        · exact h1 y hy hy2
theorem Bfs.visit {adj : List (List Int)} {src : List Int} {v : Nat} : ∀ (us out q : List Int), Bfs adj src out ((v : Int) :: q) → v < out.length → Arcs out.length us → (∀ u, u ∈ us → u ∈ rd_L1 adj (v : Int)) →
    Bfs adj src (visit v us (out, q)).1 ((v : Int) :: (visit v us (out, q)).2) ∧ (visit v us (out, q)).1.length = out.length ∧ (∀ u : Nat, (u : Int) ∈ us → rd (visit v us (out, q)).1 (u : Int) ≠ -1) ∧ (∀ i : Nat, i < out.length → rd out (i : Int) ≠ -1 → rd (visit v us (out, q)).1 (i : Int) = rd out (i : Int)) := by
  intro us
  induction us with
  | nil => intro out q h _ _ _; exact ⟨h, rfl, fun u hu => (by cases hu), fun _ _ _ => rfl⟩
  | cons x us ih =>
    intro out q h hv ha hs
    obtain ⟨h0, h1⟩ := ha x List.mem_cons_self
    obtain ⟨u, rfl⟩ := Int.eq_ofNat_of_zero_le h0
    have hu : u < out.length := by omega
    have hs' : ∀ u, u ∈ us → u ∈ rd_L1 adj (v : Int) := fun y hy => hs y (List.mem_cons_of_mem _ hy)
    have hv0 := h.queue v List.mem_cons_self
    rw [Proofs.YtmcloifhgbehdaaGreatDoor.visit]
    by_cases hb : rd out (u : Int) = -1
    · simp only [if_pos hb, Int.toNat_natCast]
      have hm := h.mark hv hu (hs _ List.mem_cons_self) hv0 hb
      have hl : (out.set u (rd out (v : Int) + 1)).length = out.length := List.length_set ..
      obtain ⟨g1, g2, g3, g4⟩ := ih (out.set u (rd out (v : Int) + 1)) (q ++ [(u : Int)]) hm (by rw [hl]; exact hv) (by rw [hl]; exact fun y hy => ha y (List.mem_cons_of_mem _ hy)) hs'
      have hlv := h.least v hv
      refine ⟨g1, g2.trans hl, fun y hy => ?_, fun i hi h5 => ?_⟩
      · rcases List.mem_cons.1 hy with hy | hy
        · have : y = u := by omega
          subst this
          rw [g4 y (by rw [hl]; exact hu) (by rw [rd_set _ _ _ _ hu, if_pos rfl]; omega), rd_set _ _ _ _ hu, if_pos rfl]
          omega
        · exact g3 y hy
      · have hne : u ≠ i := by rintro rfl; exact h5 hb
        rw [g4 i (by rw [hl]; exact hi) (by rw [rd_set _ _ _ _ hi, if_neg hne]; exact h5), rd_set _ _ _ _ hi, if_neg hne]
    · simp only [if_neg hb]
      obtain ⟨g1, g2, g3, g4⟩ := ih out q h hv (fun y hy => ha y (List.mem_cons_of_mem _ hy)) hs'
      refine ⟨g1, g2, fun y hy => ?_, g4⟩
      rcases List.mem_cons.1 hy with hy | hy
      · have : y = u := by omega
        subst this
        rw [g4 y hu hb]
        exact hb
      · exact g3 y hy
theorem Bfs.pop {adj : List (List Int)} {src out q : List Int} {v : Nat} (h : Bfs adj src out ((v : Int) :: q)) (hd : ∀ u : Nat, (u : Int) ∈ rd_L1 adj (v : Int) → rd out (u : Int) ≠ -1) : Bfs adj src out q := by
  refine ⟨h.near, h.zero, h.least, fun x hx => h.queue x (List.mem_cons_of_mem _ hx), fun i hi h0 => ?_⟩
  rcases h.shut i hi h0 with h1 | h1
  · rcases List.mem_cons.1 h1 with h1 | h1
    · have : i = v := by omega
      subst this
      exact .inr fun y _ hy => hd y hy
    · exact .inl h1
  · exact .inr h1
theorem Bfs.count {adj : List (List Int)} {src : List Int} {v : Nat} : ∀ (us out q : List Int), Bfs adj src out ((v : Int) :: q) → v < out.length → Arcs out.length us → (∀ u, u ∈ us → u ∈ rd_L1 adj (v : Int)) →
    (Proofs.YtmcloifhgbehdaaGreatDoor.visit v us (out, q)).2.length + blank (Proofs.YtmcloifhgbehdaaGreatDoor.visit v us (out, q)).1 = q.length + blank out := by
  intro us
  induction us with
  | nil => intro out q _ _ _ _; rfl
  | cons x us ih =>
    intro out q h hv ha hs
    obtain ⟨h0, h1⟩ := ha x List.mem_cons_self
    obtain ⟨u, rfl⟩ := Int.eq_ofNat_of_zero_le h0
    have hu : u < out.length := by omega
    have hs' : ∀ u, u ∈ us → u ∈ rd_L1 adj (v : Int) := fun y hy => hs y (List.mem_cons_of_mem _ hy)
    have hv0 := h.queue v List.mem_cons_self
    have hlv := h.least v hv
    rw [Proofs.YtmcloifhgbehdaaGreatDoor.visit]
    by_cases hb : rd out (u : Int) = -1
    · simp only [if_pos hb, Int.toNat_natCast]
      have hm := h.mark hv hu (hs _ List.mem_cons_self) hv0 hb
      have hl : (out.set u (rd out (v : Int) + 1)).length = out.length := List.length_set ..
      have hc := blank_set out (u : Int) (rd out (v : Int) + 1) h0 h1 hb (by omega)
      rw [Int.toNat_natCast] at hc
      rw [ih (out.set u (rd out (v : Int) + 1)) (q ++ [(u : Int)]) hm (by rw [hl]; exact hv) (by rw [hl]; exact fun y hy => ha y (List.mem_cons_of_mem _ hy)) hs', List.length_append]
      simp only [List.length_cons, List.length_nil]
      omega
    · simp only [if_neg hb]
      exact ih out q h hv (fun y hy => ha y (List.mem_cons_of_mem _ hy)) hs'
theorem farL_bfs {adj : List (List Int)} {src : List Int} {n : Nat} (ha : ∀ i : Nat, Arcs n (rd_L1 adj i)) : ∀ (f : Nat) (out q : List Int), out.length = n → Arcs n q → Bfs adj src out q → q.length + blank out < f →
    Bfs adj src (farL adj f (out, q)) [] ∧ (farL adj f (out, q)).length = n := by
  intro f
  induction f with
  | zero => intro out q _ _ _ h; omega
  | succ f ih =>
    intro out q hl hq h hf
    cases q with
    | nil => exact ⟨h, hl⟩
    | cons x q =>
      obtain ⟨h0, h1⟩ := hq x List.mem_cons_self
      obtain ⟨v, rfl⟩ := Int.eq_ofNat_of_zero_le h0
      have hv : v < out.length := by omega
      obtain ⟨g1, g2, g3, g4⟩ := Bfs.visit (rd_L1 adj (v : Int)) out q h hv (by rw [hl]; exact ha v) (fun _ hu => hu)
      have hc := Bfs.count (rd_L1 adj (v : Int)) out q h hv (by rw [hl]; exact ha v) (fun _ hu => hu)
      have hqq : ∀ (us out q : List Int), Arcs n us → Arcs n q → Arcs n (Proofs.YtmcloifhgbehdaaGreatDoor.visit (v : Int) us (out, q)).2 := by
        intro us
        induction us with
        | nil => intro out q _ hq; exact hq
        | cons y us ihu =>
          intro out q hus hq
          rw [Proofs.YtmcloifhgbehdaaGreatDoor.visit]
          have hus' : Arcs n us := fun z hz => hus z (List.mem_cons_of_mem _ hz)
          by_cases hb : rd out y = -1
          · simp only [if_pos hb]
            refine ihu (out.set y.toNat (rd out (v : Int) + 1)) (q ++ [y]) hus' (fun z hz => ?_)
            rcases List.mem_append.1 hz with hz | hz
            · exact hq z hz
            · rw [List.mem_singleton.1 hz]; exact hus y List.mem_cons_self
          · simp only [if_neg hb]
            exact ihu out q hus' hq
      have hgo := ih (Proofs.YtmcloifhgbehdaaGreatDoor.visit (v : Int) (rd_L1 adj (v : Int)) (out, q)).1 (Proofs.YtmcloifhgbehdaaGreatDoor.visit (v : Int) (rd_L1 adj (v : Int)) (out, q)).2 (g2.trans hl) (hqq _ _ _ (ha v) (fun z hz => hq z (List.mem_cons_of_mem _ hz))) (g1.pop g3) (by rw [hc]; simp only [List.length_cons] at hf; omega)
      exact hgo
theorem zeroL_rd : ∀ (src out : List Int), Arcs out.length src → ∀ i : Nat, i < out.length → rd (zeroL src out) (i : Int) = if (i : Int) ∈ src then 0 else rd out (i : Int) := by
  intro src
  induction src with
  | nil => intro out _ i _; simp [zeroL]
  | cons v vs ih =>
    intro out ha i hi
    obtain ⟨h0, h1⟩ := ha v List.mem_cons_self
    obtain ⟨u, rfl⟩ := Int.eq_ofNat_of_zero_le h0
    have hl : (out.set u (0 : Int)).length = out.length := List.length_set ..
    rw [zeroL, Int.toNat_natCast, ih _ (by rw [hl]; exact fun y hy => ha y (List.mem_cons_of_mem _ hy)) i (by rw [hl]; exact hi), rd_set _ _ _ _ hi]
    by_cases h1 : (i : Int) ∈ vs
    · rw [if_pos h1, if_pos (List.mem_cons_of_mem _ h1)]
    · rw [if_neg h1]
      by_cases e : u = i
      · subst e; rw [if_pos rfl, if_pos List.mem_cons_self]
      · rw [if_neg e, if_neg (by rw [List.mem_cons]; rintro (h | h); · omega
                                 · exact h1 h)]
theorem bfs_start {adj : List (List Int)} {src : List Int} {n : Nat} (hs : Arcs n src) : Bfs adj src (zeroL src (List.replicate n (-1))) src := by
  have hl : (zeroL src (List.replicate n (-1))).length = n := by rw [zeroL_length, List.length_replicate]
  have hr : ∀ i : Nat, i < n → rd (zeroL src (List.replicate n (-1))) (i : Int) = if (i : Int) ∈ src then 0 else -1 := by
    intro i hi
    rw [zeroL_rd src _ (by rw [List.length_replicate]; exact hs) i (by rw [List.length_replicate]; exact hi)]
    have : rd (List.replicate n (-1)) (i : Int) = -1 := by simp [rd, hi]
    rw [this]
  refine ⟨fun u hu h0 => ?_, fun u hu => ?_, fun u hu => ?_, fun v hv => ?_, fun v hv h0 => ?_⟩
  · rw [hr u (by omega)] at h0
    split at h0 <;> omega
  · rw [hr u (by omega)]
    by_cases h : (u : Int) ∈ src
    · simp [h]
    · simp [h]
  · rw [hr u (by omega)]
    split <;> omega
  · have := hs _ hv
    rw [hr v (by omega), if_pos hv]
    omega
  · rw [hr v (by omega)] at h0
    by_cases h : (v : Int) ∈ src
    · exact .inl h
    · rw [if_neg h] at h0
      exact absurd rfl h0
theorem farF_bfs {adj : List (List Int)} {src : List Int} (ha : ∀ i : Nat, Arcs adj.length (rd_L1 adj i)) (hs : Arcs adj.length src) : Bfs adj src (farF adj src) [] ∧ (farF adj src).length = adj.length := by
  have hl : (zeroL src (List.replicate adj.length (-1))).length = adj.length := by rw [zeroL_length, List.length_replicate]
  have hb : blank (zeroL src (List.replicate adj.length (-1))) ≤ adj.length := Nat.le_trans List.count_le_length (Nat.le_of_eq hl)
  exact farL_bfs ha _ _ _ hl hs (bfs_start hs) (by omega)
theorem path_step {adj : List (List Int)} {tgt : List Int} (hM : MayG adj) (ht : setN tgt adj.length = true) (v : Nat) (hv : v < adj.length) (h0 : 0 < rd (farF (turnF adj) tgt) (v : Int)) :
    ∃ u, u ∈ rd_L1 adj (v : Int) ∧ rd (farF (turnF adj) tgt) u = rd (farF (turnF adj) tgt) (v : Int) - 1 := by
  have hl := turnF_length adj
  obtain ⟨hB, hL⟩ := farF_bfs (adj := turnF adj) (src := tgt) (turnF_arcs adj hM) (by rw [hl]; exact arcs_setN ht)
  obtain ⟨u, -, h1, h2⟩ := hB.near v (by omega) h0
  obtain ⟨j, -, h3, h4⟩ := (turnF_mem adj hM u (v : Int)).1 h1
  have : v = j := by omega
  subst this
  exact ⟨(u : Int), h4, h2⟩
end Go.Proofs.YtmcloifhgbehdaaGreatDoor
namespace Gw
abbrev St := Nat → Bool
def card (n : Nat) (s : St) : Nat := match n with
  | 0 => 0
  | n + 1 => card n s + (s n).toNat
def uni (s t : St) : St := fun i => s i || t i
def int (s t : St) : St := fun i => s i && t i
def dif (s t : St) : St := fun i => s i && !t i
def sng (x : Nat) : St := fun i => i == x
def add (s : St) (x : Nat) : St := fun i => s i || i == x
def del (s : St) (x : Nat) : St := fun i => s i && !(i == x)
def emp : St := fun _ => false
def full : St := fun _ => true
/-- s lies in t, below n. -/
def Sub (n : Nat) (s t : St) : Prop := ∀ i, i < n → s i = true → t i = true
def Eqv (n : Nat) (s t : St) : Prop := ∀ i, i < n → s i = t i
theorem card_le (n : Nat) (s : St) : card n s ≤ n := by
  induction n with
  | zero => simp [card]
  | succ n ih => simp only [card]; cases s n <;> simp <;> omega
theorem card_congr {n : Nat} {s t : St} (h : Eqv n s t) : card n s = card n t := by
  induction n with
  | zero => rfl
  | succ n ih =>
    simp only [card]
    rw [ih (fun i hi => h i (by omega)), h n (by omega)]
theorem card_mono {n : Nat} {s t : St} (h : Sub n s t) : card n s ≤ card n t := by
  induction n with
  | zero => simp [card]
  | succ n ih =>
    simp only [card]
    have := ih (fun i hi => h i (by omega))
    have h2 := h n (by omega)
    cases e : s n <;> cases e2 : t n <;> simp_all <;> omega
theorem card_mod (n : Nat) (s t : St) : card n (uni s t) + card n (int s t) = card n s + card n t := by
  induction n with
  | zero => rfl
  | succ n ih =>
    simp only [card, uni, int] at *
    cases s n <;> cases t n <;> simp <;> omega
theorem card_emp (n : Nat) : card n emp = 0 := by
  induction n with
  | zero => rfl
  | succ n ih => simp [card, ih, emp]
theorem card_full (n : Nat) : card n full = n := by
  induction n with
  | zero => rfl
  | succ n ih => simp [card, ih, full]
theorem card_dif (n : Nat) (s t : St) : card n (dif s t) + card n (int s t) = card n s := by
  induction n with
  | zero => rfl
  | succ n ih =>
    simp only [card, dif, int] at *
    cases s n <;> cases t n <;> simp <;> omega
theorem add_at (s : St) (x i : Nat) : add s x i = (s i || i == x) := rfl
theorem del_at (s : St) (x i : Nat) : del s x i = (s i && !(i == x)) := rfl
theorem card_add {n : Nat} {s : St} {x : Nat} (hx : x < n) (h : s x = false) : card n (add s x) = card n s + 1 := by
  induction n with
  | zero => omega
  | succ n ih =>
    by_cases e : x = n
    · subst e
      have : card x (add s x) = card x s := card_congr (fun i hi => by
        have : (i == x) = false := by simp; omega
        simp [add_at, this])
      simp [card, this, add_at, h]
    · have := ih (by omega)
      have hb : (n == x) = false := by simp; omega
      simp only [card, this, add_at, hb, Bool.or_false]; omega
theorem card_del {n : Nat} {s : St} {x : Nat} (hx : x < n) (h : s x = true) : card n (del s x) + 1 = card n s := by
  induction n with
  | zero => omega
  | succ n ih =>
    by_cases e : x = n
    · subst e
      have : card x (del s x) = card x s := card_congr (fun i hi => by
        have : (i == x) = false := by simp; omega
        simp [del_at, this])
      simp [card, this, del_at, h]
    · have := ih (by omega)
      have hb : (n == x) = false := by simp; omega
      simp only [card, del_at, hb, Bool.not_false, Bool.and_true]; omega
/-- A rank function on the sets below n. -/
structure Mat (n : Nat) where
  r : St → Nat
  ext : ∀ s t, Eqv n s t → r s = r t
  le : ∀ s, r s ≤ card n s
  mono : ∀ s t, Sub n s t → r s ≤ r t
  sub : ∀ s t, r (uni s t) + r (int s t) ≤ r s + r t
namespace Mat
variable {n : Nat} (M : Mat n)
def indep (s : St) : Prop := M.r s = card n s
theorem r_emp : M.r emp = 0 := by
  have := M.le emp; rw [card_emp] at this; omega
theorem add_le (s : St) (x : Nat) : M.r (add s x) ≤ M.r s + 1 := by
  by_cases hx : x < n
  · have h1 := M.sub s (sng x)
    have h2 := M.le (sng x)
    have h3 : card n (sng x) ≤ 1 := by
      have : card n (sng x) = card n (add emp x) := card_congr (fun i _ => by simp [sng, add, emp])
      rw [this, card_add hx (by simp [emp]), card_emp]; omega
    have h4 : M.r (uni s (sng x)) = M.r (add s x) := M.ext _ _ (fun i _ => by simp [uni, sng, add])
    omega
  · have : M.r (add s x) = M.r s := M.ext _ _ (fun i hi => by
      have : (i == x) = false := by simp; omega
      simp [add, this])
    omega
/-- x lies in the closure of s. -/
def cl (s : St) (x : Nat) : Prop := M.r (add s x) = M.r s
theorem not_cl {s : St} {x : Nat} (h : ¬ M.cl s x) : M.r (add s x) = M.r s + 1 := by
  have h1 := M.add_le s x
  have h2 := M.mono s (add s x) (fun i _ hi => by simp [add, hi])
  unfold cl at h
  omega
theorem cl_mono {s t : St} (h : Sub n s t) {x : Nat} (hc : M.cl s x) : M.cl t x := by
  unfold cl at *
  have h1 := M.sub (add s x) t
  have h2 : M.r (uni (add s x) t) = M.r (add t x) := M.ext _ _ (fun i hi => by
    have := h i hi
    simp only [uni, add]
    cases e : s i <;> cases e2 : t i <;> simp_all)
  have h3 : M.r s ≤ M.r (int (add s x) t) := M.mono _ _ (fun i hi hs => by simp [int, add, hs, h i hi hs])
  have h4 := M.mono t (add t x) (fun i _ hi => by simp [add, hi])
  omega
theorem cl_mem {s : St} {x : Nat} (h : s x = true) : M.cl s x := by
  unfold cl
  exact M.ext _ _ (fun i _ => by
    simp only [add]
    by_cases e : i = x
    · subst e; simp [h]
    · simp [e])
/-- If all of t lies in the closure of s, the two together have the rank of s. -/
theorem r_uni_cl (s t : St) (h : ∀ x, x < n → t x = true → M.cl s x) : M.r (uni s t) = M.r s := by
  suffices ∀ k, k ≤ n → M.r (uni s (fun i => t i && decide (i < k))) = M.r s by
    have h1 := this n (Nat.le_refl _)
    rw [← h1]
    exact M.ext _ _ (fun i hi => by simp [uni, hi])
  intro k hk
  induction k with
  | zero => exact M.ext _ _ (fun i _ => by simp [uni])
  | succ k ih =>
    have ih := ih (by omega)
    by_cases e : t k = true
    · have hc := M.cl_mono (s := s) (t := uni s (fun i => t i && decide (i < k))) (fun i _ hi => by simp [uni, hi]) (h k (by omega) e)
      unfold cl at hc
      rw [← ih, ← hc]
      exact M.ext _ _ (fun i _ => by
        simp only [uni, add]
        by_cases e2 : i = k
        · subst e2; simp [e]
        · have : decide (i < k + 1) = decide (i < k) := by
            by_cases h3 : i < k <;> simp [h3] <;> omega
          simp [this, e2])
    · rw [← ih]
      exact M.ext _ _ (fun i _ => by
        simp only [uni]
        by_cases e2 : i = k
        · subst e2; simp [e]
        · have : decide (i < k + 1) = decide (i < k) := by
            by_cases h3 : i < k <;> simp [h3] <;> omega
          simp [this])
/-- The closure of what lies in the closure is no more. -/
theorem cl_trans {s t : St} (h : ∀ x, x < n → t x = true → M.cl s x) {x : Nat} (hc : M.cl t x) : M.cl s x := by
  have h1 := M.r_uni_cl s t h
  have h2 : M.cl (uni s t) x := M.cl_mono (fun i _ hi => by simp [uni, hi]) hc
  unfold cl at *
  have h3 : M.r (add s x) ≤ M.r (add (uni s t) x) := M.mono _ _ (fun i _ hi => by
    simp only [add, uni] at *
    cases e : s i <;> simp_all)
  have h4 := M.mono s (add s x) (fun i _ hi => by simp [add, hi])
  omega
theorem indep_sub {s t : St} (h : Sub n s t) (ht : M.indep t) : M.indep s := by
  unfold indep at *
  have h1 := M.sub s (dif t s)
  have h2 := M.le (dif t s)
  have h3 := card_dif n t s
  have h4 : card n (int t s) = card n s := card_congr (fun i hi => by
    have := h i hi
    simp only [int]
    cases e : s i <;> simp_all)
  have h5 : M.r (uni s (dif t s)) = M.r t := M.ext _ _ (fun i hi => by
    have := h i hi
    simp only [uni, dif]
    cases e : s i <;> simp_all)
  have := M.le s
  omega
theorem indep_add {s : St} {x : Nat} (hx : x < n) (hs : s x = false) (h : M.indep s) : M.indep (add s x) ↔ ¬ M.cl s x := by
  unfold indep at *
  have := card_add hx hs
  constructor
  · intro h1 h2
    unfold cl at h2
    omega
  · intro h1
    have := M.not_cl h1
    omega
theorem indep_ext {s t : St} (h : Eqv n s t) : M.indep s ↔ M.indep t := by
  unfold indep
  rw [M.ext s t h, card_congr h]
theorem cl_ext {s t : St} (h : Eqv n s t) (x : Nat) : M.cl s x ↔ M.cl t x := by
  unfold cl
  rw [M.ext s t h, M.ext (add s x) (add t x) (fun i hi => by simp [add, h i hi])]
end Mat
end Gw
namespace Gw
namespace Mat
variable {n : Nat} (M : Mat n)
def exch (I : St) : List (Nat × Nat) → St
  | [] => I
  | p :: ps => add (del (exch I ps) p.2) p.1
structure Exch (I : St) (ps : List (Nat × Nat)) : Prop where
  ind : M.indep I
  lt : ∀ p ∈ ps, p.1 < n ∧ p.2 < n
  out : ∀ p ∈ ps, I p.2 = true ∧ I p.1 = false
  yes : ∀ p ∈ ps, ¬ M.cl (del I p.2) p.1
  tri : ps.Pairwise fun p q => M.cl (del I p.2) q.1
variable {M}
theorem Exch.tail {I : St} {p : Nat × Nat} {ps : List (Nat × Nat)} (h : M.Exch I (p :: ps)) : M.Exch I ps :=
  ⟨h.ind, fun q hq => h.lt q (by simp [hq]), fun q hq => h.out q (by simp [hq]), fun q hq => h.yes q (by simp [hq]), (List.pairwise_cons.1 h.tri).2⟩
theorem exch_from {I : St} : ∀ (ps : List (Nat × Nat)) (z : Nat), exch I ps z = true → I z = true ∨ ∃ q ∈ ps, z = q.1
  | [], z, h => .inl h
  | p :: ps, z, h => by
    simp only [exch, add_at, del_at] at h
    by_cases e : z = p.1
    · exact .inr ⟨p, by simp, e⟩
    · have : exch I ps z = true := by
        have hb : (z == p.1) = false := by simpa using e
        simp [hb] at h; exact h.1
      rcases exch_from ps z this with h | ⟨q, hq, e⟩
      · exact .inl h
      · exact .inr ⟨q, by simp [hq], e⟩
theorem exch_stay {I : St} : ∀ (ps : List (Nat × Nat)) (z : Nat), I z = true → (∀ q ∈ ps, z ≠ q.2) → exch I ps z = true
  | [], z, h, _ => h
  | p :: ps, z, h, hq => by
    have h1 := exch_stay ps z h (fun q hq' => hq q (by simp [hq']))
    have h2 : (z == p.2) = false := by simpa using hq p (by simp)
    simp [exch, add_at, del_at, h1, h2]
theorem Exch.main {I : St} : ∀ {ps : List (Nat × Nat)}, M.Exch I ps → M.indep (exch I ps) ∧ card n (exch I ps) = card n I
  | [], h => ⟨h.ind, rfl⟩
  | p :: ps, h => by
    obtain ⟨h1, h2⟩ := Exch.main h.tail
    obtain ⟨hx, hy⟩ := h.lt p (by simp)
    obtain ⟨ho1, ho2⟩ := h.out p (by simp)
    have hyes := h.yes p (by simp)
    have htri := (List.pairwise_cons.1 h.tri).1
    have hyJ : exch I ps p.2 = true := exch_stay ps p.2 ho1 (fun q hq e => by
      have h3 := h.yes q (by simp [hq])
      have h4 := htri q hq
      rw [e] at h4
      exact h3 h4)
    have hncl : ¬ M.cl (del (exch I ps) p.2) p.1 := fun hc => hyes (M.cl_trans (t := del (exch I ps) p.2) (fun z hz hz1 => by
      simp only [del_at, Bool.and_eq_true, Bool.not_eq_true', beq_eq_false_iff_ne] at hz1
      rcases exch_from ps z hz1.1 with h5 | ⟨q, hq, e⟩
      · exact M.cl_mem (by simp [del_at, h5, hz1.2])
      · rw [e]; exact htri q hq) hc)
    have hxJ : del (exch I ps) p.2 p.1 = false := by
      cases e : del (exch I ps) p.2 p.1
      · rfl
      · exact absurd (M.cl_mem e) hncl
    have hd : M.indep (del (exch I ps) p.2) := M.indep_sub (fun i _ hi => by simp [del_at] at hi; exact hi.1) h1
    have hc1 := card_del hy hyJ
    have hc2 := card_add hx hxJ
    refine ⟨(M.indep_add hx hxJ hd).2 hncl, ?_⟩
    show card n (add (del (exch I ps) p.2) p.1) = _
    omega
/-- and one more, that lies in no closure of the old ones, while the others do. -/
theorem Exch.more {I : St} {ps : List (Nat × Nat)} (h : M.Exch I ps) (hcl : ∀ p ∈ ps, M.cl I p.1) {x : Nat} (hx : x < n) (hn : ¬ M.cl I x) :
    M.indep (add (exch I ps) x) ∧ card n (add (exch I ps) x) = card n I + 1 := by
  obtain ⟨h1, h2⟩ := h.main
  have hncl : ¬ M.cl (exch I ps) x := fun hc => hn (M.cl_trans (t := exch I ps) (fun z hz hz1 => by
    rcases exch_from ps z hz1 with h5 | ⟨q, hq, e⟩
    · exact M.cl_mem h5
    · rw [e]; exact hcl q hq) hc)
  have hxJ : exch I ps x = false := by
    cases e : exch I ps x
    · rfl
    · exact absurd (M.cl_mem e) hncl
  exact ⟨(M.indep_add hx hxJ h1).2 hncl, by rw [card_add hx hxJ, h2]⟩
/-- what an exchange leaves, point by point. -/
theorem exch_at {I : St} : ∀ (ps : List (Nat × Nat)), (∀ p ∈ ps, I p.2 = true ∧ I p.1 = false) → ∀ z, exch I ps z = true ↔ (z ∈ ps.map (·.1)) ∨ (I z = true ∧ ¬ z ∈ ps.map (·.2))
  | [], _, z => by simp [exch]
  | p :: ps, h, z => by
    have ih := exch_at ps (fun q hq => h q (by simp [hq])) z
    have hp := h p (by simp)
    simp only [exch, add_at, del_at, List.map_cons, List.mem_cons, Bool.or_eq_true, Bool.and_eq_true, Bool.not_eq_true', beq_eq_false_iff_ne, beq_iff_eq, ih]
    constructor
    · rintro (⟨h1 | ⟨h1, h2⟩, h3⟩ | h1)
      · exact .inl (.inr h1)
      · exact .inr ⟨h1, fun h4 => by rcases h4 with h4 | h4 <;> contradiction⟩
      · exact .inl (.inl h1)
    · rintro ((h1 | h1) | ⟨h1, h2⟩)
      · exact .inr h1
      · refine .inl ⟨.inl h1, fun e => ?_⟩
        simp only [List.mem_map] at h1
        obtain ⟨q, hq, e2⟩ := h1
        have := (h q (by simp [hq])).2
        rw [e2, e, hp.1] at this
        cases this
      · exact .inl ⟨.inr ⟨h1, fun h4 => h2 (.inr h4)⟩, fun e => h2 (.inl e)⟩
/-- x lies in the closure of what stays, if it lies in that of all without each one that goes. -/
theorem cl_cut {I : St} (hI : M.indep I) {x : Nat} (hx : M.cl I x) (D : St) (hD : ∀ y, y < n → I y = true → D y = true → M.cl (del I y) x) : M.cl (dif I D) x := by
  suffices ∀ k, k ≤ n → M.cl (dif I (fun i => D i && decide (i < k))) x by
    refine (M.cl_ext (fun i hi => ?_) x).1 (this n (Nat.le_refl _))
    simp [dif, hi]
  intro k hk
  induction k with
  | zero => exact (M.cl_ext (fun i _ => by simp [dif]) x).1 hx
  | succ k ih =>
    have ih := ih (by omega)
    by_cases e : D k = true ∧ I k = true
    · have hc := hD k (by omega) e.2 e.1
      have hs := M.sub (add (dif I (fun i => D i && decide (i < k))) x) (add (del I k) x)
      have e1 : M.r (add (dif I (fun i => D i && decide (i < k))) x) = M.r (dif I (fun i => D i && decide (i < k))) := ih
      have e2 : M.r (add (del I k) x) = M.r (del I k) := hc
      have i1 : M.indep (dif I (fun i => D i && decide (i < k))) := M.indep_sub (fun i _ hi => by simp [dif] at hi; exact hi.1) hI
      have i2 : M.indep (del I k) := M.indep_sub (fun i _ hi => by simp [del_at] at hi; exact hi.1) hI
      have i3 : M.indep (dif I (fun i => D i && decide (i < k + 1))) := M.indep_sub (fun i _ hi => by simp [dif] at hi; exact hi.1) hI
      unfold indep at i1 i2 i3 hI
      have c1 := card_del (n := n) (s := I) (x := k) (by omega) e.2
      have c2 := card_del (n := n) (s := dif I (fun i => D i && decide (i < k))) (x := k) (by omega) (by simp [dif, e.2])
      have c3 : card n (del (dif I (fun i => D i && decide (i < k))) k) = card n (dif I (fun i => D i && decide (i < k + 1))) := card_congr (fun i hi => by
        simp only [del_at, dif]
        by_cases e3 : i = k
        · subst e3; simp [e.1]
        · have : decide (i < k + 1) = decide (i < k) := by
            by_cases h3 : i < k <;> simp [h3] <;> omega
          have hb : (i == k) = false := by simpa using e3
          simp [this, hb])
      have u1 : M.r (uni (add (dif I (fun i => D i && decide (i < k))) x) (add (del I k) x)) = M.r (add I x) := M.ext _ _ (fun i hi => by
        simp only [uni, add_at, del_at, dif]
        by_cases e3 : i = k
        · subst e3; simp [e.2]
        · have hb : (i == k) = false := by simpa using e3
          simp only [hb, Bool.not_false, Bool.and_true]
          cases I i <;> cases (D i && decide (i < k)) <;> cases (i == x) <;> rfl)
      have u2 : M.r (int (add (dif I (fun i => D i && decide (i < k))) x) (add (del I k) x)) = M.r (add (dif I (fun i => D i && decide (i < k + 1))) x) := M.ext _ _ (fun i hi => by
        simp only [int, add_at, del_at, dif]
        by_cases e3 : i = k
        · subst e3; simp [e.1, e.2]
        · have hb : (i == k) = false := by simpa using e3
          have : decide (i < k + 1) = decide (i < k) := by
            by_cases h3 : i < k <;> simp [h3] <;> omega
          simp only [hb, this, Bool.not_false, Bool.and_true]
          cases I i <;> cases (D i && decide (i < k)) <;> cases (i == x) <;> rfl)
      have hxI : M.r (add I x) = M.r I := hx
      have m1 := M.mono (dif I (fun i => D i && decide (i < k + 1))) (add (dif I (fun i => D i && decide (i < k + 1))) x) (fun i _ hi => by simp [add_at, hi])
      unfold cl
      omega
    · refine (M.cl_ext (fun i hi => ?_) x).1 ih
      simp only [dif]
      by_cases e3 : i = k
      · subst e3
        cases h1 : D i <;> cases h2 : I i <;> simp_all
      · have : decide (i < k + 1) = decide (i < k) := by
          by_cases h3 : i < k <;> simp [h3] <;> omega
        simp [this]
/-- What shows the rank of U. -/
theorem r_cert {I U : St} (hI : M.indep I) (h1 : ∀ x, x < n → U x = true → I x = false → M.cl I x)
    (h2 : ∀ x y, x < n → y < n → U x = true → I x = false → I y = true → U y = false → M.cl (del I y) x) : M.r U = card n (int I U) := by
  have hs : M.indep (int I U) := M.indep_sub (fun i _ hi => by simp [int] at hi; exact hi.1) hI
  have h3 : ∀ x, x < n → U x = true → M.cl (int I U) x := by
    intro x hx hU
    by_cases e : I x = true
    · exact M.cl_mem (by simp [int, e, hU])
    · have e : I x = false := by simpa using e
      have := cl_cut hI (h1 x hx hU e) (fun i => !U i) (fun y hy hIy hUy => h2 x y hx hy hU e hIy (by simpa using hUy))
      exact (M.cl_ext (fun i _ => by simp [dif, int]) x).1 this
  have h4 := M.r_uni_cl (int I U) U h3
  have h5 : M.r (uni (int I U) U) = M.r U := M.ext _ _ (fun i _ => by simp only [uni, int]; cases I i <;> cases U i <;> rfl)
  unfold indep at hs
  omega
end Mat
end Gw
namespace Gw
namespace Mat
/-- all sets. -/
def free (n : Nat) : Mat n where
  r := card n
  ext := fun _ _ h => card_congr h
  le := fun _ => Nat.le_refl _
  mono := fun _ _ h => card_mono h
  sub := fun s t => Nat.le_of_eq (card_mod n s t)
/-- no more than k. -/
def trunc {n : Nat} (M : Mat n) (k : Nat) : Mat n where
  r := fun s => min (M.r s) k
  ext := fun s t h => by rw [M.ext s t h]
  le := fun s => by have := M.le s; omega
  mono := fun s t h => by have := M.mono s t h; omega
  sub := fun s t => by
    have h1 := M.sub s t
    have h2 := M.mono (int s t) s (fun i _ h => by simp [int] at h; exact h.1)
    have h3 := M.mono (int s t) t (fun i _ h => by simp [int] at h; exact h.2)
    have h4 := M.mono s (uni s t) (fun i _ h => by simp [uni, h])
    have h5 := M.mono t (uni s t) (fun i _ h => by simp [uni, h])
    omega
def co (s : St) : St := fun i => !s i
theorem card_co (n : Nat) (s : St) : card n (co s) + card n s = n := by
  have h1 := card_mod n (co s) s
  have h2 : card n (uni (co s) s) = n := by
    rw [card_congr (t := full) (fun i _ => by simp [uni, co, full]), card_full]
  have h3 : card n (int (co s) s) = 0 := by
    rw [card_congr (t := emp) (fun i _ => by simp [int, co, emp]), card_emp]
  omega
/-- the image of a set below m. -/
def img (m : Nat) (f : Nat → Nat) (s : St) : St := fun j => (List.range m).any fun i => s i && (f i == j)
theorem img_iff {m : Nat} {f : Nat → Nat} {s : St} {j : Nat} : img m f s j = true ↔ ∃ i, i < m ∧ s i = true ∧ f i = j := by
  simp [img, List.any_eq_true]
theorem card_img {n m : Nat} {f : Nat → Nat} (hf : ∀ i, i < m → f i < n) (inj : ∀ i j, i < m → j < m → f i = f j → i = j) (s : St) : card n (img m f s) = card m s := by
  induction m with
  | zero => rw [card_congr (t := emp) (fun i _ => by simp [img, emp]), card_emp]; rfl
  | succ m ih =>
    have ih := ih (fun i hi => hf i (by omega)) (fun i j hi hj => inj i j (by omega) (by omega))
    have hno : img m f s (f m) = false := by
      cases e : img m f s (f m)
      · rfl
      · obtain ⟨i, hi, _, h⟩ := img_iff.1 e
        have := inj i m (by omega) (by omega) h
        omega
    cases hs : s m
    · rw [card_congr (t := img m f s) (fun j _ => ?_), ih]
      · simp [card, hs]
      · rw [Bool.eq_iff_iff, img_iff, img_iff]
        constructor
        · rintro ⟨i, hi, h1, h2⟩
          by_cases e : i = m
          · subst e; rw [hs] at h1; cases h1
          · exact ⟨i, by omega, h1, h2⟩
        · rintro ⟨i, hi, h1, h2⟩
          exact ⟨i, by omega, h1, h2⟩
    · rw [card_congr (t := add (img m f s) (f m)) (fun j _ => ?_), card_add (hf m (by omega)) hno, ih]
      · simp [card, hs]
      · rw [Bool.eq_iff_iff, add_at, img_iff, Bool.or_eq_true, img_iff, beq_iff_eq]
        constructor
        · rintro ⟨i, hi, h1, h2⟩
          by_cases e : i = m
          · subst e; exact .inr h2.symm
          · exact .inl ⟨i, by omega, h1, h2⟩
        · rintro (⟨i, hi, h1, h2⟩ | h)
          · exact ⟨i, by omega, h1, h2⟩
          · exact ⟨m, by omega, hs, h.symm⟩
/-- one behind the other. -/
def shift (k : Nat) (s : St) : St := fun i => s (i + k)
/-- matchings: m right ones, near i: those that i may have. -/
def near (n : Nat) (adj : Nat → St) (s : St) : St := fun k => (List.range n).any fun i => s i && adj i k
theorem near_iff {n : Nat} {adj : Nat → St} {s : St} {k : Nat} : near n adj s k = true ↔ ∃ i, i < n ∧ s i = true ∧ adj i k = true := by
  simp [near, List.any_eq_true]
def lack (n m : Nat) (adj : Nat → St) (s t : St) : Nat := card m (near n adj (int s t)) + card n (dif s t)
def trans (n m : Nat) (adj : Nat → St) (r : St → Nat) (h1 : ∀ s, ∃ t, r s = lack n m adj s t) (h2 : ∀ s t, r s ≤ lack n m adj s t) : Mat n where
  r := r
  ext := fun s t h => by
    have e : ∀ u, lack n m adj s u = lack n m adj t u := fun u => by
      unfold lack
      rw [card_congr (n := m) (t := near n adj (int t u)) (fun k _ => ?_), card_congr (s := dif s u) (t := dif t u) (fun i hi => by simp [dif, h i hi])]
      rw [Bool.eq_iff_iff, near_iff, near_iff]
      constructor
      · rintro ⟨i, hi, a, b⟩; exact ⟨i, hi, by simpa [int, h i hi] using a, b⟩
      · rintro ⟨i, hi, a, b⟩; exact ⟨i, hi, by simpa [int, h i hi] using a, b⟩
    obtain ⟨u, hu⟩ := h1 s
    obtain ⟨v, hv⟩ := h1 t
    have := h2 s v
    have := h2 t u
    rw [e] at *; omega
  le := fun s => by
    have := h2 s emp
    unfold lack at this
    rw [card_congr (n := m) (t := emp) (fun k _ => by simp [near, int, emp]), card_emp, card_congr (s := dif s emp) (t := s) (fun i _ => by simp [dif, emp])] at this
    omega
  mono := fun s t h => by
    obtain ⟨v, hv⟩ := h1 t
    have h3 := h2 s v
    unfold lack at *
    have := card_mono (n := m) (s := near n adj (int s v)) (t := near n adj (int t v)) (fun k _ hk => by
      rw [near_iff] at hk ⊢
      obtain ⟨i, hi, a, b⟩ := hk
      refine ⟨i, hi, ?_, b⟩
      simp only [int, Bool.and_eq_true] at a ⊢
      exact ⟨h i hi a.1, a.2⟩)
    have := card_mono (n := n) (s := dif s v) (t := dif t v) (fun i hi hk => by
      simp only [dif, Bool.and_eq_true] at hk ⊢
      exact ⟨h i hi hk.1, hk.2⟩)
    omega
  sub := fun s t => by
    obtain ⟨u, hu⟩ := h1 s
    obtain ⟨v, hv⟩ := h1 t
    have h3 := h2 (uni s t) (uni (int s u) (int t v))
    have h4 := h2 (int s t) (int (int s u) (int t v))
    unfold lack at *
    have m1 := card_mod m (near n adj (int s u)) (near n adj (int t v))
    have a1 : card m (near n adj (int (uni s t) (uni (int s u) (int t v)))) = card m (uni (near n adj (int s u)) (near n adj (int t v))) := card_congr (fun k _ => by
      rw [Bool.eq_iff_iff]
      simp only [uni, Bool.or_eq_true, near_iff, int, Bool.and_eq_true]
      constructor
      · rintro ⟨i, hi, ⟨_, a | a⟩, b⟩
        · exact .inl ⟨i, hi, a, b⟩
        · exact .inr ⟨i, hi, a, b⟩
      · rintro (⟨i, hi, a, b⟩ | ⟨i, hi, a, b⟩)
        · exact ⟨i, hi, ⟨.inl a.1, .inl a⟩, b⟩
        · exact ⟨i, hi, ⟨.inr a.1, .inr a⟩, b⟩)
    have a2 : card m (near n adj (int (int s t) (int (int s u) (int t v)))) ≤ card m (int (near n adj (int s u)) (near n adj (int t v))) := card_mono (fun k _ hk => by
      simp only [int, Bool.and_eq_true, near_iff] at hk ⊢
      obtain ⟨i, hi, ⟨_, a, b⟩, c⟩ := hk
      exact ⟨⟨i, hi, a, c⟩, ⟨i, hi, b, c⟩⟩)
    have m2 := card_mod n s t
    have m3 := card_mod n (int s u) (int t v)
    have d1 := card_dif n s u
    have d2 := card_dif n t v
    have d3 := card_dif n (uni s t) (uni (int s u) (int t v))
    have d4 := card_dif n (int s t) (int (int s u) (int t v))
    have b1 : card n (int (uni s t) (uni (int s u) (int t v))) = card n (uni (int s u) (int t v)) := card_congr (fun i _ => by
      simp only [uni, int]; cases s i <;> cases t i <;> cases u i <;> cases v i <;> rfl)
    have b2 : card n (int (int s t) (int (int s u) (int t v))) = card n (int (int s u) (int t v)) := card_congr (fun i _ => by
      simp only [int]; cases s i <;> cases t i <;> cases u i <;> cases v i <;> rfl)
    omega
end Mat
end Gw
namespace Go.Proofs.YtmcloifhgbehdaaGreatDoor
open Go.RowKit Go.Proofs.YtmcloifhgbehdaaGreatDoorW.PrintWords Go.Proofs.YtmcloifhgbehdaaGreatDoorW.PrintLast Go.Proofs.YtmcloifhgbehdaaGreatDoorW.PrintMore Go.Proofs.YtmcloifhgbehdaaGreatDoor.PBasesSteps
set_option linter.unusedVariables false
set_option linter.unusedSimpArgs false
/-- what holds of the queue: it rises, by one at most. -/
structure Lev (adj : List (List Int)) (out q : List Int) (d : Int) : Prop where
  up : ∀ w : Nat, w < out.length → rd out (w : Int) ≤ d + 1
  lo : ∀ v : Nat, (v : Int) ∈ q → d ≤ rd out (v : Int)
  sorted : q.Pairwise fun a b => rd out a ≤ rd out b
  arcs : ∀ v : Nat, v < out.length → rd out (v : Int) ≠ -1 → (v : Int) ∈ q ∨ ∀ u : Nat, u < out.length → (u : Int) ∈ rd_L1 adj (v : Int) → rd out (u : Int) ≠ -1 ∧ rd out (u : Int) ≤ rd out (v : Int) + 1
theorem Lev.mark {adj : List (List Int)} {out q : List Int} {d : Int} (h : Lev adj out q d) (hd : 0 ≤ d) (hq : Arcs out.length q) {u : Nat} (hu : u < out.length) (hu0 : rd out (u : Int) = -1) :
    Lev adj (out.set u (d + 1)) (q ++ [(u : Int)]) d := by
  have hne : ∀ x, x ∈ q → x ≠ (u : Int) := by
    intro x hx e
    obtain ⟨h0, h1⟩ := hq x hx
    have := h.lo u (e ▸ hx)
    omega
  have hsame : ∀ x, x ∈ q → rd (out.set u (d + 1)) x = rd out x := by
    intro x hx
    obtain ⟨h0, h1⟩ := hq x hx
    obtain ⟨y, rfl⟩ := Int.eq_ofNat_of_zero_le h0
    rw [rd_set _ _ _ _ (by omega), if_neg (by have := hne _ hx; omega)]
  have hself : rd (out.set u (d + 1)) (u : Int) = d + 1 := by rw [rd_set _ _ _ _ hu, if_pos rfl]
  refine ⟨fun w hw => ?_, fun v hv => ?_, ?_, fun v hv h0 => ?_⟩
  · rw [List.length_set] at hw
    rw [rd_set _ _ _ _ hw]
    split
    · omega
    · exact h.up w hw
  · rcases List.mem_append.1 hv with hv | hv
    · rw [hsame _ hv]; exact h.lo v hv
    · rw [List.mem_singleton.1 hv, hself]; omega
  · rw [List.pairwise_append]
    refine ⟨List.Pairwise.imp_of_mem ?_ h.sorted, List.pairwise_singleton _ _, fun a ha b hb => ?_⟩
    · intro a b ha hb hab
      rw [hsame a ha, hsame b hb]
      exact hab
    · rw [List.mem_singleton.1 hb, hself, hsame a ha]
      obtain ⟨h0, h1⟩ := hq a ha
      obtain ⟨y, rfl⟩ := Int.eq_ofNat_of_zero_le h0
      exact h.up y (by omega)
  · rw [List.length_set] at hv
    rw [rd_set _ _ _ _ hv] at h0 ⊢
    by_cases e : u = v
    · subst e
      exact .inl (List.mem_append_right _ (List.mem_singleton_self _))
    · rw [if_neg e] at h0 ⊢
      rcases h.arcs v hv h0 with h1 | h1
      · exact .inl (List.mem_append_left _ h1)
      · refine .inr fun y hy hy2 => ?_
        rw [List.length_set] at hy
        rw [rd_set _ _ _ _ hy]
        have h2 := h1 y hy hy2
        by_cases e2 : u = y
        · subst e2
          exact absurd hu0 h2.1
        · rw [if_neg e2]
          exact h2
theorem Lev.visit {adj : List (List Int)} {v : Nat} : ∀ (us out q : List Int), Lev adj out ((v : Int) :: q) (rd out (v : Int)) → 0 ≤ rd out (v : Int) → v < out.length → Arcs out.length q → Arcs out.length us →
    Lev adj (Proofs.YtmcloifhgbehdaaGreatDoor.visit v us (out, q)).1 ((v : Int) :: (Proofs.YtmcloifhgbehdaaGreatDoor.visit v us (out, q)).2) (rd out (v : Int)) ∧ Arcs out.length (Proofs.YtmcloifhgbehdaaGreatDoor.visit v us (out, q)).2 := by
  intro us
  induction us with
  | nil => intro out q h _ _ hq _; exact ⟨h, hq⟩
  | cons x us ih =>
    intro out q h h0 hv hq ha
    obtain ⟨x0, x1⟩ := ha x List.mem_cons_self
    obtain ⟨u, rfl⟩ := Int.eq_ofNat_of_zero_le x0
    have hu : u < out.length := by omega
    rw [Proofs.YtmcloifhgbehdaaGreatDoor.visit]
    by_cases hb : rd out (u : Int) = -1
    · simp only [if_pos hb, Int.toNat_natCast]
      have hne : u ≠ v := by rintro rfl; omega
      have hl : (out.set u (rd out (v : Int) + 1)).length = out.length := List.length_set ..
      have hvv : rd (out.set u (rd out (v : Int) + 1)) (v : Int) = rd out (v : Int) := by rw [rd_set _ _ _ _ hv, if_neg hne]
      have hq2 : Arcs out.length (q ++ [(u : Int)]) := by
        intro y hy
        rcases List.mem_append.1 hy with hy | hy
        · exact hq y hy
        · rw [List.mem_singleton.1 hy]; omega
      have hm := h.mark h0 (by
        intro y hy
        rcases List.mem_cons.1 hy with rfl | hy
        · omega
        · exact hq y hy) hu hb
      have := ih (out.set u (rd out (v : Int) + 1)) (q ++ [(u : Int)]) (by rw [hvv]; exact hm) (by rw [hvv]; exact h0) (by rw [hl]; exact hv) (by rw [hl]; exact hq2) (by rw [hl]; exact fun y hy => ha y (List.mem_cons_of_mem _ hy))
      rw [hvv, hl] at this
      exact this
    · simp only [if_neg hb]
      exact ih out q h h0 hv hq (fun y hy => ha y (List.mem_cons_of_mem _ hy))
theorem Lev.pop {adj : List (List Int)} {out q : List Int} {v : Nat} (h : Lev adj out ((v : Int) :: q) (rd out (v : Int))) (hd : ∀ u : Nat, (u : Int) ∈ rd_L1 adj (v : Int) → rd out (u : Int) ≠ -1) : Lev adj out q (rd out (v : Int)) := by
  refine ⟨h.up, fun x hx => h.lo x (List.mem_cons_of_mem _ hx), (List.pairwise_cons.1 h.sorted).2, fun i hi h0 => ?_⟩
  rcases h.arcs i hi h0 with h1 | h1
  · rcases List.mem_cons.1 h1 with h1 | h1
    · have : i = v := by omega
      subst this
      exact .inr fun y hy1 hy => ⟨hd y hy, h.up y hy1⟩
    · exact .inl h1
  · exact .inr h1
theorem Lev.next {adj : List (List Int)} {out q : List Int} {v : Nat} {d : Int} (h : Lev adj out ((v : Int) :: q) d) : Lev adj out ((v : Int) :: q) (rd out (v : Int)) := by
  have hl := h.lo v List.mem_cons_self
  refine ⟨fun w hw => by have := h.up w hw; omega, fun x hx => ?_, h.sorted, h.arcs⟩
  rcases List.mem_cons.1 hx with hx | hx
  · rw [hx]; exact Int.le_refl _
  · exact (List.pairwise_cons.1 h.sorted).1 _ hx
theorem farL_lev {adj : List (List Int)} {src : List Int} {n : Nat} (ha : ∀ i : Nat, Arcs n (rd_L1 adj i)) : ∀ (f : Nat) (out q : List Int) (d : Int), out.length = n → Arcs n q → Bfs adj src out q → Lev adj out q d → 0 ≤ d → q.length + blank out < f →
    ∃ d', Lev adj (farL adj f (out, q)) [] d' := by
  intro f
  induction f with
  | zero => intro out q d _ _ _ _ _ h; omega
  | succ f ih =>
    intro out q d hl hq h hL hd hf
    cases q with
    | nil => exact ⟨d, hL⟩
    | cons x q =>
      obtain ⟨h0, h1⟩ := hq x List.mem_cons_self
      obtain ⟨v, rfl⟩ := Int.eq_ofNat_of_zero_le h0
      have hv : v < out.length := by omega
      have hq' : Arcs n q := fun z hz => hq z (List.mem_cons_of_mem _ hz)
      have hlv := hL.lo v List.mem_cons_self
      obtain ⟨g1, g2, g3, g4⟩ := Bfs.visit (rd_L1 adj (v : Int)) out q h hv (by rw [hl]; exact ha v) (fun _ hu => hu)
      have hc := Bfs.count (rd_L1 adj (v : Int)) out q h hv (by rw [hl]; exact ha v) (fun _ hu => hu)
      obtain ⟨l1, l2⟩ := Lev.visit (rd_L1 adj (v : Int)) out q hL.next (by omega) hv (by rw [hl]; exact hq') (by rw [hl]; exact ha v)
      have hvv := g4 v hv (by omega)
      rw [← hvv] at l1
      exact ih (Proofs.YtmcloifhgbehdaaGreatDoor.visit (v : Int) (rd_L1 adj (v : Int)) (out, q)).1 (Proofs.YtmcloifhgbehdaaGreatDoor.visit (v : Int) (rd_L1 adj (v : Int)) (out, q)).2 _ (g2.trans hl) (by rw [← hl]; exact l2) (g1.pop g3) (l1.pop g3) (by rw [hvv]; omega) (by rw [hc]; simp only [List.length_cons] at hf; omega)
theorem lev_start {adj : List (List Int)} {src : List Int} {n : Nat} (hs : Arcs n src) : Lev adj (zeroL src (List.replicate n (-1))) src 0 := by
  have hl : (zeroL src (List.replicate n (-1))).length = n := by rw [zeroL_length, List.length_replicate]
  have hr : ∀ i : Nat, i < n → rd (zeroL src (List.replicate n (-1))) (i : Int) = if (i : Int) ∈ src then 0 else -1 := by
    intro i hi
    rw [zeroL_rd src _ (by rw [List.length_replicate]; exact hs) i (by rw [List.length_replicate]; exact hi)]
    have : rd (List.replicate n (-1)) (i : Int) = -1 := by simp [rd, hi]
    rw [this]
  have hz : ∀ x, x ∈ src → rd (zeroL src (List.replicate n (-1))) x = 0 := by
    intro x hx
    obtain ⟨h0, h1⟩ := hs x hx
    obtain ⟨y, rfl⟩ := Int.eq_ofNat_of_zero_le h0
    rw [hr y (by omega), if_pos hx]
  refine ⟨fun w hw => ?_, fun v hv => by rw [hz _ hv]; exact Int.le_refl _, ?_, fun v hv h0 => ?_⟩
  · rw [hr w (by omega)]
    split <;> omega
  · exact List.Pairwise.imp_of_mem (R := fun _ _ => True) (fun ha hb _ => by rw [hz _ ha, hz _ hb]; exact Int.le_refl _) (List.pairwise_of_forall fun _ _ => trivial)
  · rw [hr v (by omega)] at h0
    by_cases h : (v : Int) ∈ src
    · exact .inl h
    · rw [if_neg h] at h0
      exact absurd rfl h0
theorem farF_lev {adj : List (List Int)} {src : List Int} (ha : ∀ i : Nat, Arcs adj.length (rd_L1 adj i)) (hs : Arcs adj.length src) (v u : Nat) (hv : v < adj.length) (h0 : rd (farF adj src) (v : Int) ≠ -1) (hu : (u : Int) ∈ rd_L1 adj (v : Int)) :
    rd (farF adj src) (u : Int) ≠ -1 ∧ rd (farF adj src) (u : Int) ≤ rd (farF adj src) (v : Int) + 1 := by
  have hl : (zeroL src (List.replicate adj.length (-1))).length = adj.length := by rw [zeroL_length, List.length_replicate]
  have hb : blank (zeroL src (List.replicate adj.length (-1))) ≤ adj.length := Nat.le_trans List.count_le_length (Nat.le_of_eq hl)
  obtain ⟨d', hd⟩ := farL_lev (src := src) ha (2 * adj.length + src.length + 1) _ _ 0 hl hs (bfs_start hs) (lev_start hs) (by omega) (by omega)
  have hlen := (farF_bfs ha hs).2
  rcases hd.arcs v (by rw [show farL adj (2 * adj.length + src.length + 1) (zeroL src (List.replicate adj.length (-1)), src) = farF adj src from rfl, hlen]; exact hv) h0 with h1 | h1
  · cases h1
  · have := ha v _ hu
    exact h1 u (by rw [show farL adj (2 * adj.length + src.length + 1) (zeroL src (List.replicate adj.length (-1)), src) = farF adj src from rfl, hlen]; omega) hu
/-- distances to goals, as reach.Path asks them. -/
structure Near (adj : List (List Int)) (tgt D : List Int) : Prop where
  len : D.length = adj.length
  goal : ∀ u : Nat, u < adj.length → (rd D (u : Int) = 0 ↔ (u : Int) ∈ tgt)
  least : ∀ u : Nat, u < adj.length → -1 ≤ rd D (u : Int)
  step : ∀ v : Nat, v < adj.length → 0 < rd D (v : Int) → ∃ u, u ∈ rd_L1 adj (v : Int) ∧ rd D u = rd D (v : Int) - 1
  arc : ∀ v u : Nat, v < adj.length → u < adj.length → (u : Int) ∈ rd_L1 adj (v : Int) → rd D (u : Int) ≠ -1 → rd D (v : Int) ≠ -1 ∧ rd D (v : Int) ≤ rd D (u : Int) + 1
theorem near_of {adj : List (List Int)} {tgt : List Int} (hM : MayG adj) (ht : setN tgt adj.length = true) : Near adj tgt (farF (turnF adj) tgt) := by
  have hl := turnF_length adj
  have hA := turnF_arcs adj hM
  have hT : Arcs (turnF adj).length tgt := by rw [hl]; exact arcs_setN ht
  obtain ⟨hB, hL⟩ := farF_bfs hA hT
  refine ⟨hL.trans hl, fun u hu => hB.zero u (by omega), fun u hu => hB.least u (by omega), path_step hM ht, fun v u hv hu hm h0 => ?_⟩
  exact farF_lev hA hT u v (by omega) h0 ((turnF_mem adj hM u (v : Int)).2 ⟨v, hv, rfl, hm⟩)
/-- a shortest way, by v 0 .. v m. -/
structure Shortest (adj : List (List Int)) (src tgt D L : List Int) (v : Nat → Nat) (m : Nat) : Prop where
  list : L = (List.range (m + 1)).map fun i => (v i : Int)
  lt : ∀ i, i ≤ m → v i < adj.length
  arc : ∀ i, i < m → (v (i + 1) : Int) ∈ rd_L1 adj (v i : Int)
  fst : (v 0 : Int) ∈ src
  lst : (v m : Int) ∈ tgt
  far : ∀ i, i ≤ m → rd D (v i : Int) = (m : Int) - i
  best : ∀ s, s ∈ src → rd D s = -1 ∨ (m : Int) ≤ rd D s
theorem walkL_way {adj : List (List Int)} {tgt D : List Int} (hM : MayG adj) (hN : Near adj tgt D) : ∀ (m f v : Nat), v < adj.length → rd D (v : Int) = m → m < f →
    ∃ w : Nat → Nat, w 0 = v ∧ (v : Int) :: walkL D adj f (v : Int) = (List.range (m + 1)).map (fun i => (w i : Int)) ∧ (∀ i, i ≤ m → w i < adj.length) ∧ (∀ i, i < m → (w (i + 1) : Int) ∈ rd_L1 adj (w i : Int)) ∧ ∀ i, i ≤ m → rd D (w i : Int) = (m : Int) - i := by
  intro m
  induction m with
  | zero =>
    intro f v hv hd hf
    obtain ⟨f, rfl⟩ : ∃ f', f = f' + 1 := ⟨f - 1, by omega⟩
    refine ⟨fun _ => v, rfl, ?_, fun _ _ => hv, fun i hi => by omega, fun i hi => by show rd D (v : Int) = _; omega⟩
    rw [walkL, if_neg (by omega)]
    rfl
  | succ m ih =>
    intro f v hv hd hf
    obtain ⟨f, rfl⟩ : ∃ f', f = f' + 1 := ⟨f - 1, by omega⟩
    obtain ⟨j, hj, hnx, hnd⟩ := next_ok D (rd_L1 adj (v : Int)) (v : Int) (hN.step v hv (by omega))
    have hmem : rd (rd_L1 adj (v : Int)) (j : Int) ∈ rd_L1 adj (v : Int) := by rw [rd_nat _ _ hj]; exact List.getElem_mem _
    obtain ⟨x0, x1⟩ := hM.arcs v _ hmem
    rw [walkL, if_pos (by omega), hnx]
    obtain ⟨u, hu⟩ := Int.eq_ofNat_of_zero_le x0
    rw [hu] at hmem x0 x1 hnd ⊢
    obtain ⟨w, w0, h1, h2, h3, h4⟩ := ih f u (by omega) (by omega) (by omega)
    refine ⟨fun i => if i = 0 then v else w (i - 1), rfl, ?_, fun i hi => ?_, fun i hi => ?_, fun i hi => ?_⟩
    · rw [List.range_succ_eq_map, List.map_cons, List.map_map]
      simp only [if_pos]
      rw [h1]
      congr 1
    · by_cases e : i = 0
      · simp only [e, if_pos]; exact hv
      · simp only [if_neg e]; exact h2 _ (by omega)
    · by_cases e : i = 0
      · simp only [e, if_pos, Nat.zero_add, Nat.one_ne_zero, if_false, Nat.sub_self, w0]; exact hmem
      · simp only [if_neg e, Nat.succ_ne_zero, if_false]
        have := h3 (i - 1) (by omega)
        rw [show i - 1 + 1 = i from by omega] at this
        exact this
    · by_cases e : i = 0
      · simp only [e, if_pos]; omega
      · simp only [if_neg e]
        have := h4 (i - 1) (by omega)
        omega
theorem bestL_spec (D : List Int) : ∀ (src : List Int) (b : Int), (∀ s, s ∈ src → 0 ≤ s ∧ -1 ≤ rd D s) → (b = -1 ∨ 0 ≤ b ∧ 0 ≤ rd D b) →
    (bestL D src b = -1 ∧ b = -1 ∧ ∀ s, s ∈ src → rd D s = -1) ∨ (0 ≤ bestL D src b ∧ 0 ≤ rd D (bestL D src b) ∧ (bestL D src b = b ∨ bestL D src b ∈ src) ∧ (b = -1 ∨ rd D (bestL D src b) ≤ rd D b) ∧ ∀ s, s ∈ src → rd D s = -1 ∨ rd D (bestL D src b) ≤ rd D s) := by
  intro src
  induction src with
  | nil =>
    intro b _ hb
    rw [bestL]
    rcases hb with hb | hb
    · exact .inl ⟨hb, hb, fun s hs => by cases hs⟩
    · exact .inr ⟨hb.1, hb.2, .inl rfl, .inr (Int.le_refl _), fun s hs => by cases hs⟩
  | cons v vs ih =>
    intro b hs hb
    obtain ⟨v0, v1⟩ := hs v List.mem_cons_self
    have hs' : ∀ s, s ∈ vs → 0 ≤ s ∧ -1 ≤ rd D s := fun s h => hs s (List.mem_cons_of_mem _ h)
    rw [bestL]
    by_cases hc : rd D v ≠ -1 ∧ (b = -1 ∨ rd D v < rd D b)
    · rw [if_pos hc]
      rcases ih v hs' (.inr ⟨v0, by omega⟩) with ⟨_, h2, _⟩ | ⟨h1, h2, h3, h4, h5⟩
      · omega
      · have h4' : rd D (bestL D vs v) ≤ rd D v := h4.resolve_left (by omega)
        refine .inr ⟨h1, h2, .inr ?_, ?_, fun s h => ?_⟩
        · rcases h3 with h3 | h3
          · rw [h3]; exact List.mem_cons_self
          · exact List.mem_cons_of_mem _ h3
        · rcases hc.2 with h6 | h6
          · exact .inl h6
          · exact .inr (by omega)
        · rcases List.mem_cons.1 h with rfl | h
          · exact .inr h4'
          · exact h5 s h
    · rw [if_neg hc]
      rcases ih b hs' hb with ⟨h1, h2, h3⟩ | ⟨h1, h2, h3, h4, h5⟩
      · refine .inl ⟨h1, h2, fun s h => ?_⟩
        rcases List.mem_cons.1 h with rfl | h
        · exact Classical.byContradiction fun h6 => hc ⟨h6, .inl h2⟩
        · exact h3 s h
      · refine .inr ⟨h1, h2, ?_, h4, fun s h => ?_⟩
        · rcases h3 with h3 | h3
          · exact .inl h3
          · exact .inr (List.mem_cons_of_mem _ h3)
        · rcases List.mem_cons.1 h with rfl | h
          · by_cases h6 : rd D s = -1
            · exact .inl h6
            · refine .inr ?_
              have h7 : ¬ (b = -1 ∨ rd D s < rd D b) := fun h => hc ⟨h6, h⟩
              rcases h4 with h4 | h4
              · exact absurd (.inl h4) h7
              · have : ¬ rd D s < rd D b := fun h => h7 (.inr h)
                omega
          · exact h5 s h
theorem pigeon {n m : Nat} {w : Nat → Nat} (h : ∀ i, i < m → w i < n) (inj : ∀ i j, i < m → j < m → w i = w j → i = j) : m ≤ n := by
  have h1 := Gw.Mat.card_img h inj Gw.full
  rw [Gw.card_full] at h1
  have := Gw.card_le n (Gw.Mat.img m w Gw.full)
  omega
theorem Near.below {adj : List (List Int)} {tgt D : List Int} (hM : MayG adj) (hN : Near adj tgt D) {v m : Nat} (hv : v < adj.length) (hd : rd D (v : Int) = m) : m < adj.length := by
  obtain ⟨w, _, _, h2, _, h4⟩ := walkL_way hM hN m (m + 1) v hv hd (by omega)
  have := pigeon (n := adj.length) (m := m + 1) (w := w) (fun i hi => h2 i (by omega)) (fun i j hi hj e => by
    have a := h4 i (by omega)
    have b := h4 j (by omega)
    rw [e] at a
    omega)
  omega
/-- a way is told: a shortest one. -/
theorem path_shortest {adj : List (List Int)} {src tgt D : List Int} (hM : MayG adj) (hN : Near adj tgt D) (hs : setN src adj.length = true) (hb : bestL D src (-1) ≠ -1) :
    ∃ v m, Shortest adj src tgt D (bestL D src (-1) :: walkL D adj (adj.length + 2) (bestL D src (-1))) v m := by
  have hsa := arcs_setN hs
  have hlo : ∀ s, s ∈ src → 0 ≤ s ∧ -1 ≤ rd D s := by
    intro s h
    obtain ⟨h0, h1⟩ := hsa s h
    obtain ⟨y, rfl⟩ := Int.eq_ofNat_of_zero_le h0
    exact ⟨h0, hN.least y (by omega)⟩
  rcases bestL_spec D src (-1) hlo (.inl rfl) with ⟨h1, _⟩ | ⟨h1, h2, h3, _, h5⟩
  · exact absurd h1 hb
  · have hmem := h3.resolve_left hb
    obtain ⟨_, h6⟩ := hsa _ hmem
    generalize bestL D src (-1) = b at *
    obtain ⟨y, rfl⟩ := Int.eq_ofNat_of_zero_le h1
    obtain ⟨m, hm⟩ := Int.eq_ofNat_of_zero_le h2
    have hlt := hN.below hM (v := y) (by omega) hm
    obtain ⟨w, w0, e1, e2, e3, e4⟩ := walkL_way hM hN m (adj.length + 2) y (by omega) hm (by omega)
    refine ⟨w, m, e1, e2, e3, by rw [w0]; exact hmem, ?_, e4, fun s h => by have := h5 s h; omega⟩
    exact (hN.goal (w m) (e2 m (Nat.le_refl _))).1 (by rw [e4 m (Nat.le_refl _)]; omega)
/-- none is told: what one comes to is closed, holds all sources, and no goal. -/
theorem path_none {adj : List (List Int)} {src tgt D : List Int} (hM : MayG adj) (hN : Near adj tgt D) (hs : setN src adj.length = true) (hb : bestL D src (-1) = -1) :
    (∀ x, x ∈ src → x ∈ fromF adj src) ∧ (∀ x, x ∈ fromF adj src → 0 ≤ x ∧ x < adj.length ∧ x ∉ tgt ∧ ∀ y, y ∈ rd_L1 adj x → y ∈ fromF adj src) := by
  have hsa := arcs_setN hs
  have ha := hM.arcs
  obtain ⟨hB, hL⟩ := farF_bfs ha hsa
  have hlo : ∀ s, s ∈ src → 0 ≤ s ∧ -1 ≤ rd D s := by
    intro s h
    obtain ⟨h0, h1⟩ := hsa s h
    obtain ⟨y, rfl⟩ := Int.eq_ofNat_of_zero_le h0
    exact ⟨h0, hN.least y (by omega)⟩
  have hmem : ∀ u : Nat, (u : Int) ∈ fromF adj src ↔ u < adj.length ∧ rd (farF adj src) (u : Int) ≠ -1 := by
    intro u
    unfold fromF reachedL
    simp only [List.mem_map, List.mem_filter, List.mem_range, bne_iff_ne, ne_eq]
    constructor
    · rintro ⟨i, ⟨h1, h2⟩, h3⟩
      have : i = u := by omega
      subst this
      exact ⟨h1, h2⟩
    · rintro ⟨h1, h2⟩
      exact ⟨u, ⟨h1, h2⟩, rfl⟩
  have hnone : ∀ s, s ∈ src → rd D s = -1 := by
    rcases bestL_spec D src (-1) hlo (.inl rfl) with ⟨_, _, h⟩ | ⟨h1, _⟩
    · exact h
    · omega
  have hD : ∀ (k : Nat) (u : Nat), u < adj.length → rd (farF adj src) (u : Int) = k → rd D (u : Int) = -1 := by
    intro k
    induction k with
    | zero =>
      intro u hu h0
      exact hnone _ ((hB.zero u (by omega)).1 h0)
    | succ k ih =>
      intro u hu h0
      obtain ⟨v, hv, h1, h2⟩ := hB.near u (by omega) (by omega)
      have h3 := ih v (by omega) (by omega)
      exact Classical.byContradiction fun h4 => (hN.arc v u (by omega) hu h1 h4).1 h3
  refine ⟨fun x hx => ?_, fun x hx => ?_⟩
  · obtain ⟨h0, h1⟩ := hsa x hx
    obtain ⟨y, rfl⟩ := Int.eq_ofNat_of_zero_le h0
    exact (hmem y).2 ⟨by omega, by have := (hB.zero y (by omega)).2 hx; omega⟩
  · have hx0 : 0 ≤ x := by
      unfold fromF reachedL at hx
      simp only [List.mem_map] at hx
      obtain ⟨i, _, rfl⟩ := hx
      omega
    obtain ⟨y, rfl⟩ := Int.eq_ofNat_of_zero_le hx0
    obtain ⟨h1, h2⟩ := (hmem y).1 hx
    refine ⟨hx0, by omega, fun ht => ?_, fun z hz => ?_⟩
    · have h3 := (hN.goal y h1).2 ht
      have hl := hB.least y (by omega)
      obtain ⟨k, hk⟩ := Int.eq_ofNat_of_zero_le (show 0 ≤ rd (farF adj src) (y : Int) by omega)
      have := hD k y h1 hk
      omega
    · obtain ⟨z0, z1⟩ := ha y z hz
      obtain ⟨u, rfl⟩ := Int.eq_ofNat_of_zero_le z0
      exact (hmem u).2 ⟨by omega, (farF_lev ha hsa y u h1 h2 hz).1⟩
end Go.Proofs.YtmcloifhgbehdaaGreatDoor
