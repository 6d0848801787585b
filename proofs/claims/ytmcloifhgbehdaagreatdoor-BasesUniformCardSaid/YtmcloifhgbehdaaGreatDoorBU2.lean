/- Merged by merge.py out of this session's own texts: part 2. -/
import Derived.Test.YtmcloifhgbehdaaGreatDoorBU1
import Derived.Test.YtmcloifhgbehdaaGreatDoorShelf
import Derived.Sort.OwnSortedInts
import Derived.Deep.DeepCutAuto
import Derived.StillTailTactics
import Derived.Test.YtmcloifhgbehdaaGreatDoorRows
import Derived.Test.YtmcloifhgbehdaaGreatDoorTie
import Derived.Test.YtmcloifhgbehdaaGreatDoorCards
import Derived.ChangeSame
import Derived.ChangeVars
import Derived.JoinedOf
import Derived.RowKit
import Derived.RowKitTokens
import Derived.LaidLaws
import Derived.LaidHandle
import Derived.Stop.Joined
import Derived.ProofKit
import Derived.OpenShut
import Derived.SevenTiedAt
namespace Gw
namespace Mat
variable {n : Nat}
def cls (of : Nat → Int) (j : Nat) : St := fun x => of x == (j : Int)
def got (of : Nat → Int) : St := fun x => decide (0 ≤ of x)
structure Good (k : Nat) (M : Nat → Mat n) (of : Nat → Int) : Prop where
  lo : ∀ x, x < n → -1 ≤ of x ∧ of x < k
  ind : ∀ j, j < k → (M j).indep (cls of j)
/-- an arc from x to y, that is in class c: x may stand for y. -/
def Arc (M : Nat → Mat n) (of : Nat → Int) (x y : Nat) : Prop := of x ≠ of y ∧ 0 ≤ of y ∧ ¬ (M (of y).toNat).cl (del (cls of (of y).toNat) y) x
/-- an arc from x to class e. -/
def End (M : Nat → Mat n) (of : Nat → Int) (x e : Nat) : Prop := of x ≠ (e : Int) ∧ ¬ (M e).cl (cls of e) x
/-- a shortest way from one without a class, by v 0 .. v m, to class e. -/
structure Way (k : Nat) (M : Nat → Mat n) (of : Nat → Int) (v : Nat → Nat) (m e : Nat) : Prop where
  lt : ∀ i, i ≤ m → v i < n
  head : of (v 0) = -1
  arc : ∀ i, i < m → Arc M of (v i) (v (i + 1))
  last : End M of (v m) e
  le : e < k
  far : ∀ i l, i + 1 < l → l ≤ m → ¬ Arc M of (v i) (v l)
  near : ∀ i j, i < m → j < k → ¬ End M of (v i) j
  inj : ∀ i l, i ≤ m → l ≤ m → v i = v l → i = l
/-- what becomes of the classes. -/
structure Turned (of new : Nat → Int) (v : Nat → Nat) (m e : Nat) : Prop where
  off : ∀ z, (∀ i, i ≤ m → z ≠ v i) → new z = of z
  on : ∀ i, i < m → new (v i) = of (v (i + 1))
  last : new (v m) = e
def prs (of : Nat → Int) (v : Nat → Nat) (m j : Nat) : List (Nat × Nat) := ((List.range m).reverse.filter fun i => of (v (i + 1)) == (j : Int)).map fun i => (v i, v (i + 1))
theorem mem_prs {of : Nat → Int} {v : Nat → Nat} {m j : Nat} {p : Nat × Nat} : p ∈ prs of v m j ↔ ∃ i, i < m ∧ of (v (i + 1)) = j ∧ p = (v i, v (i + 1)) := by
  unfold prs
  simp only [List.mem_map, List.mem_filter, List.mem_reverse, List.mem_range, beq_iff_eq]
  constructor
  · rintro ⟨i, ⟨h1, h2⟩, rfl⟩; exact ⟨i, h1, h2, rfl⟩
  · rintro ⟨i, h1, h2, rfl⟩; exact ⟨i, ⟨h1, h2⟩, rfl⟩
theorem Way.toExch {k : Nat} {M : Nat → Mat n} {of : Nat → Int} {v : Nat → Nat} {m e : Nat} (hG : Good k M of) (h : Way k M of v m e) (j : Nat) (hj : j < k) : (M j).Exch (cls of j) (prs of v m j) := by
  refine ⟨hG.ind j hj, ?_, ?_, ?_, ?_⟩
  · intro p hp
    obtain ⟨i, hi, _, rfl⟩ := mem_prs.1 hp
    exact ⟨h.lt i (by omega), h.lt (i + 1) (by omega)⟩
  · intro p hp
    obtain ⟨i, hi, hc, rfl⟩ := mem_prs.1 hp
    have ha := (h.arc i hi).1
    simp only [cls, beq_iff_eq, beq_eq_false_iff_ne]
    exact ⟨hc, by omega⟩
  · intro p hp
    obtain ⟨i, hi, hc, rfl⟩ := mem_prs.1 hp
    have ha := (h.arc i hi).2.2
    rw [hc, Int.toNat_natCast] at ha
    exact ha
  · unfold prs
    rw [List.pairwise_map]
    have h0 : (List.range m).reverse.Pairwise fun a b => b < a := by rw [List.pairwise_reverse]; exact List.pairwise_lt_range
    have h1 : (List.range m).reverse.Pairwise fun a b => a < m ∧ b < m ∧ b < a := by
      refine List.Pairwise.imp_of_mem ?_ h0
      intro a b ha hb hlt
      simp at ha hb
      exact ⟨ha, hb, hlt⟩
    refine List.Pairwise.imp_of_mem ?_ (h1.filter (fun i => of (v (i + 1)) == (j : Int)))
    intro a b ha hb hlt
    simp only [List.mem_filter, beq_iff_eq] at ha hb
    have hf := h.far b (a + 1) (by omega) (by omega)
    have hb2 := (h.arc b hlt.2.1).1
    unfold Arc at hf
    rw [ha.2, Int.toNat_natCast] at hf
    rw [hb.2] at hb2
    exact Classical.byContradiction fun hn => hf ⟨by omega, by omega, hn⟩
theorem Way.good {k : Nat} {M : Nat → Mat n} {of new : Nat → Int} {v : Nat → Nat} {m e : Nat} (hG : Good k M of) (h : Way k M of v m e) (ht : Turned of new v m e) : Good k M new := by
  have hcase : ∀ z, (∀ i, i ≤ m → z ≠ v i) ∨ ∃ i, i ≤ m ∧ z = v i := by
    intro z
    by_cases hz : ∃ i, i ≤ m ∧ z = v i
    · exact .inr hz
    · exact .inl fun i hi e => hz ⟨i, hi, e⟩
  have hle := h.le
  refine ⟨fun x hx => ?_, fun j hj => ?_⟩
  · rcases hcase x with hz | ⟨i, hi, rfl⟩
    · rw [ht.off x hz]; exact hG.lo x hx
    · by_cases e1 : i = m
      · subst e1; rw [ht.last]; omega
      · rw [ht.on i (by omega)]; exact hG.lo _ (h.lt (i + 1) (by omega))
  · have hE := h.toExch hG j hj
    have hout : ∀ p ∈ prs of v m j, cls of j p.2 = true ∧ cls of j p.1 = false := hE.out
    have hpt : ∀ z, z ≠ v m → (exch (cls of j) (prs of v m j) z = true ↔ new z = j) := by
      intro z hzm
      rw [exch_at _ hout]
      simp only [List.mem_map, Prod.exists, exists_and_right, exists_eq_right, cls, beq_iff_eq]
      rcases hcase z with hz | ⟨i, hi, rfl⟩
      · rw [ht.off z hz]
        constructor
        · rintro (⟨y, hy⟩ | ⟨h1, _⟩)
          · obtain ⟨i, hi, _, e1⟩ := mem_prs.1 hy
            injection e1 with e1 _
            exact absurd e1 (hz i (by omega))
          · exact h1
        · intro h1
          refine .inr ⟨h1, ?_⟩
          rintro ⟨y, hy⟩
          obtain ⟨i, hi, _, e1⟩ := mem_prs.1 hy
          injection e1 with _ e1
          exact absurd e1 (hz (i + 1) (by omega))
      · have him : i < m := by
          rcases Nat.lt_or_ge i m with h1 | h1
          · exact h1
          · exact absurd (show v i = v m by rw [show i = m by omega]) hzm
        rw [ht.on i him]
        constructor
        · rintro (⟨y, hy⟩ | ⟨h1, h2⟩)
          · obtain ⟨i2, hi2, hc, e1⟩ := mem_prs.1 hy
            injection e1 with e1 _
            have := h.inj i i2 (by omega) (by omega) e1
            subst this
            exact hc
          · exfalso
            have hne : i ≠ 0 := by
              intro e0
              subst e0
              rw [h.head] at h1
              omega
            obtain ⟨i', rfl⟩ : ∃ i', i = i' + 1 := ⟨i - 1, by omega⟩
            exact h2 ⟨v i', mem_prs.2 ⟨i', by omega, h1, rfl⟩⟩
        · intro h1
          exact .inl ⟨v (i + 1), mem_prs.2 ⟨i, him, h1, rfl⟩⟩
    have hlast : exch (cls of j) (prs of v m j) (v m) = false := by
      rw [Bool.eq_false_iff]
      intro hc
      rw [exch_at _ hout] at hc
      simp only [List.mem_map, Prod.exists, exists_and_right, exists_eq_right, cls, beq_iff_eq] at hc
      rcases hc with ⟨y, hy⟩ | ⟨h1, h2⟩
      · obtain ⟨i2, hi2, hc, e1⟩ := mem_prs.1 hy
        injection e1 with e1 _
        have := h.inj m i2 (by omega) (by omega) e1
        omega
      · have hne : m ≠ 0 := by
          intro e0
          rw [e0, h.head] at h1
          omega
        obtain ⟨i', hm⟩ : ∃ i', m = i' + 1 := ⟨m - 1, by omega⟩
        exact h2 ⟨v i', mem_prs.2 ⟨i', by omega, by rw [← hm]; exact h1, by rw [hm]⟩⟩
    by_cases hje : j = e
    · subst hje
      have hmore := hE.more (fun p hp => by
        obtain ⟨i, hi, hc, rfl⟩ := mem_prs.1 hp
        have hn := h.near i j hi hj
        have ha := (h.arc i hi).1
        exact Classical.byContradiction fun hn2 => hn ⟨by omega, hn2⟩) (h.lt m (Nat.le_refl _)) h.last.2
      refine ((M j).indep_ext (fun z hz => ?_)).1 hmore.1
      by_cases hzm : z = v m
      · subst hzm
        simp [add, cls, ht.last]
      · have h1 := hpt z hzm
        rw [Bool.eq_iff_iff]
        simp only [add, Bool.or_eq_true, beq_iff_eq, cls]
        rw [h1]
        simp [hzm]
    · refine ((M j).indep_ext (fun z hz => ?_)).1 hE.main.1
      by_cases hzm : z = v m
      · subst hzm
        rw [hlast]
        simp only [cls, ht.last]
        symm
        simp only [beq_eq_false_iff_ne]
        omega
      · have h1 := hpt z hzm
        rw [Bool.eq_iff_iff]
        simp only [cls, beq_iff_eq]
        exact h1
theorem Way.count {k : Nat} {M : Nat → Mat n} {of new : Nat → Int} {v : Nat → Nat} {m e : Nat} (h : Way k M of v m e) (ht : Turned of new v m e) : card n (got new) = card n (got of) + 1 := by
  have h0 : got of (v 0) = false := by simp [got, h.head]
  rw [← card_add (h.lt 0 (by omega)) h0]
  refine card_congr fun z hz => ?_
  rw [Bool.eq_iff_iff]
  simp only [got, add, Bool.or_eq_true, decide_eq_true_eq, beq_iff_eq]
  by_cases hc : ∃ i, i ≤ m ∧ z = v i
  · obtain ⟨i, hi, rfl⟩ := hc
    have hnew : 0 ≤ new (v i) := by
      by_cases e1 : i = m
      · subst e1; rw [ht.last]; omega
      · rw [ht.on i (by omega)]; exact (h.arc i (by omega)).2.1
    constructor
    · intro _
      by_cases e0 : i = 0
      · subst e0; exact .inr rfl
      · obtain ⟨i', rfl⟩ : ∃ i', i = i' + 1 := ⟨i - 1, by omega⟩
        exact .inl (h.arc i' (by omega)).2.1
    · intro _; exact hnew
  · have hz2 : ∀ i, i ≤ m → z ≠ v i := fun i hi e => hc ⟨i, hi, e⟩
    rw [ht.off z hz2]
    constructor
    · exact .inl
    · rintro (h1 | h1)
      · exact h1
      · exact absurd h1 (hz2 0 (by omega))
def sumK : Nat → (Nat → Nat) → Nat
  | 0, _ => 0
  | k + 1, f => sumK k f + f k
theorem sumK_congr {k : Nat} {f g : Nat → Nat} (h : ∀ j, j < k → f j = g j) : sumK k f = sumK k g := by
  induction k with
  | zero => rfl
  | succ k ih => simp only [sumK]; rw [ih fun j hj => h j (by omega), h k (by omega)]
theorem sumK_le {k : Nat} {f g : Nat → Nat} (h : ∀ j, j < k → f j ≤ g j) : sumK k f ≤ sumK k g := by
  induction k with
  | zero => exact Nat.le_refl _
  | succ k ih => simp only [sumK]; have := ih fun j hj => h j (by omega); have := h k (by omega); omega
theorem sumK_add (k : Nat) (f g : Nat → Nat) : sumK k (fun j => f j + g j) = sumK k f + sumK k g := by
  induction k with
  | zero => rfl
  | succ k ih => simp only [sumK]; omega
theorem sumK_const (k a : Nat) : sumK k (fun _ => a) = k * a := by
  induction k with
  | zero => simp [sumK]
  | succ k ih => simp only [sumK]; rw [ih, Nat.succ_mul]
theorem sumK_one (k : Nat) (c : Int) (hc : c < k) : sumK k (fun j => (c == (j : Int)).toNat) = (decide (0 ≤ c)).toNat := by
  induction k generalizing c with
  | zero =>
    simp only [sumK]
    rw [decide_eq_false (by omega)]; rfl
  | succ k ih =>
    simp only [sumK]
    by_cases e : c = (k : Int)
    · have : sumK k (fun j => (c == (j : Int)).toNat) = 0 := by
        rw [sumK_congr (g := fun _ => 0) fun j hj => by
          have : (c == (j : Int)) = false := by simp only [beq_eq_false_iff_ne]; omega
          rw [this]; rfl]
        rw [sumK_const]; rfl
      rw [this, e]
      simp
    · have : (c == (k : Int)) = false := by simpa using e
      rw [ih c (by omega), this]
      simp
/-- what has a class and lies in U, class by class. -/
theorem card_cls {k : Nat} {of : Nat → Int} (hlo : ∀ x, x < n → of x < k) (U : St) : card n (int (got of) U) = sumK k fun j => card n (int (cls of j) U) := by
  induction n with
  | zero =>
    simp only [card]
    rw [sumK_const]; rfl
  | succ n ih =>
    have hs : (sumK k fun j => card (n + 1) (int (cls of j) U)) = sumK k fun j => card n (int (cls of j) U) + (int (cls of j) U n).toNat := rfl
    rw [hs, sumK_add, ← ih fun x hx => hlo x (by omega)]
    simp only [card]
    congr 1
    simp only [int, got]
    cases hU : U n
    · simp only [Bool.and_false, Bool.toNat_false]
      rw [sumK_const]; rfl
    · simp only [Bool.and_true, cls]
      exact (sumK_one k (of n) (hlo n (by omega))).symm
/-- what shows that there are no more. -/
structure Shut (k : Nat) (M : Nat → Mat n) (of : Nat → Int) (U : St) : Prop where
  free : ∀ x, x < n → of x = -1 → U x = true
  ends : ∀ x, x < n → U x = true → ∀ j, j < k → ¬ End M of x j
  arcs : ∀ x y, x < n → y < n → U x = true → U y = false → ¬ Arc M of x y
theorem Shut.rank {k : Nat} {M : Nat → Mat n} {of : Nat → Int} {U : St} (hG : Good k M of) (h : Shut k M of U) (j : Nat) (hj : j < k) : (M j).r U = card n (int (cls of j) U) := by
  refine r_cert (hG.ind j hj) (fun x hx hU hI => ?_) (fun x y hx hy hU hI hIy hUy => ?_)
  · have := h.ends x hx hU j hj
    simp only [cls, beq_eq_false_iff_ne] at hI
    exact Classical.byContradiction fun hn => this ⟨hI, hn⟩
  · have := h.arcs x y hx hy hU hUy
    simp only [cls, beq_eq_false_iff_ne, beq_iff_eq] at hI hIy
    unfold Arc at this
    rw [hIy, Int.toNat_natCast] at this
    exact Classical.byContradiction fun hn => this ⟨hI, by omega, hn⟩
/-- how many have a class. -/
theorem Shut.many {k : Nat} {M : Nat → Mat n} {of : Nat → Int} {U : St} (hG : Good k M of) (h : Shut k M of U) : card n (got of) + card n U = n + sumK k fun j => (M j).r U := by
  rw [sumK_congr fun j hj => h.rank hG j hj, ← card_cls (fun x hx => (hG.lo x hx).2) U]
  have h1 := card_mod n (got of) U
  have h2 : card n (uni (got of) U) = n := by
    rw [card_congr (t := full), card_full]
    intro x hx
    simp only [uni, full, Bool.or_eq_true, got, decide_eq_true_eq]
    have := hG.lo x hx
    by_cases e : of x = -1
    · exact .inr (h.free x hx e)
    · exact .inl (by omega)
  omega
theorem Good.most {k : Nat} {M : Nat → Mat n} {of : Nat → Int} (hG : Good k M of) (U : St) : card n (got of) + card n U ≤ n + sumK k fun j => (M j).r U := by
  have h1 := card_mod n (got of) U
  have h2 := card_le n (uni (got of) U)
  rw [card_cls (fun x hx => (hG.lo x hx).2) U] at h1
  have h3 : (sumK k fun j => card n (int (cls of j) U)) ≤ sumK k fun j => (M j).r U := sumK_le fun j hj => by
    have h4 := (M j).indep_sub (s := int (cls of j) U) (fun i _ hi => by simp [int] at hi; exact hi.1) (hG.ind j hj)
    rw [← h4]
    exact (M j).mono _ _ (fun i _ hi => by simp [int] at hi; exact hi.2)
  omega
/-- how x may stand for y, by independence. -/
theorem stands_iff {M : Mat n} {I : St} (hI : M.indep I) {x y : Nat} (hx : x < n) (hIx : I x = false) : M.indep (add (del I y) x) ↔ ¬ M.cl (del I y) x :=
  M.indep_add hx (by simp [del, hIx]) (M.indep_sub (fun i _ hi => by simp [del] at hi; exact hi.1) hI)
end Mat
end Gw
namespace Go.Proofs.YtmcloifhgbehdaaGreatDoor
open Go.RowKit Go.Proofs.YtmcloifhgbehdaaGreatDoorW.PrintWords Go.Proofs.YtmcloifhgbehdaaGreatDoorW.PrintLast Go.Proofs.YtmcloifhgbehdaaGreatDoorW.PrintMore Go.Proofs.YtmcloifhgbehdaaGreatDoor.PBasesSteps
set_option linter.unusedVariables false
set_option linter.unusedSimpArgs false
def stL (s : List Int) : Gw.St := fun i => decide ((i : Int) ∈ s)
theorem card_nodup : ∀ (n : Nat) (s : List Int), s.Nodup → (∀ x, x ∈ s → 0 ≤ x ∧ x < n) → Gw.card n (stL s) = s.length := by
  intro n
  induction n with
  | zero =>
    intro s _ h
    cases s with
    | nil => rfl
    | cons x s => have := h x List.mem_cons_self; omega
  | succ n ih =>
    intro s hd h
    rw [Gw.card]
    by_cases hn : (n : Int) ∈ s
    · have h1 := ih (s.erase (n : Int)) (hd.erase _) (fun x hx => by
        have h2 := (hd.mem_erase_iff).1 hx
        have := h x h2.2
        have h3 := h2.1
        omega)
      have h2 : Gw.card n (stL s) = Gw.card n (stL (s.erase (n : Int))) := by
        refine Gw.card_congr fun i hi => ?_
        have : (i : Int) ∈ s ↔ (i : Int) ∈ s.erase (n : Int) := by
          rw [hd.mem_erase_iff]
          exact ⟨fun h => ⟨by omega, h⟩, fun h => h.2⟩
        simp only [stL, this]
      have h3 := List.length_erase_of_mem hn
      have h4 := List.length_pos_of_mem hn
      have h5 : stL s n = true := by simp [stL, hn]
      rw [h2, h1, h5, h3]
      simp
      omega
    · rw [ih s hd (fun x hx => by
        have := h x hx
        have : x ≠ (n : Int) := fun e => hn (e ▸ hx)
        omega)]
      have h5 : stL s n = false := by simp [stL, hn]
      rw [h5]; rfl
theorem card_stL {n : Nat} {s : List Int} (h : setN s (n : Int) = true) : Gw.card n (stL s) = s.length :=
  card_nodup n s (may_nodup (setN_may h)) fun _ hx => setN_lt h hx
theorem mayF_of : ∀ {l : List Int} {a : Int}, (∀ x, x ∈ l → a < x ∧ x ≤ 1099511627776) → l.Pairwise (· < ·) → mayF a l = true
  | [], _, _, _ => rfl
  | x :: l, a, h, hp => by
    obtain ⟨h1, h2⟩ := h x List.mem_cons_self
    obtain ⟨h3, h4⟩ := List.pairwise_cons.1 hp
    simp only [mayF, Bool.and_eq_true, decide_eq_true_eq]
    exact ⟨⟨h1, h2⟩, mayF_of (fun y hy => ⟨h3 y hy, (h y (List.mem_cons_of_mem _ hy)).2⟩) h4⟩
theorem setN_of {l : List Int} {n : Nat} (hn : n ≤ 100000) (h : ∀ x, x ∈ l → 0 ≤ x ∧ x < n) (hp : l.Pairwise (· < ·)) : setN l (n : Int) = true := by
  unfold setN
  rw [Bool.and_eq_true, List.all_eq_true]
  exact ⟨mayF_of (fun x hx => by have := h x hx; omega) hp, fun x hx => by simpa using (h x hx).2⟩
theorem mayF_pairwise : ∀ {l : List Int} {a : Int}, mayF a l = true → l.Pairwise (· < ·)
  | [], _, _ => List.Pairwise.nil
  | x :: l, a, h => by
    simp only [mayF, Bool.and_eq_true, decide_eq_true_eq] at h
    exact List.pairwise_cons.2 ⟨fun y hy => (mayF_lt h.2 y hy).1, mayF_pairwise h.2⟩
theorem setN_pairwise {l : List Int} {n : Int} (h : setN l n = true) : l.Pairwise (· < ·) := mayF_pairwise (setN_may h)
theorem setN_one {x n : Int} (h0 : 0 ≤ x) (h1 : x < n) (hn : n ≤ 100000) : setN [x] n = true := by
  obtain ⟨k, rfl⟩ := Int.eq_ofNat_of_zero_le (show 0 ≤ n by omega)
  exact setN_of (by omega) (fun y hy => by rw [List.mem_singleton.1 hy]; omega) (List.pairwise_singleton _ _)
theorem mem_stL {s : List Int} {i : Nat} : stL s i = true ↔ (i : Int) ∈ s := by simp [stL]
/-- the elements below n of one class, or of none. -/
def clsL (n : Nat) (of : List Int) (k : Int) : List Int := ((List.range n).filter fun x : Nat => rd of (x : Int) == k).map fun x : Nat => (x : Int)
theorem mem_clsL {n : Nat} {of : List Int} {k x : Int} : x ∈ clsL n of k ↔ ∃ i : Nat, i < n ∧ x = i ∧ rd of (i : Int) = k := by
  unfold clsL
  simp only [List.mem_map, List.mem_filter, List.mem_range, beq_iff_eq]
  constructor
  · rintro ⟨i, ⟨h1, h2⟩, rfl⟩; exact ⟨i, h1, rfl, h2⟩
  · rintro ⟨i, h1, rfl, h2⟩; exact ⟨i, ⟨h1, h2⟩, rfl⟩
theorem filter_range_sorted (n : Nat) (p : Nat → Bool) : (((List.range n).filter p).map fun x : Nat => (x : Int)).Pairwise (· < ·) := by
  rw [List.pairwise_map]
  exact (List.pairwise_lt_range.filter p).imp fun h => by omega
theorem clsL_set (n : Nat) (hn : n ≤ 100000) (of : List Int) (k : Int) : setN (clsL n of k) (n : Int) = true :=
  setN_of hn (fun x hx => by obtain ⟨i, h1, rfl, _⟩ := mem_clsL.1 hx; omega) (filter_range_sorted n _)
theorem fromF_set {adj : List (List Int)} {src : List Int} (hn : adj.length ≤ 100000) : setN (fromF adj src) (adj.length : Int) = true := by
  refine setN_of hn (fun x hx => ?_) (filter_range_sorted _ _)
  unfold fromF reachedL at hx
  simp only [List.mem_map, List.mem_filter, List.mem_range] at hx
  obtain ⟨i, ⟨h1, _⟩, rfl⟩ := hx
  omega
def ofN (of : List Int) : Nat → Int := fun x => rd of (x : Int)
theorem cls_clsL (n : Nat) (of : List Int) (j : Nat) : Gw.Eqv n (Gw.Mat.cls (ofN of) j) (stL (clsL n of j)) := by
  intro i hi
  rw [Bool.eq_iff_iff, mem_stL, mem_clsL]
  simp only [Gw.Mat.cls, ofN, beq_iff_eq]
  constructor
  · intro h; exact ⟨i, hi, rfl, h⟩
  · rintro ⟨i', _, e, h⟩
    have : i = i' := by omega
    subst this
    exact h
theorem uni_stL {n : Nat} {s : List Int} {x : Nat} (hs : setN s (n : Int) = true) (hx : x < n) (hn : n ≤ 100000) : setN (uniL s [(x : Int)]) (n : Int) = true ∧ ∀ i, stL (uniL s [(x : Int)]) i = Gw.add (stL s) x i := by
  have hl := setN_length hs
  have h1 := setN_one (x := (x : Int)) (n := (n : Int)) (by omega) (by omega) (by omega)
  obtain ⟨_, h2, _, h3⟩ := uniL_spec (setN_may hs) (setN_may h1) (by simp; omega)
  refine ⟨?_, fun i => ?_⟩
  · unfold setN
    rw [Bool.and_eq_true, List.all_eq_true]
    refine ⟨h2, fun y hy => ?_⟩
    rcases (h3 y).1 hy with h4 | h4
    · simpa using (setN_lt hs h4).2
    · rw [List.mem_singleton.1 h4]; simpa using hx
  · rw [Bool.eq_iff_iff, mem_stL, h3]
    simp only [Gw.add, Bool.or_eq_true, mem_stL, beq_iff_eq, List.mem_singleton]
    constructor
    · rintro (h | h)
      · exact .inl h
      · exact .inr (by omega)
    · rintro (h | h)
      · exact .inl h
      · exact .inr (by omega)
theorem min_stL {n : Nat} {s : List Int} {y : Nat} (hs : setN s (n : Int) = true) (hy : y < n) (hn : n ≤ 100000) : setN (minL s [(y : Int)]) (n : Int) = true ∧ ∀ i, stL (minL s [(y : Int)]) i = Gw.del (stL s) y i := by
  have hl := setN_length hs
  have h1 := setN_one (x := (y : Int)) (n := (n : Int)) (by omega) (by omega) (by omega)
  obtain ⟨_, h2, _, h3⟩ := minL_spec (setN_may hs) (setN_may h1) (by simp; omega)
  refine ⟨?_, fun i => ?_⟩
  · unfold setN
    rw [Bool.and_eq_true, List.all_eq_true]
    refine ⟨h2, fun z hz => ?_⟩
    simpa using (setN_lt hs ((h3 z).1 hz).1).2
  · rw [Bool.eq_iff_iff, mem_stL, h3]
    simp only [Gw.del, Bool.and_eq_true, mem_stL, Bool.not_eq_true', beq_eq_false_iff_ne, List.mem_singleton]
    constructor
    · rintro ⟨h, h'⟩; exact ⟨h, by omega⟩
    · rintro ⟨h, h'⟩; exact ⟨h, by omega⟩
/-- a rank of lists is that of a matroid. -/
def IsMat (n : Nat) (rk : List Int → Int) (M : Gw.Mat n) : Prop := ∀ s, setN s (n : Int) = true → rk s = (M.r (stL s) : Int)
/-- independence, as indep.Indep tells it. -/
def indR (n : Nat) (rk : List Int → Int) (s : List Int) : Bool := setN s (n : Int) && decide (rk s = s.length)
theorem indR_iff {n : Nat} {rk : List Int → Int} {M : Gw.Mat n} (h : IsMat n rk M) {s : List Int} (hs : setN s (n : Int) = true) : indR n rk s = true ↔ M.indep (stL s) := by
  unfold indR Gw.Mat.indep
  rw [hs, Bool.true_and, decide_eq_true_iff, h s hs, card_stL hs]
  omega
def outK (n : Nat) (ind : List Int → Bool) (of : List Int) (x : Int) (k : Nat) : List Int :=
  if rd of x = (k : Int) then [] else (clsL n of k).filter fun y => ind (uniL (minL (clsL n of k) [y]) [x])
def endK (n : Nat) (ind : List Int → Bool) (of : List Int) (x : Int) (k : Nat) : List Int :=
  if rd of x = (k : Int) then [] else if ind (uniL (clsL n of k) [x]) = true then [((n + k : Nat) : Int)] else []
def outsL (n : Nat) (ind : Nat → List Int → Bool) (of : List Int) (x : Int) : Nat → List Int
  | 0 => []
  | k + 1 => outsL n ind of x k ++ outK n (ind k) of x k
def endsL (n : Nat) (ind : Nat → List Int → Bool) (of : List Int) (x : Int) : Nat → List Int
  | 0 => []
  | k + 1 => endsL n ind of x k ++ endK n (ind k) of x k
def sortI (l : List Int) : List Int := l.mergeSort fun x y => decide (x ≤ y)
def arcsF (n : Nat) (ind : Nat → List Int → Bool) (of : List Int) (K : Nat) (x : Int) : List Int := sortI (outsL n ind of x K) ++ endsL n ind of x K
def graphF (n : Nat) (ind : Nat → List Int → Bool) (of : List Int) (K : Nat) : List (List Int) := ((List.range n).map fun x : Nat => arcsF n ind of K (x : Int)) ++ List.replicate K []
theorem mem_outsL {n : Nat} {ind : Nat → List Int → Bool} {of : List Int} {x y : Int} : ∀ {K : Nat}, y ∈ outsL n ind of x K ↔ ∃ k, k < K ∧ rd of x ≠ (k : Int) ∧ y ∈ clsL n of k ∧ ind k (uniL (minL (clsL n of k) [y]) [x]) = true
  | 0 => by
    simp only [outsL, List.not_mem_nil, false_iff]
    rintro ⟨k, h, _⟩; omega
  | K + 1 => by
    rw [outsL, List.mem_append, mem_outsL, outK]
    constructor
    · rintro (⟨k, h1, h2⟩ | h)
      · exact ⟨k, by omega, h2⟩
      · split at h
        · cases h
        · rename_i hne
          exact ⟨K, by omega, hne, by simpa using h⟩
    · rintro ⟨k, h1, h2, h3, h4⟩
      by_cases e : k = K
      · subst e
        refine .inr ?_
        rw [if_neg h2]
        simpa using ⟨h3, h4⟩
      · exact .inl ⟨k, by omega, h2, h3, h4⟩
theorem mem_endsL {n : Nat} {ind : Nat → List Int → Bool} {of : List Int} {x y : Int} : ∀ {K : Nat}, y ∈ endsL n ind of x K ↔ ∃ k : Nat, k < K ∧ rd of x ≠ (k : Int) ∧ y = ((n + k : Nat) : Int) ∧ ind k (uniL (clsL n of k) [x]) = true
  | 0 => by
    simp only [endsL, List.not_mem_nil, false_iff]
    rintro ⟨k, h, _⟩; omega
  | K + 1 => by
    rw [endsL, List.mem_append, mem_endsL, endK]
    constructor
    · rintro (⟨k, h1, h2⟩ | h)
      · exact ⟨k, by omega, h2⟩
      · split at h
        · cases h
        · rename_i hne
          split at h
          · rename_i hi
            exact ⟨K, by omega, hne, by simpa using h, hi⟩
          · cases h
    · rintro ⟨k, h1, h2, h3, h4⟩
      by_cases e : k = K
      · subst e
        refine .inr ?_
        rw [if_neg h2, if_pos h4]
        simpa using h3
      · exact .inl ⟨k, by omega, h2, h3, h4⟩
theorem outsL_nodup {n : Nat} {ind : Nat → List Int → Bool} {of : List Int} {x : Int} : ∀ K, (outsL n ind of x K).Nodup
  | 0 => List.nodup_nil
  | K + 1 => by
    rw [outsL, List.nodup_append]
    refine ⟨outsL_nodup K, ?_, fun a ha b hb e => ?_⟩
    · rw [outK]
      split
      · exact List.nodup_nil
      · exact (((filter_range_sorted n fun y : Nat => rd of (y : Int) == (K : Int)).imp fun h => by omega : (clsL n of K).Nodup)).filter _
    · subst e
      obtain ⟨k, h1, _, h3, _⟩ := mem_outsL.1 ha
      rw [outK] at hb
      split at hb
      · cases hb
      · have h4 := (List.mem_filter.1 hb).1
        obtain ⟨i, _, e1, e2⟩ := mem_clsL.1 h3
        obtain ⟨i', _, e3, e4⟩ := mem_clsL.1 h4
        have : i = i' := by omega
        subst this
        omega
theorem endsL_sorted {n : Nat} {ind : Nat → List Int → Bool} {of : List Int} {x : Int} : ∀ K, (endsL n ind of x K).Pairwise (· < ·)
  | 0 => List.Pairwise.nil
  | K + 1 => by
    rw [endsL, List.pairwise_append]
    refine ⟨endsL_sorted K, ?_, fun a ha b hb => ?_⟩
    · rw [endK]
      split
      · exact List.Pairwise.nil
      · split
        · exact List.pairwise_singleton _ _
        · exact List.Pairwise.nil
    · obtain ⟨k, h1, _, h3, _⟩ := mem_endsL.1 ha
      rw [endK] at hb
      split at hb
      · cases hb
      · split at hb
        · rw [List.mem_singleton.1 hb, h3]; omega
        · cases hb
theorem sortI_mem {l : List Int} {x : Int} : x ∈ sortI l ↔ x ∈ l := (List.mergeSort_perm l _).mem_iff
theorem sortI_sorted {l : List Int} (h : l.Nodup) : (sortI l).Pairwise (· < ·) := by
  have h1 : (sortI l).Pairwise fun a b => decide (a ≤ b) = true := List.pairwise_mergeSort (fun a b c => by simp only [decide_eq_true_eq]; omega) (fun a b => by simp only [Bool.or_eq_true, decide_eq_true_eq]; omega) l
  have h2 : (sortI l).Nodup := (List.mergeSort_perm l _).nodup_iff.2 h
  exact (List.Pairwise.and h1 h2).imp fun ⟨h3, h4⟩ => by
    have := of_decide_eq_true h3
    omega
theorem arcsF_set {n : Nat} {ind : Nat → List Int → Bool} {of : List Int} {K : Nat} {x : Int} (hn : n + K ≤ 100000) : setN (arcsF n ind of K x) ((n + K : Nat) : Int) = true := by
  refine setN_of hn (fun y hy => ?_) ?_
  · rcases List.mem_append.1 hy with hy | hy
    · obtain ⟨k, h1, _, h3, _⟩ := mem_outsL.1 (sortI_mem.1 hy)
      obtain ⟨i, h4, rfl, _⟩ := mem_clsL.1 h3
      omega
    · obtain ⟨k, h1, _, rfl, _⟩ := mem_endsL.1 hy
      omega
  · unfold arcsF
    rw [List.pairwise_append]
    refine ⟨sortI_sorted (outsL_nodup K), endsL_sorted K, fun a ha b hb => ?_⟩
    obtain ⟨k, h1, _, h3, _⟩ := mem_outsL.1 (sortI_mem.1 ha)
    obtain ⟨i, h4, rfl, _⟩ := mem_clsL.1 h3
    obtain ⟨k, h1, _, rfl, _⟩ := mem_endsL.1 hb
    omega
theorem graphF_length (n : Nat) (ind : Nat → List Int → Bool) (of : List Int) (K : Nat) : (graphF n ind of K).length = n + K := by simp [graphF]
theorem graphF_at {n : Nat} {ind : Nat → List Int → Bool} {of : List Int} {K : Nat} (x : Nat) : rd_L1 (graphF n ind of K) (x : Int) = if x < n then arcsF n ind of K (x : Int) else [] := by
  unfold rd_L1 graphF
  rw [Int.toNat_natCast, List.getD_eq_getElem?_getD]
  split
  · rename_i h
    rw [List.getElem?_append_left (by simpa using h)]
    simp [h]
  · rename_i h
    rw [List.getElem?_append_right (by simpa using h), List.getElem?_replicate]
    split <;> rfl
theorem graphF_may {n : Nat} {ind : Nat → List Int → Bool} {of : List Int} {K : Nat} (hn : n + K ≤ 100) : MayG (graphF n ind of K) := by
  refine ⟨by rw [graphF_length]; exact hn, ?_⟩
  rw [List.all_eq_true, graphF_length]
  intro l hl
  unfold graphF at hl
  rcases List.mem_append.1 hl with hl | hl
  · obtain ⟨x, _, rfl⟩ := List.mem_map.1 hl
    exact arcsF_set (by omega)
  · rw [List.eq_of_mem_replicate hl]; rfl
/-- where ways end. -/
def goalL (n K : Nat) : List Int := minL (allL (n + K)) (allL n)
theorem goalL_spec {n K : Nat} (hn : n + K ≤ 100000) : setN (goalL n K) ((n + K : Nat) : Int) = true ∧ ∀ x, x ∈ goalL n K ↔ (n : Int) ≤ x ∧ x < ((n + K : Nat) : Int) := by
  obtain ⟨_, h1, _, h2⟩ := minL_spec (allL_may (n + K) (by omega)) (allL_may n (by omega)) (by rw [allL_length, allL_length]; omega)
  have h3 : ∀ x, x ∈ goalL n K ↔ (n : Int) ≤ x ∧ x < ((n + K : Nat) : Int) := by
    intro x
    unfold goalL
    rw [h2, mem_allL, mem_allL]
    omega
  refine ⟨?_, h3⟩
  unfold setN
  rw [Bool.and_eq_true, List.all_eq_true]
  exact ⟨h1, fun x hx => by simpa using ((h3 x).1 hx).2⟩
end Go.Proofs.YtmcloifhgbehdaaGreatDoor
namespace Go.Proofs.YtmcloifhgbehdaaGreatDoor
open Go.RowKit Go.Proofs.YtmcloifhgbehdaaGreatDoorW.PrintWords Go.Proofs.YtmcloifhgbehdaaGreatDoorW.PrintLast Go.Proofs.YtmcloifhgbehdaaGreatDoorW.PrintMore Go.Proofs.YtmcloifhgbehdaaGreatDoor.PBasesSteps
set_option linter.unusedVariables false
set_option linter.unusedSimpArgs false
/-- n elements, K matroids: their ranks of lists, and as matroids. -/
structure Mats (n K : Nat) (rk : Nat → List Int → Int) (M : Nat → Gw.Mat n) : Prop where
  small : n + K ≤ 100
  mat : ∀ k, k < K → IsMat n (rk k) (M k)
def inds (n : Nat) (rk : Nat → List Int → Int) (k : Nat) (s : List Int) : Bool := indR n (rk k) s
/-- the classes in order: each element has one below K, or none; each class is independent. -/
structure Ok (n K : Nat) (M : Nat → Gw.Mat n) (of : List Int) : Prop where
  len : of.length = n
  good : Gw.Mat.Good K M (ofN of)
theorem ind_add {n K : Nat} {rk : Nat → List Int → Int} {M : Nat → Gw.Mat n} (hM : Mats n K rk M) {of : List Int} (hO : Ok n K M of) {k x : Nat} (hk : k < K) (hx : x < n) (hne : rd of (x : Int) ≠ (k : Int)) :
    inds n rk k (uniL (clsL n of k) [(x : Int)]) = true ↔ ¬ (M k).cl (Gw.Mat.cls (ofN of) k) x := by
  have hsm := hM.small
  have hc := clsL_set n (by omega) of (k : Int)
  obtain ⟨h1, h2⟩ := uni_stL hc hx (by omega)
  unfold inds
  rw [indR_iff (hM.mat k hk) h1]
  have he : Gw.Eqv n (stL (uniL (clsL n of k) [(x : Int)])) (Gw.add (Gw.Mat.cls (ofN of) k) x) := by
    intro i hi
    rw [h2]
    simp only [Gw.add]
    rw [cls_clsL n of k i hi]
  rw [(M k).indep_ext he]
  exact (M k).indep_add hx (by simp only [Gw.Mat.cls, ofN, beq_eq_false_iff_ne]; exact hne) (hO.good.ind k hk)
theorem ind_swap {n K : Nat} {rk : Nat → List Int → Int} {M : Nat → Gw.Mat n} (hM : Mats n K rk M) {of : List Int} (hO : Ok n K M of) {k x y : Nat} (hk : k < K) (hx : x < n) (hy : y < n) (hne : rd of (x : Int) ≠ (k : Int)) :
    inds n rk k (uniL (minL (clsL n of k) [(y : Int)]) [(x : Int)]) = true ↔ ¬ (M k).cl (Gw.del (Gw.Mat.cls (ofN of) k) y) x := by
  have hsm := hM.small
  have hc := clsL_set n (by omega) of (k : Int)
  obtain ⟨h3, h4⟩ := min_stL hc hy (by omega)
  obtain ⟨h1, h2⟩ := uni_stL h3 hx (by omega)
  unfold inds
  rw [indR_iff (hM.mat k hk) h1]
  have he : Gw.Eqv n (stL (uniL (minL (clsL n of k) [(y : Int)]) [(x : Int)])) (Gw.add (Gw.del (Gw.Mat.cls (ofN of) k) y) x) := by
    intro i hi
    rw [h2]
    simp only [Gw.add, h4, Gw.del]
    rw [cls_clsL n of k i hi]
  rw [(M k).indep_ext he]
  exact Gw.Mat.stands_iff (hO.good.ind k hk) hx (by simp only [Gw.Mat.cls, ofN, beq_eq_false_iff_ne]; exact hne)
theorem mem_adj {n K : Nat} {rk : Nat → List Int → Int} {M : Nat → Gw.Mat n} (hM : Mats n K rk M) {of : List Int} (hO : Ok n K M of) {x : Nat} (y : Nat) : (y : Int) ∈ rd_L1 (graphF n (inds n rk) of K) (x : Int) ↔
    x < n ∧ (y < n ∧ Gw.Mat.Arc M (ofN of) x y ∨ ∃ k, k < K ∧ y = n + k ∧ Gw.Mat.End M (ofN of) x k) := by
  rw [graphF_at]
  by_cases hx : x < n
  · rw [if_pos hx]
    unfold arcsF
    rw [List.mem_append, sortI_mem, mem_outsL, mem_endsL]
    refine ⟨fun h => ⟨hx, ?_⟩, fun h => ?_⟩
    · rcases h with ⟨k, h1, h2, h3, h4⟩ | ⟨k, h1, h2, h3, h4⟩
      · obtain ⟨i, h5, e, h6⟩ := mem_clsL.1 h3
        have : y = i := by omega
        subst this
        refine .inl ⟨h5, ?_, ?_, ?_⟩
        · show rd of (x : Int) ≠ rd of (y : Int)
          rw [h6]; exact h2
        · show 0 ≤ rd of (y : Int)
          omega
        · have : (ofN of y).toNat = k := by show (rd of (y : Int)).toNat = k; omega
          rw [this]
          exact (ind_swap hM hO h1 hx h5 h2).1 h4
      · exact .inr ⟨k, h1, by omega, h2, (ind_add hM hO h1 hx h2).1 h4⟩
    · rcases h.2 with ⟨hy, h1, h2, h3⟩ | ⟨k, h1, h2, h3, h4⟩
      · obtain ⟨k, hk⟩ := Int.eq_ofNat_of_zero_le h2
        have hlo := hO.good.lo y hy
        have hkK : k < K := by omega
        have h1' : rd of (x : Int) ≠ (k : Int) := by rw [← hk]; exact h1
        rw [hk, Int.toNat_natCast] at h3
        exact .inl ⟨k, hkK, h1', mem_clsL.2 ⟨y, hy, rfl, hk⟩, (ind_swap hM hO hkK hx hy h1').2 h3⟩
      · exact .inr ⟨k, h1, h3, by omega, (ind_add hM hO h1 hx h3).2 h4⟩
  · rw [if_neg hx]
    simp [hx]
theorem way_of {n K : Nat} {rk : Nat → List Int → Int} {M : Nat → Gw.Mat n} (hM : Mats n K rk M) {of D L : List Int} (hO : Ok n K M of) {v : Nat → Nat} {m : Nat}
    (hN : Near (graphF n (inds n rk) of K) (goalL n K) D) (hS : Shortest (graphF n (inds n rk) of K) (clsL n of (-1)) (goalL n K) D L v m) :
    ∃ m' e, m = m' + 1 ∧ v m = n + e ∧ Gw.Mat.Way K M (ofN of) v m' e := by
  have hsm := hM.small
  have hlen := graphF_length n (inds n rk) of K
  obtain ⟨hg1, hg2⟩ := goalL_spec (n := n) (K := K) (by omega)
  obtain ⟨i0, h0, e0, hf⟩ := mem_clsL.1 hS.fst
  have hv0 : v 0 < n := by omega
  have hvm := (hg2 (v m : Int)).1 hS.lst
  have hm : m ≠ 0 := by rintro rfl; omega
  obtain ⟨m', rfl⟩ : ∃ m', m = m' + 1 := ⟨m - 1, by omega⟩
  have hlt : ∀ i, i ≤ m' → v i < n := by
    intro i hi
    exact ((mem_adj hM hO (v (i + 1))).1 (hS.arc i (by omega))).1
  have hfar : ∀ i l, i ≤ m' + 1 → l ≤ m' + 1 → (v l : Int) ∈ rd_L1 (graphF n (inds n rk) of K) (v i : Int) → l ≤ i + 1 := by
    intro i l hi hl hm
    have h1 := hS.far i hi
    have h2 := hS.far l hl
    have h3 := hN.arc (v i) (v l) (hS.lt i hi) (hS.lt l hl) hm (by omega)
    omega
  refine ⟨m', v (m' + 1) - n, rfl, by omega, ⟨hlt, ?_, ?_, ?_, by omega, ?_, ?_, ?_⟩⟩
  · show rd of (v 0 : Int) = -1
    rw [e0]; exact hf
  · intro i hi
    rcases ((mem_adj hM hO (v (i + 1))).1 (hS.arc i (by omega))).2 with ⟨_, h⟩ | ⟨k, h1, h2, _⟩
    · exact h
    · have := hlt (i + 1) (by omega)
      omega
  · rcases ((mem_adj hM hO (v (m' + 1))).1 (hS.arc m' (by omega))).2 with ⟨h, _⟩ | ⟨k, h1, h2, h3⟩
    · omega
    · rw [show v (m' + 1) - n = k by omega]
      exact h3
  · intro i l h1 h2 ha
    have := hfar i l (by omega) (by omega) ((mem_adj hM hO (v l)).2 ⟨hlt i (by omega), .inl ⟨hlt l h2, ha⟩⟩)
    omega
  · intro i j hi hj ha
    have h1 := (mem_adj hM hO (n + j)).2 ⟨hlt i (by omega), .inr ⟨j, hj, rfl, ha⟩⟩
    have h2 := (hN.goal (n + j) (by omega)).2 ((hg2 ((n + j : Nat) : Int)).2 (by omega))
    have h3 := hN.arc (v i) (n + j) (hS.lt i (by omega)) (by omega) h1 (by omega)
    have h4 := hS.far i (by omega)
    omega
  · intro i l hi hl e
    have h1 := hS.far i (by omega)
    have h2 := hS.far l (by omega)
    rw [e] at h1
    omega
/-- what union.shift makes of the classes. -/
def shiftF (n : Nat) : List Int → List Int → List Int
  | x :: y :: w, of => if (n : Int) ≤ y then of.set x.toNat (y - n) else shiftF n (y :: w) (of.set x.toNat (rd of y))
  | _, of => of
theorem shiftF_length (n : Nat) : ∀ (w of : List Int), (shiftF n w of).length = of.length
  | [], _ => rfl
  | [_], _ => rfl
  | x :: y :: w, of => by
    rw [shiftF]
    split
    · exact List.length_set ..
    · rw [shiftF_length n (y :: w)]; exact List.length_set ..
theorem shiftF_turned {n : Nat} {of : List Int} {v : Nat → Nat} {m e : Nat} (hl : of.length = n) (hlt : ∀ i, i ≤ m → v i < n) (he : v (m + 1) = n + e) (inj : ∀ i l, i ≤ m → l ≤ m → v i = v l → i = l) :
    ∀ (d i : Nat) (of' : List Int), i + d = m → of'.length = n → (∀ z : Nat, z < n → (∀ i', i' < i → z ≠ v i') → rd of' (z : Int) = rd of (z : Int)) → (∀ i', i' < i → rd of' (v i' : Int) = rd of (v (i' + 1) : Int)) →
      (∀ z : Nat, z < n → (∀ i', i' ≤ m → z ≠ v i') → rd (shiftF n ((List.range' i (d + 2)).map fun j => (v j : Int)) of') (z : Int) = rd of (z : Int)) ∧
      (∀ i', i' < m → rd (shiftF n ((List.range' i (d + 2)).map fun j => (v j : Int)) of') (v i' : Int) = rd of (v (i' + 1) : Int)) ∧
      rd (shiftF n ((List.range' i (d + 2)).map fun j => (v j : Int)) of') (v m : Int) = e := by
  intro d
  induction d with
  | zero =>
    intro i of' hi hl' h1 h2
    have : i = m := by omega
    subst this
    have e1 : (List.range' i 2).map (fun j => (v j : Int)) = [(v i : Int), (v (i + 1) : Int)] := rfl
    rw [show 0 + 2 = 2 from rfl, e1, shiftF, if_pos (by omega), Int.toNat_natCast]
    refine ⟨fun z hz hn => ?_, fun i' hi' => ?_, ?_⟩
    · rw [rd_set _ _ _ _ (by omega), if_neg (fun e => hn i (Nat.le_refl _) e.symm)]
      exact h1 z hz (fun i' hi' => hn i' (by omega))
    · rw [rd_set _ _ _ _ (by have := hlt i' (by omega); omega), if_neg (fun e => by have := inj i i' (by omega) (by omega) e; omega)]
      exact h2 i' hi'
    · rw [rd_set _ _ _ _ (by have := hlt i (by omega); omega), if_pos rfl, he]
      omega
  | succ d ih =>
    intro i of' hi hl' h1 h2
    have hi1 := hlt (i + 1) (by omega)
    have hi0 := hlt i (by omega)
    have e1 : (List.range' i (d + 1 + 2)).map (fun j => (v j : Int)) = (v i : Int) :: (v (i + 1) : Int) :: (List.range' (i + 2) (d + 1)).map (fun j => (v j : Int)) := rfl
    have e2 : (v (i + 1) : Int) :: (List.range' (i + 2) (d + 1)).map (fun j => (v j : Int)) = (List.range' (i + 1) (d + 2)).map (fun j => (v j : Int)) := rfl
    rw [e1, shiftF, if_neg (by omega), Int.toNat_natCast, e2]
    have h3 : rd of' (v (i + 1) : Int) = rd of (v (i + 1) : Int) := h1 _ hi1 (fun i' hi' e => by have := inj (i + 1) i' (by omega) (by omega) e; omega)
    refine ih (i + 1) (of'.set (v i) (rd of' (v (i + 1) : Int))) (by omega) (by rw [List.length_set]; exact hl') (fun z hz hn => ?_) (fun i' hi' => ?_)
    · rw [rd_set _ _ _ _ (by omega), if_neg (fun e => hn i (by omega) e.symm)]
      exact h1 z hz (fun i' hi' => hn i' (by omega))
    · have hlt' := hlt i' (by omega)
      rw [rd_set _ _ _ _ (by omega)]
      by_cases e : i' = i
      · subst e; rw [if_pos rfl, h3]
      · rw [if_neg (fun e' => e (inj i' i (by omega) (by omega) e'.symm))]
        exact h2 i' (by omega)
/-- how many have a class. -/
def many (n : Nat) (of : List Int) : Nat := Gw.card n (Gw.Mat.got (ofN of))
theorem shift_good {n K : Nat} {rk : Nat → List Int → Int} {M : Nat → Gw.Mat n} (hM : Mats n K rk M) {of D L : List Int} (hO : Ok n K M of) {v : Nat → Nat} {m : Nat}
    (hN : Near (graphF n (inds n rk) of K) (goalL n K) D) (hS : Shortest (graphF n (inds n rk) of K) (clsL n of (-1)) (goalL n K) D L v m) :
    Ok n K M (shiftF n L of) ∧ many n (shiftF n L of) = many n of + 1 := by
  obtain ⟨m', e, rfl, he, hW⟩ := way_of hM hO hN hS
  have hT := shiftF_turned (n := n) (of := of) hO.len hW.lt he hW.inj m' 0 of (by omega) hO.len (fun _ _ _ => rfl) (fun i' hi' => by omega)
  have eL : L = (List.range' 0 (m' + 2)).map fun j => (v j : Int) := by rw [hS.list, List.range_eq_range']
  rw [← eL] at hT
  obtain ⟨h1, h2, h3⟩ := hT
  have hlen := shiftF_length n L of
  have hTu : Gw.Mat.Turned (ofN of) (fun z => if z < n then ofN (shiftF n L of) z else ofN of z) v m' e := by
    refine ⟨fun z hz => ?_, fun i hi => ?_, ?_⟩
    · by_cases hzn : z < n
      · simp only [if_pos hzn]; exact h1 z hzn hz
      · simp only [if_neg hzn]
    · simp only [if_pos (hW.lt i (by omega))]; exact h2 i hi
    · simp only [if_pos (hW.lt m' (by omega))]; exact h3
  have hg := hW.good hO.good hTu
  have hc := hW.count hTu
  refine ⟨⟨hlen.trans hO.len, ⟨fun x hx => ?_, fun j hj => ?_⟩⟩, ?_⟩
  · have := hg.lo x hx
    simp only [if_pos hx] at this
    exact this
  · refine ((M j).indep_ext (fun i hi => ?_)).1 (hg.ind j hj)
    simp only [Gw.Mat.cls, if_pos hi]
  · unfold many
    rw [← hc]
    refine Gw.card_congr fun i hi => ?_
    simp only [Gw.Mat.got, if_pos hi]
/-- what union.Max tells: classes in order, and what shows that there are no greater ones. -/
structure Most (n K : Nat) (M : Nat → Gw.Mat n) (of u : List Int) : Prop where
  ok : Ok n K M of
  set : setN u (n : Int) = true
  shut : Gw.Mat.Shut K M (ofN of) (stL u)
theorem most_of {n K : Nat} {rk : Nat → List Int → Int} {M : Nat → Gw.Mat n} (hM : Mats n K rk M) {of D : List Int} (hO : Ok n K M of)
    (hN : Near (graphF n (inds n rk) of K) (goalL n K) D) (hb : bestL D (clsL n of (-1)) (-1) = -1) : Most n K M of (fromF (graphF n (inds n rk) of K) (clsL n of (-1))) := by
  have hsm := hM.small
  have hlen := graphF_length n (inds n rk) of K
  obtain ⟨hg1, hg2⟩ := goalL_spec (n := n) (K := K) (by omega)
  have hsrc : setN (clsL n of (-1)) ((graphF n (inds n rk) of K).length : Int) = true := by
    rw [hlen]
    refine setN_of (by omega) (fun x hx => ?_) (filter_range_sorted _ _)
    obtain ⟨i, h1, rfl, _⟩ := mem_clsL.1 hx
    omega
  obtain ⟨h1, h2⟩ := path_none (graphF_may (by omega)) hN hsrc hb
  have h3 : ∀ x, x ∈ fromF (graphF n (inds n rk) of K) (clsL n of (-1)) → 0 ≤ x ∧ x < n := by
    intro x hx
    obtain ⟨a, b, c, _⟩ := h2 x hx
    rw [hg2] at c
    omega
  have hset := fromF_set (adj := graphF n (inds n rk) of K) (src := clsL n of (-1)) (by omega)
  refine ⟨hO, setN_of (by omega) h3 (setN_pairwise hset), ⟨fun x hx hf => ?_, fun x hx hU j hj hE => ?_, fun x y hx hy hU hUy hA => ?_⟩⟩
  · exact mem_stL.2 (h1 _ (mem_clsL.2 ⟨x, hx, rfl, hf⟩))
  · have h4 := (h2 x (mem_stL.1 hU)).2.2.2 ((n + j : Nat) : Int) ((mem_adj hM hO (n + j)).2 ⟨hx, .inr ⟨j, hj, rfl, hE⟩⟩)
    have := h3 _ h4
    omega
  · have h4 := (h2 x (mem_stL.1 hU)).2.2.2 (y : Int) ((mem_adj hM hO y).2 ⟨hx, .inl ⟨hy, hA⟩⟩)
    rw [mem_stL.2 h4] at hUy
    cases hUy
end Go.Proofs.YtmcloifhgbehdaaGreatDoor
namespace Go
open Go.RowKit
theorem run_copy_cellsN (P : Program) (w : World) (dT sT ty elem : TypeId) (g o dLen dCap : Nat) (a : Addr) (sLen sCap sz : Nat) (cur : Array Value) (t : TypeId) (cs : List Value)
    (hu : P.underlying dT = some (.slice elem)) (hs : (P.info? elem).map (·.size) = some sz)
    (hg : w.heap[g]? = some (.cells cur t (0, 0))) (hn : cs.length = Nat.min sLen dLen * sz)
    (hsrc : ∀ j v, cs[j]? = some v → w.cell? (a.add j) = some v) (hfit : o + cs.length ≤ cur.size) (h1 : ∀ v ∈ cs, v.oneCell' = true) :
    (Builtin.copy_ #[dT, sT] ty #[.slice (some ⟨g, o, none⟩) dLen dCap, .slice (some a) sLen sCap]).run P w =
      .ok (goInt (Nat.min sLen dLen)) (w.setRow g (cur.toList.take o ++ cs ++ cur.toList.drop (o + cs.length)).toArray) := by
  have hl := run_loadCells_list (P := P) w a cs hsrc
  have hst := run_storeCells_at P g o t cs 0 cur w hg (by simpa using hfit) h1
  cases hq : P.info? elem with
  | none => simp [hq] at hs
  | some i =>
    have hi : i.size = sz := by simpa [hq] using hs
    simp [Builtin.copy_, run_underlying hu, Builtin.lenOf, Builtin.firstCells, sizeOf, typeInfo, hq, hi, ← hn, hl, hst]
theorem wpList_copy_cellsN {P : Program} {w : World} {ops : Array Oper} {rest : List Oper} {o : Oper} {a : Act} {Q : Exit → Act → World → Prop} (hgd : o.guard = none) (d s : Operand) (dT sT : TypeId)
    (ho : o.op = .call { callee := .builtin .copy, args := #[d, s], argTypes := #[dT, sT] }) (elem : TypeId) (hu : P.underlying dT = some (.slice elem)) (sz : Nat) (hsz : (P.info? elem).map (·.size) = some sz)
    (ad : Addr) (dLen dCap sLen sCap : Nat) (g off : Nat) (hd : a.eval d = .slice (some ⟨g, off, none⟩) dLen dCap) (hs : a.eval s = .slice (some ad) sLen sCap)
    (cur : List Value) (t : TypeId) (hg : w.heap[g]? = some (.cells cur.toArray t (0, 0))) (cs : List Value) (hn : cs.length = Nat.min sLen dLen * sz)
    (hsrc : ∀ j v, cs[j]? = some v → w.cell? (ad.add j) = some v)
    (hfit : off + cs.length ≤ cur.length) (h1 : ∀ v ∈ cs, v.oneCell' = true) (B : Nat) (w0 : World) (hb : Below B w0 w) (hBg : B ≤ g)
    (h : ∀ w', Hid (w'.heap[g]? = some (.cells (splice cur off cs).toArray t (0, 0))) → Below B w0 w' → wpList P ops Q rest (a.put o.dst (goInt (Nat.min sLen dLen))) w') :
    wpList P ops Q (o :: rest) a w := by
  refine wpList_plain hgd fun K hK => ?_
  have hrun := run_copy_cellsN P w dT sT o.type elem g off dLen dCap ad sLen sCap sz cur.toArray t cs hu hsz hg hn hsrc (by simpa using hfit) h1
  unfold Oper.wp
  simp [execOp, ho, resolve, invoke, builtin, hd, hs, hrun, Result.andThen]
  refine hK _ _ (h _ (show _ = _ from ?_) (below_setRow hb hBg _))
  simpa [splice] using setRow_heap w g _ _ t _ hg
theorem step_copy_cellsN {P : Program} {ops : Array Oper} {o : Oper} {a : Act} {w : World} {K : Act → World → Prop} {Q : Exit → Act → World → Prop} {E : Prop} (hgd : o.guard = none) (d s : Operand) (dT sT : TypeId)
    (ho : o.op = .call { callee := .builtin .copy, args := #[d, s], argTypes := #[dT, sT] }) (elem : TypeId) (hu : P.underlying dT = some (.slice elem)) (sz : Nat) (hsz : (P.info? elem).map (·.size) = some sz)
    (ad : Addr) (dLen dCap sLen sCap : Nat) (g off : Nat) (hd : a.eval d = .slice (some ⟨g, off, none⟩) dLen dCap) (hs : a.eval s = .slice (some ad) sLen sCap)
    (cur : List Value) (t : TypeId) (hg : w.heap[g]? = some (.cells cur.toArray t (0, 0))) (cs : List Value) (hn : cs.length = Nat.min sLen dLen * sz)
    (hsrc : ∀ j v, cs[j]? = some v → w.cell? (ad.add j) = some v)
    (hfit : off + cs.length ≤ cur.length) (h1 : ∀ v ∈ cs, v.oneCell' = true) (B : Nat) (w0 : World) (hb : Below B w0 w) (hBg : B ≤ g)
    (h : ∀ w', Hid (w'.heap[g]? = some (.cells (splice cur off cs).toArray t (0, 0))) → Below B w0 w' → K (a.put o.dst (goInt (Nat.min sLen dLen))) w') :
    if Region.wanted o (yielded ops a.tmps) = true then Oper.wp P o a w K Q else E := by
  have hw : Region.wanted o (yielded ops a.tmps) = true := by simp [Region.wanted, hgd]
  rw [if_pos hw]
  have hrun := run_copy_cellsN P w dT sT o.type elem g off dLen dCap ad sLen sCap sz cur.toArray t cs hu hsz hg hn hsrc (by simpa using hfit) h1
  unfold Oper.wp
  simp [execOp, ho, resolve, invoke, builtin, hd, hs, hrun, Result.andThen]
  refine h _ (show _ = _ from ?_) (below_setRow hb hBg _)
  simpa [splice] using setRow_heap w g _ _ t _ hg
end Go
namespace Go.Proofs.YtmcloifhgbehdaaGreatDoor
open Go.RowKit Go.Proofs.YtmcloifhgbehdaaGreatDoorW.PrintWords Go.Proofs.YtmcloifhgbehdaaGreatDoorW.PrintLast Go.Proofs.YtmcloifhgbehdaaGreatDoorW.PrintMore Go.Proofs.YtmcloifhgbehdaaGreatDoor.PBasesSteps
set_option linter.unusedVariables false
set_option linter.unusedSimpArgs false
/-- k times a list of cells. -/
def reps (k : Nat) (mc : List Value) : List Value := (List.replicate k mc).flatten
theorem reps_length (k : Nat) (mc : List Value) : (reps k mc).length = k * mc.length := by simp [reps]
theorem reps_add (k j : Nat) (mc : List Value) : reps (k + j) mc = reps k mc ++ reps j mc := by unfold reps; rw [← List.flatten_append, List.replicate_append_replicate]
theorem reps_mem {k : Nat} {mc : List Value} {v : Value} (h : v ∈ reps k mc) : v ∈ mc := by
  unfold reps at h
  obtain ⟨l, hl, hv⟩ := List.mem_flatten.1 h
  rw [List.eq_of_mem_replicate hl] at hv
  exact hv
theorem reps_get {k : Nat} {mc : List Value} {j i : Nat} (hj : j < k) (hi : i < mc.length) : (reps k mc)[j * mc.length + i]? = mc[i]? := by
  obtain ⟨d, rfl⟩ : ∃ d, k = j + (1 + d) := ⟨k - j - 1, by omega⟩
  rw [reps_add, List.getElem?_append_right (by rw [reps_length]; omega), reps_length, show j * mc.length + i - j * mc.length = i by omega, reps_add]
  rw [show reps 1 mc = mc by simp [reps], List.getElem?_append_left hi]
theorem splice_reps (k j : Nat) (mc rest : List Value) (h : j * mc.length ≤ rest.length) : splice (reps k mc ++ rest) (k * mc.length) (reps j mc) = reps (k + j) mc ++ rest.drop (j * mc.length) := by
  unfold splice
  rw [List.take_append_of_le_length (by rw [reps_length]; exact Nat.le_refl _), List.take_of_length_le (by rw [reps_length]; exact Nat.le_refl _), reps_length, List.drop_append, reps_length]
  rw [List.drop_of_length_le (by rw [reps_length]; omega), List.nil_append, show k * mc.length + j * mc.length - k * mc.length = j * mc.length by omega, reps_add, List.append_assoc]
/-- what is known of the row behind Repeat. -/
theorem reps_C {W : World} {g n : Nat} {m : S25} {mc rest : List Value} (hK : k25.K W m mc) (hl : mc.length = 6) (hn : n ≤ 1000) (hb : W.heap[g]? = some (.cells (reps n mc ++ rest).toArray 25 (0, 0))) :
    Kd.C k25 W (some ⟨g, 0, none⟩) n (List.replicate n m) := by
  refine ⟨by simp, by omega, fun _ => ⟨_, rfl, fun j p hj => ⟨mc, hl, ?_, fun i u hu => ?_⟩⟩⟩
  · rw [List.getElem?_replicate] at hj
    split at hj
    · rw [← Option.some.inj hj]; exact hK
    · cases hj
  · rw [List.getElem?_replicate] at hj
    split at hj
    · rename_i hjn
      have hi := (List.getElem?_eq_some_iff.1 hu).1
      change W.cell? ((⟨g, 0, none⟩ : Addr).add (j * 6 + i)) = some u
      rw [add_plain]
      refine (blk_cell hb _).trans ?_
      rw [List.getElem?_toArray, List.getElem?_append_left (by rw [reps_length, hl]; have : (j + 1) * 6 ≤ n * 6 := Nat.mul_le_mul_right _ hjn; omega), ← hl, reps_get hjn hi]
      exact hu
    · cases hj
def zeroM : Value := .agg #[.int .i64 0, .int .i64 0, .int .i64 0, .int .i64 0, .slice none 0 0, .slice none 0 0]
theorem infoM : (Tryz.prog.info? 25).map (fun i => (i.zero, i.size, i.bytes)) = some (some zeroM, 6, 80) := by kernel_rfl
theorem sizeM : (Tryz.prog.info? 25).map (·.size) = some 6 := by kernel_rfl
theorem make_row {W : World} {base n : Nat} {v : Value} (h1 : 1 ≤ n) (h : Kd.R k25 25 W base (fun _ => True) v (List.replicate n z25)) :
    ∃ (g cap : Nat) (cur : List Value), v = .slice (some ⟨g, 0, none⟩) n cap ∧ base ≤ g ∧ n ≤ cap ∧ cap ≤ maxLen ∧ cur.length = cap * 6 ∧ W.heap[g]? = some (.cells cur.toArray 25 (0, 0)) := by
  obtain ⟨_, inner, ⟨ho1, ho2⟩, _⟩ := h
  rw [List.length_replicate] at ho2
  rcases ho2 with ⟨_, hx⟩ | ⟨g, cap, cur, rfl, hb, hh, hn, hm, hs, _⟩
  · omega
  · have e : k25.sz = 6 := rfl
    rw [e] at hs
    exact ⟨g, cap, cur.toList, rfl, hb, hn, hm, by simpa using hs, by simpa using hh⟩
set_option maxHeartbeats 2000000 in
set_option maxRecDepth 100000 in
theorem RepeatM_ok (w : World) (n : Nat) (hn1 : 1 ≤ n) (hn : n < 128) (m : S25) (A : Option Addr) (c : Nat) (hc : 1 ≤ c) (h0 : Kd.C k25 w A 1 [m]) :
    Calls Tryz.prog 80 #[.slice A 1 c, .int .i64 n] w fun e w' => ∃ g c', e = .returned (.slice (some ⟨g, 0, none⟩) n c') ∧ n ≤ c' ∧ Kd.C k25 w' (some ⟨g, 0, none⟩) n (List.replicate n m) ∧ Below w.heap.size w w' := by
  have hmul := mul_one_ok n hn
  have x0 : ¬ ((n : Int) < 0) := by omega
  have HM := Aside0.mk hmul
  obtain ⟨ad, rfl, hrow⟩ := h0.2.2 (by omega)
  obtain ⟨mc, hmcl, hmk, hmcell⟩ := hrow 0 m rfl
  change mc.length = 6 at hmcl
  have HMK := Aside0.mk hmk
  have HML := Aside0.mk hmcl
  have HMO := Aside0.mk (fun v hv => k25.K_one hmk v hv)
  have HN1 : Aside0 (mc.length = Nat.min 1 n * 6) := ⟨by rw [hmcl, show Nat.min 1 n = 1 from Nat.min_eq_left hn1]⟩
  have HSRC : Aside0 (∀ W, Below w.heap.size w W → ∀ j v, mc[j]? = some v → W.cell? (ad.add j) = some v) := ⟨fun W hW j v hj => by
    have h1 := hmcell j v hj
    have e : 0 * k25.sz + j = j := by rw [Nat.zero_mul, Nat.zero_add]
    rw [e] at h1
    exact (hW.cell (World.block_lt_of_cell? w _ h1)).trans h1⟩
  clear hmul hrow hmk hmcl hmcell h0
  go_enter Tryz.func80, Tryz.ntmps80
  go_wp2_with (first
    | (go_at_call 110; with_reducible refine (bits_Mul.calls 1 n 0 n _ HM.out).mono ?_; rintro e w1 ⟨rfl, hw1⟩; have HW1 := Aside0.mk hw1.below; clear hw1)
    | ((with_reducible refine gate_dst (N := 30) rfl ?_); refine Kd.R_make k25 _ 25 rfl (N := 30) rfl 23 _ _ rfl (n : Int) rfl rfl Tryz.underlying23 zeroM 80 infoM rfl (by decide) (by decide) z25 (ok := fun _ => True) (okp := fun _ => True) (k25_mkM _ _ _ z25 (Kd.R_nil _ _ _ _ _) (Kd.R_nil _ _ _ _ _)) (fun _ hk => hk) trivial (by omega) (by omega) HW1.out HW1.out.size ?_; intro v1 w2 ho hb hg hat; rw [Int.toNat_natCast] at ho; obtain ⟨g, cap, cur, rfl, hbg, hnc, hcm, hcl, hcur⟩ := make_row hn1 ho; have HB := Aside0.mk hb; have HCL := Aside0.mk hcl; have HCU := Aside0.mk hcur; clear ho hb hg hat hcl hcur)
    | ((with_reducible refine gate_dst (N := 33) rfl ?_); refine wpList_copy_cellsN rfl (.tmp 31) (.tmp 32) 23 23 rfl 25 Tryz.underlying23 6 sizeM ad n cap 1 c g 0 rfl rfl cur 25 HCU.out mc HN1.out (HSRC.out _ HB.out) (by rw [HML.out, HCL.out]; omega) HMO.out w.heap.size w HB.out hbg ?_; intro w3 hg3 hb3; have HB3 := Aside0.mk hb3; have HG3 := Aside0.mk hg3.out; clear hb3 hg3))
  have hst : Aside0 (∃ rest : List Value, rest.length + 1 * 6 = cap * 6 ∧ w3.heap[g]? = some (.cells (reps 1 mc ++ rest).toArray 25 (0, 0))) := ⟨cur.drop 6, by rw [List.length_drop, HCL.out]; omega, by
    have e := splice_reps 0 1 mc cur (by rw [HML.out, HCL.out]; omega)
    have e1 : reps 1 mc = mc := by simp [reps]
    rw [HML.out] at e
    change splice cur 0 (reps 1 mc) = reps 1 mc ++ cur.drop 6 at e
    rw [← e, e1]
    exact HG3.out⟩
  clear HCU HG3 HB HCL
  go_loopg [8] n (fun gg s8 wr => ∃ k : Nat, k ≤ n ∧ n - k ≤ gg ∧ 1 ≤ k ∧ s8 = .int .i64 k ∧ Aside0 (∃ rest : List Value, rest.length + k * 6 = cap * 6 ∧ wr.heap[g]? = some (.cells (reps k mc ++ rest).toArray 25 (0, 0))) ∧ Aside0 (Below w.heap.size w wr))
  case atStart => exact ⟨1, hn1, by omega, by omega, rfl, hst, HB3⟩
  case round =>
    obtain ⟨k, hkn0, hgg, hk1, rfl, HO, HB⟩ := hrel
    by_cases hk : k < n
    · have x1 : (k : Int) < (n : Int) := by omega
      have x2 : (0 : Int) ≤ (k : Int) := by omega
      have hck : ¬ cap = k := by omega
      have hkc : k ≤ cap := by omega
      obtain ⟨rest, hrl, hcu⟩ := HO.out
      have hj6 : min k (n - k) * 6 ≤ rest.length := by
        have : min k (n - k) ≤ cap - k := by omega
        have := Nat.mul_le_mul_right 6 this
        rw [Nat.sub_mul] at this
        omega
      have hml := HML.out
      have H1 : Aside0 ((reps (min k (n - k)) mc).length = Nat.min k (n - k) * 6) := ⟨by rw [reps_length, hml]⟩
      have H2 : Aside0 (∀ j v, (reps (min k (n - k)) mc)[j]? = some v → wr.drew.cell? ((⟨g, 0, none⟩ : Addr).add j) = some v) := ⟨fun j v hj => by
        rw [add_plain]
        refine (show wr.drew.cell? ⟨g, j, none⟩ = wr.cell? ⟨g, j, none⟩ from rfl).trans ((blk_cell hcu j).trans ?_)
        have hjl := (List.getElem?_eq_some_iff.1 hj).1
        obtain ⟨d, hd⟩ : ∃ d, k = min k (n - k) + d := ⟨k - min k (n - k), by omega⟩
        have e : reps k mc = reps (min k (n - k)) mc ++ reps d mc := by rw [← reps_add, ← hd]
        rw [List.getElem?_toArray, e, List.append_assoc, List.getElem?_append_left hjl]
        exact hj⟩
      have H3 : Aside0 (k * 6 + (reps (min k (n - k)) mc).length ≤ (reps k mc ++ rest).length) := ⟨by rw [List.length_append, reps_length, reps_length, hml]; omega⟩
      have H4 : Aside0 (∀ v ∈ reps (min k (n - k)) mc, v.oneCell' = true) := ⟨fun v hv => HMO.out v (reps_mem hv)⟩
      have H5 : Aside0 (wr.drew.heap[g]? = some (.cells (reps k mc ++ rest).toArray 25 (0, 0))) := ⟨hcu⟩
      have H6 := Aside0.mk (below_drew HB.out)
      have H7 : Aside0 (splice (reps k mc ++ rest) (k * 6) (reps (min k (n - k)) mc) = reps (k + min k (n - k)) mc ++ rest.drop (min k (n - k) * 6)) := ⟨by
        have := splice_reps k (min k (n - k)) mc rest (by rw [hml]; exact hj6)
        rw [hml] at this
        exact this⟩
      have H8 : Aside0 ((rest.drop (min k (n - k) * 6)).length + (k + min k (n - k)) * 6 = cap * 6) := ⟨by rw [List.length_drop, Nat.add_mul]; omega⟩
      clear hcu hml hj6 hrl
      go_wp2_with fail
      go_region_law (refine step_copy_cellsN rfl (.tmp 41) (.tmp 44) 23 23 rfl 25 Tryz.underlying23 6 sizeM ⟨g, 0, none⟩ (n - k) (cap - k) k cap g (k * 6) (by simp [Act.eval, Act.put]) (by simp [Act.eval, Act.put]) (reps k mc ++ rest) 25 H5.out (reps (min k (n - k)) mc) H1.out H2.out H3.out H4.out w.heap.size w H6.out hbg ?_; intro w4 hg4 hb4)
      have HG5 := Aside0.mk (H7.out ▸ hg4.out)
      have HB5 := Aside0.mk hb4
      clear hg4 hb4
      go_wp2_with fail
      go_roundg (n - (k + min k (n - k)))
      case measure => omega
      case rel => exact ⟨k + min k (n - k), by omega, by omega, by omega, by refine congrArg _ ?_; rw [show Nat.min k (n - k) = min k (n - k) from rfl, IntWalk.i64_in _ (by omega)]; omega, ⟨_, H8.out, HG5.out⟩, HB5⟩
    · have x1 : ¬ (k : Int) < (n : Int) := by omega
      have hkn : k = n := by omega
      go_wp2_with fail
      go_ret
      obtain ⟨rest, _, hcu⟩ := HO.out
      rw [hkn] at hcu
      exact ⟨g, cap, rfl, hnc, reps_C (k25.K_below HB.out HMK.out) HML.out (by omega) hcu, HB.out⟩
end Go.Proofs.YtmcloifhgbehdaaGreatDoor
namespace Go.Proofs.YtmcloifhgbehdaaGreatDoor
open Go.RowKit Go.Proofs.YtmcloifhgbehdaaGreatDoorW.PrintWords Go.Proofs.YtmcloifhgbehdaaGreatDoorW.PrintLast Go.Proofs.YtmcloifhgbehdaaGreatDoorW.PrintMore Go.Proofs.YtmcloifhgbehdaaGreatDoor.PBasesSteps
set_option linter.unusedVariables false
set_option linter.unusedSimpArgs false
set_option maxHeartbeats 2000000 in
set_option maxRecDepth 100000 in
theorem unionMay1_ok (m : S25) (A4 A5 : Option Addr) (c4 c5 : Nat) (w : World) (l4 : m.f4.length ≤ c4) (g4 : Kd.C (Kd.slice 3 (Kd.int .i64)) w A4 m.f4.length m.f4) (l5 : m.f5.length ≤ c5) (g5 : Kd.C k25 w A5 m.f5.length m.f5) (hok : goodD 4 m = true) (b : Nat) (B : Option Addr) (k c : Nat) (l : List S25) (hl : 1 ≤ l.length) (h1 : w.cell? ⟨b, 0, none⟩ = some (.slice B l.length c)) (hr : Kd.C k25 w B l.length l) (hN : m.f1 = (l[0]'(by omega)).f1) :
    Calls Tryz.prog 143 #[.agg #[.int .i64 m.f0, .int .i64 m.f1, .int .i64 m.f2, .int .i64 m.f3, .slice A4 m.f4.length c4, .slice A5 m.f5.length c5], .pointer (some ⟨b, 0, none⟩)] w fun e w' => e = .returned (.bool false) ∧ Below w.heap.size w w' := by
  have hu25 := Tryz.underlying25
  have hcheck := Aside0.mk (fun W (hW : Below w.heap.size w W) => Check_ok m A4 A5 c4 c5 W l4 (Kd.C_below g4 hW) l5 (Kd.C_below g5 hW) hok)
  obtain ⟨ad, B4, d4, B5, d5, rfl, e0, e1, _⟩ := at_mat hr 0 (by omega)
  rw [← hN, Nat.zero_mul] at e1
  simp only [Addr.add_zero'] at e1
  have H1 := Aside0.mk h1
  have E1 := Aside0.mk e1
  have hb1 : (0 : Int) < (l.length : Int) := by omega
  clear g4 g5 l4 l5 hok hr h1 e0 e1 hN
  go_enter Tryz.func143, Tryz.ntmps143
  go_wp2_with fail
  have BK0 := Aside0.mk (blk_new w (.cells #[.int .i64 m.f0, .int .i64 m.f1, .int .i64 m.f2, .int .i64 m.f3, .slice A4 m.f4.length c4, .slice A5 m.f5.length c5] 25))
  have HB0 := Aside0.mk (below_alloc (Below.refl w.heap.size w) (.cells #[.int .i64 m.f0, .int .i64 m.f1, .int .i64 m.f2, .int .i64 m.f3, .slice A4 m.f4.length c4, .slice A5 m.f5.length c5] 25))
  generalize w.alloc _ = W0 at BK0 HB0 ⊢
  generalize hg : w.heap.size = g at BK0 ⊢
  have HG := Aside0.mk hg
  clear hg
  have z0 : ∀ x : After W0, x.val.cell? ⟨g, 0, none⟩ = some (Value.int .i64 m.f0) := fun x => (blk_cell (blk_below x.h BK0.out) 0).trans rfl
  have z1 : ∀ x : After W0, x.val.cell? ⟨g, 1, none⟩ = some (Value.int .i64 m.f1) := fun x => (blk_cell (blk_below x.h BK0.out) 1).trans rfl
  have z2 : ∀ x : After W0, x.val.cell? ⟨g, 2, none⟩ = some (Value.int .i64 m.f2) := fun x => (blk_cell (blk_below x.h BK0.out) 2).trans rfl
  have z3 : ∀ x : After W0, x.val.cell? ⟨g, 3, none⟩ = some (Value.int .i64 m.f3) := fun x => (blk_cell (blk_below x.h BK0.out) 3).trans rfl
  have z4 : ∀ x : After W0, x.val.cell? ⟨g, 4, none⟩ = some (Value.slice A4 m.f4.length c4) := fun x => (blk_cell (blk_below x.h BK0.out) 4).trans rfl
  have z5 : ∀ x : After W0, x.val.cell? ⟨g, 5, none⟩ = some (Value.slice A5 m.f5.length c5) := fun x => (blk_cell (blk_below x.h BK0.out) 5).trans rfl
  have k1 : ∀ x : After W0, x.val.cell? ⟨b, 0, none⟩ = some (.slice (some ad) l.length c) := fun x => pw_cell_below (below_next HB0.out x.h) H1.out
  have k2 : ∀ x : After W0, x.val.cell? ⟨ad.block, ad.off + 1, none⟩ = some (.int .i64 m.f1) := fun x => pw_cell_below (below_next HB0.out x.h) E1.out
  refine region_after (by kernel_rfl) (by kernel_rfl) ?_
  repeat (go_big_quiet_step ((go_at_call 82; exact Calls.after (hcheck.out _ (below_next HB0.out (After.h _))))))
  refine wpQuiet_nil ?_
  rintro W1 ⟨xa, hxa⟩
  have hW1 : Below W0.heap.size W0 W1 := hxa ▸ xa.h
  have HB1 := Aside0.mk (below_next HB0.out hW1)
  clear hxa xa z0 z1 z2 z3 z4 z5 k1 k2 hW1
  go_wp2_with fail
  go_ret
  exact ⟨by simp, HB1.out⟩
/-- matroids that may be, of so many elements each. -/
structure MayU (n : Nat) (l : List S25) : Prop where
  one : 1 ≤ l.length
  most : l.length ≤ 8
  good : ∀ m, m ∈ l → goodD 4 m = true
  same : ∀ m, m ∈ l → m.f1 = (n : Int)
theorem good_N {d : Nat} {m : S25} (h : goodD d m = true) : 0 ≤ m.f1 ∧ m.f1 ≤ 64 ∧ 0 ≤ m.f2 ∧ m.f2 ≤ 64 := by
  cases d with
  | zero => simp [goodD] at h
  | succ d =>
    simp only [goodD, Bool.and_eq_true] at h
    have h1 := h.1.1
    have h2 := h.1.2
    simp only [inB, Bool.and_eq_true, decide_eq_true_eq] at h1 h2
    omega
theorem MayU.n64 {n : Nat} {l : List S25} (h : MayU n l) : n ≤ 64 := by
  have h0 : 0 < l.length := by have := h.one; omega
  have h1 := h.good l[0] (List.getElem_mem h0)
  have h2 := h.same l[0] (List.getElem_mem h0)
  have := good_N h1
  omega
set_option maxHeartbeats 2000000 in
set_option maxRecDepth 100000 in
theorem unionMay_ok (w : World) (A : Option Addr) (c n : Nat) (l : List S25) (hM : MayU n l) (hc : l.length ≤ c) (hr : Kd.C k25 w A l.length l) :
    Calls Tryz.prog 106 #[.slice A l.length c] w fun e w' => e = .returned (.bool true) ∧ Below w.heap.size w w' := by
  have hmf := run_makeFunc
  have hn := Kd.C_max hr
  have h1 := hM.one
  have h8 := hM.most
  have d1 : decide ((1 : Int) ≤ (l.length : Int)) = true := decide_eq_true (by omega)
  have d2 : decide ((l.length : Int) ≤ 8) = true := decide_eq_true (by omega)
  have d3 : decide (1 ≤ l.length) = true := decide_eq_true (by omega)
  have d4 : decide (l.length ≤ 8) = true := decide_eq_true (by omega)
  have hE : ∃ E : Nat → Nat → Value, ∀ j, j < l.length → ∃ ad B4 d4 B5 d5, A = some ad ∧ (w.cell? (ad.add (j * 6)) = some (E 0 j) ∧ w.cell? ⟨(ad.add (j * 6)).block, (ad.add (j * 6)).off + 1, none⟩ = some (E 1 j) ∧ w.cell? ⟨(ad.add (j * 6)).block, (ad.add (j * 6)).off + 2, none⟩ = some (E 2 j) ∧ w.cell? ⟨(ad.add (j * 6)).block, (ad.add (j * 6)).off + 3, none⟩ = some (E 3 j) ∧ w.cell? ⟨(ad.add (j * 6)).block, (ad.add (j * 6)).off + 4, none⟩ = some (E 4 j) ∧ w.cell? ⟨(ad.add (j * 6)).block, (ad.add (j * 6)).off + 5, none⟩ = some (E 5 j)) ∧
      (Value.agg #[E 0 j, E 1 j, E 2 j, E 3 j, E 4 j, E 5 j] = .agg #[.int .i64 (rd_T25 l (j : Int)).f0, .int .i64 (rd_T25 l (j : Int)).f1, .int .i64 (rd_T25 l (j : Int)).f2, .int .i64 (rd_T25 l (j : Int)).f3, .slice B4 (rd_T25 l (j : Int)).f4.length d4, .slice B5 (rd_T25 l (j : Int)).f5.length d5]) ∧ (rd_T25 l (j : Int)).f4.length ≤ d4 ∧ Kd.C (Kd.slice 3 (Kd.int .i64)) w B4 (rd_T25 l (j : Int)).f4.length (rd_T25 l (j : Int)).f4 ∧ (rd_T25 l (j : Int)).f5.length ≤ d5 ∧ Kd.C k25 w B5 (rd_T25 l (j : Int)).f5.length (rd_T25 l (j : Int)).f5 := by
    have : ∀ j, ∃ e : Nat → Value, j < l.length → ∃ ad B4 d4 B5 d5, A = some ad ∧ (w.cell? (ad.add (j * 6)) = some (e 0) ∧ w.cell? ⟨(ad.add (j * 6)).block, (ad.add (j * 6)).off + 1, none⟩ = some (e 1) ∧ w.cell? ⟨(ad.add (j * 6)).block, (ad.add (j * 6)).off + 2, none⟩ = some (e 2) ∧ w.cell? ⟨(ad.add (j * 6)).block, (ad.add (j * 6)).off + 3, none⟩ = some (e 3) ∧ w.cell? ⟨(ad.add (j * 6)).block, (ad.add (j * 6)).off + 4, none⟩ = some (e 4) ∧ w.cell? ⟨(ad.add (j * 6)).block, (ad.add (j * 6)).off + 5, none⟩ = some (e 5)) ∧
      (Value.agg #[e 0, e 1, e 2, e 3, e 4, e 5] = .agg #[.int .i64 (rd_T25 l (j : Int)).f0, .int .i64 (rd_T25 l (j : Int)).f1, .int .i64 (rd_T25 l (j : Int)).f2, .int .i64 (rd_T25 l (j : Int)).f3, .slice B4 (rd_T25 l (j : Int)).f4.length d4, .slice B5 (rd_T25 l (j : Int)).f5.length d5]) ∧ (rd_T25 l (j : Int)).f4.length ≤ d4 ∧ Kd.C (Kd.slice 3 (Kd.int .i64)) w B4 (rd_T25 l (j : Int)).f4.length (rd_T25 l (j : Int)).f4 ∧ (rd_T25 l (j : Int)).f5.length ≤ d5 ∧ Kd.C k25 w B5 (rd_T25 l (j : Int)).f5.length (rd_T25 l (j : Int)).f5 := by
      intro j
      by_cases hj : j < l.length
      · obtain ⟨ad, B4, d4, B5, d5, e, h0, h1, h2, h3, h4, h5, l4, r4, l5, r5⟩ := at_T25 hr (j : Int) (by omega) (by omega)
        simp only [Int.toNat_natCast] at h0 h1 h2 h3 h4 h5
        exact ⟨fun i => match i with | 0 => _ | 1 => _ | 2 => _ | 3 => _ | 4 => _ | _ => _, fun _ => ⟨ad, B4, d4, B5, d5, e, ⟨h0, h1, h2, h3, h4, h5⟩, rfl, l4, r4, l5, r5⟩⟩
      · exact ⟨fun _ => undef, fun h => absurd h hj⟩
    exact ⟨fun i j => Classical.choose (this j) i, fun j hj => Classical.choose_spec (this j) hj⟩
  obtain ⟨E, hE⟩ := hE
  have HE := Aside0.mk hE
  have HR := Aside0.mk hr
  have HM := Aside0.mk hM
  clear hr hE hM
  go_enter Tryz.func106, Tryz.ntmps106
  go_wp2_with fail
  refine (ContainsFunc_mats 143 #[.pointer (some ⟨w.heap.size, 0, none⟩)] (fun _ => false) E (enters_of Tryz.func143 (by kernel_rfl) rfl) A l.length c _ ?_ hn ?_).mono ?_
  · intro W j hj hW
    obtain ⟨ad, B4, d4, B5, d5, _, _, ev, l4, r4, l5, r5⟩ := HE.out j hj
    have hbw := below_next (below_alloc (Below.refl w.heap.size w) _) hW
    have em : rd_T25 l (j : Int) = l[j] := by simp [rd_T25, List.getD_eq_getElem?_getD, hj]
    show Calls Tryz.prog _ (#[Value.agg #[E 0 j, E 1 j, E 2 j, E 3 j, E 4 j, E 5 j]] ++ _) W _
    rw [ev]
    rw [em] at l4 r4 l5 r5 ⊢
    have h0 : 0 < l.length := by omega
    exact unionMay1_ok l[j] B4 B5 d4 d5 W l4 (Kd.C_below r4 hbw) l5 (Kd.C_below r5 hbw) (HM.out.good _ (List.getElem_mem hj)) w.heap.size A 0 c l h1 ((hW.cell (by simp)).trans (by simp)) (Kd.C_below HR.out hbw) ((HM.out.same _ (List.getElem_mem hj)).trans (HM.out.same _ (List.getElem_mem h0)).symm)
  · intro j hj
    obtain ⟨ad, B4, d4, B5, d5, e, ⟨e0, e1, e2, e3, e4, e5⟩, _⟩ := HE.out j hj
    have hb : ∀ (p : Addr) (v : Value), w.cell? p = some v → (w.alloc (.cells #[.slice A l.length c] 23)).cell? p = some v := fun p v h => pw_cell_below (below_alloc (Below.refl _ _) _) h
    exact ⟨ad, e, hb _ _ e0, hb _ _ e1, hb _ _ e2, hb _ _ e3, hb _ _ e4, hb _ _ e5⟩
  have hany : (List.range l.length).any (fun _ => false) = false := by simp
  rw [hany]
  clear hany
  rintro e w' ⟨rfl, hb⟩
  have HB := Aside0.mk (below_next (below_alloc (Below.refl w.heap.size w) _) hb)
  clear hb
  go_wp2_with fail
  go_ret
  exact ⟨rfl, HB.out⟩
theorem Class_from (of : List Int) (k : Int) (hl : of.length ≤ 100000) : ∀ (d i : Nat) (acc : List Int) (K : Nat), of.length - i = d → i ≤ of.length → acc.length ≤ i → d < K →
    union_Class.l0 K k acc of (of.length : Int) (i : Int) = some (acc ++ ((List.range' i d).filter fun x : Nat => rd of (x : Int) == k).map fun x : Nat => (x : Int)) := by
  intro d
  induction d with
  | zero =>
    intro i acc K hd hi ha hK
    obtain ⟨K, rfl⟩ : ∃ K', K = K' + 1 := ⟨K - 1, by omega⟩
    simp only [union_Class.l0]
    rw [if_neg (by omega)]
    simp
  | succ d ih =>
    intro i acc K hd hi ha hK
    obtain ⟨K, rfl⟩ : ∃ K', K = K' + 1 := ⟨K - 1, by omega⟩
    simp only [union_Class.l0]
    rw [if_pos (by omega), if_pos (by omega), if_pos (by omega), wrap_succ i (by omega), List.range'_succ]
    by_cases h : rd of (i : Int) = k
    · rw [if_pos h, if_pos (by omega), ih (i + 1) _ K (by omega) (by omega) (by simp; omega) (by omega)]
      have : (rd of (i : Int) == k) = true := by simpa using h
      rw [List.filter_cons, if_pos this]
      simp
    · rw [if_neg h, ih (i + 1) _ K (by omega) (by omega) (by omega) (by omega)]
      have : ¬ (rd of (i : Int) == k) = true := by simpa using h
      rw [List.filter_cons, if_neg this]
theorem Class_any (w : World) (A : Option Addr) (c n : Nat) (of : List Int) (k : Int) (hn : of.length = n) (h64 : n ≤ 100000) (hc : n ≤ c) (hr : Kd.C (Kd.int .i64) w A n of) :
    Calls Tryz.prog 81 #[.slice A n c, .int .i64 k] w fun e w' => ∃ v : Value, e = .returned v ∧ Kd.R (Kd.int .i64) 3 w' w.heap.size (fun _ => True) v (clsL n of k) ∧ Below w.heap.size w w' := by
  subst hn
  refine union_Class.calls (of.length + 1) A c of k (clsL of.length of k) w hr hc ?_
  unfold union_Class.f clsL
  have := Class_from of k h64 of.length 0 [] (of.length + 1) (by omega) (by omega) (by simp) (by omega)
  rw [List.range_eq_range']
  simpa using this
end Go.Proofs.YtmcloifhgbehdaaGreatDoor
namespace Go.Proofs.YtmcloifhgbehdaaGreatDoor
open Go.RowKit Go.Proofs.YtmcloifhgbehdaaGreatDoorW.PrintWords Go.Proofs.YtmcloifhgbehdaaGreatDoorW.PrintLast Go.Proofs.YtmcloifhgbehdaaGreatDoorW.PrintMore Go.Proofs.YtmcloifhgbehdaaGreatDoor.PBasesSteps
set_option linter.unusedVariables false
set_option linter.unusedSimpArgs false
theorem SortR_ok (w0 w : World) (hB : Below w0.heap.size w0 w) (A : Option Addr) (c : Nat) (xs : List Int) (hn : xs.length ≤ 100000) (ho : Kd.R (Kd.int .i64) 3 w w0.heap.size (fun _ => True) (.slice A xs.length c) xs) :
    Calls Tryz.prog 128 #[.slice A xs.length c] w fun e w' => e = .returned (.tuple #[]) ∧ Kd.R (Kd.int .i64) 3 w' w0.heap.size (fun _ => True) (.slice A xs.length c) (sortI xs) ∧ Below w0.heap.size w0 w' ∧ w.grownBy w' (Value.slice A xs.length c).ownBlock := by
  have hown := Kd.own_of_R ho
  by_cases h0 : xs.length = 0
  · have e : xs = [] := List.eq_nil_of_length_eq_zero h0
    subst e
    refine (Tryz.slices_Sort_int_none A c w).mono ?_
    rintro e w' ⟨rfl, rfl⟩
    exact ⟨rfl, by simpa [sortI] using ho, hB, World.grownBy.refl _ _⟩
  · obtain ⟨h1, h2⟩ := hown
    rcases h2 with ⟨_, hx⟩ | ⟨g, cap, cur, hv, hb, hh, hnc, hcm, hcs, htake⟩
    · omega
    · injection hv with e1 e2 e3
      subst e1
      subst e3
      rw [Nat.mul_one] at htake
      have hlen : (sortI xs).length = xs.length := List.length_mergeSort xs
      refine (Tryz.slices_Sort_int g 0 c xs w (holds_of_blockI hh htake) (Array.getElem?_eq_some_iff.1 hh).1 (by omega)).mono ?_
      rintro e w' ⟨rfl, n, os, rfl⟩
      have hg := grownBy_sortedI (w := w) (g := g) (n := n) (os := os) (xs.mergeSort fun x y => decide (x ≤ y)).toArray
      refine ⟨rfl, Kd.R_of_own ?_ (fun _ _ => trivial), ?_, hg⟩
      · have := ownsRow_sortedI (n := n) (os := os) hlen hb hh hnc hcm hcs
        rw [hlen]
        exact this
      · exact hB.grown hg hB.size (fun k hk => by cases hk; exact hb)
/-- what is asked of indep.rank at a matroid: it tells this. -/
def RankAt (n : Nat) (m : S25) (rk : List Int → Int) : Prop :=
  ∀ (s : List Int) (A4 A5 : Option Addr) (c4 c5 : Nat) (B : Option Addr) (cs : Nat) (w : World) (l4 : m.f4.length ≤ c4) (g4 : Kd.C (Kd.slice 3 (Kd.int .i64)) w A4 m.f4.length m.f4) (l5 : m.f5.length ≤ c5) (g5 : Kd.C k25 w A5 m.f5.length m.f5) (hr : Kd.C (Kd.int .i64) w B s.length s) (hc : s.length ≤ cs) (hs : setN s (n : Int) = true),
    Calls Tryz.prog 97 #[.agg #[.int .i64 m.f0, .int .i64 m.f1, .int .i64 m.f2, .int .i64 m.f3, .slice A4 m.f4.length c4, .slice A5 m.f5.length c5], .slice B s.length cs] w fun e w' => e = .returned (.int .i64 (rk s)) ∧ Below w.heap.size w w'
set_option maxHeartbeats 2000000 in
set_option maxRecDepth 100000 in
theorem Indep_ok (n : Nat) (m : S25) (rk : List Int → Int) (hR : RankAt n m rk) (hn : m.f1 = (n : Int)) (s : List Int) (A4 A5 : Option Addr) (c4 c5 : Nat) (B : Option Addr) (cs : Nat) (w : World) (l4 : m.f4.length ≤ c4) (g4 : Kd.C (Kd.slice 3 (Kd.int .i64)) w A4 m.f4.length m.f4) (l5 : m.f5.length ≤ c5) (g5 : Kd.C k25 w A5 m.f5.length m.f5) (hr : Kd.C (Kd.int .i64) w B s.length s) (hc : s.length ≤ cs) (hok : goodD 4 m = true) :
    Calls Tryz.prog 158 #[.agg #[.int .i64 m.f0, .int .i64 m.f1, .int .i64 m.f2, .int .i64 m.f3, .slice A4 m.f4.length c4, .slice A5 m.f5.length c5], .slice B s.length cs] w fun e w' => e = .returned (.bool (indR n rk s)) ∧ Below w.heap.size w w' := by
  have hu25 := Tryz.underlying25
  have hmax := Kd.C_max hr
  have hmay := Aside0.mk (fun W (hW : Below w.heap.size w W) => May_ok m s A4 A5 c4 c5 B cs W l4 (Kd.C_below g4 hW) l5 (Kd.C_below g5 hW) (Kd.C_below hr hW) hc hok)
  have hrank := Aside0.mk (fun W (hW : Below w.heap.size w W) (hs : setN s (n : Int) = true) => hR s A4 A5 c4 c5 B cs W l4 (Kd.C_below g4 hW) l5 (Kd.C_below g5 hW) (Kd.C_below hr hW) hc hs)
  obtain ⟨T, hT⟩ : ∃ T, indR n rk s = T := ⟨_, rfl⟩
  rw [hT]
  have HT := Aside0.mk hT
  clear g4 g5 l4 l5 hr hc hok hR hT
  cases hs : setN s m.f1 with
  | true =>
    rw [hs] at hmay
    have HS : Aside0 (setN s (n : Int) = true) := ⟨hn ▸ hs⟩
    have HE : Aside0 ((rk s == (s.length : Int)) = T) := ⟨by rw [← HT.out]; unfold indR; rw [HS.out, Bool.true_and]; rfl⟩
    clear hs hn HT
    generalize rk s = r at *
    go_enter Tryz.func158, Tryz.ntmps158
    go_wp2_with fail
    have BK0 := Aside0.mk (blk_new w (.cells #[.int .i64 m.f0, .int .i64 m.f1, .int .i64 m.f2, .int .i64 m.f3, .slice A4 m.f4.length c4, .slice A5 m.f5.length c5] 25))
    have HB0 := Aside0.mk (below_alloc (Below.refl w.heap.size w) (.cells #[.int .i64 m.f0, .int .i64 m.f1, .int .i64 m.f2, .int .i64 m.f3, .slice A4 m.f4.length c4, .slice A5 m.f5.length c5] 25))
    generalize w.alloc _ = W0 at BK0 HB0 ⊢
    generalize hg : w.heap.size = g at BK0 ⊢
    have HG := Aside0.mk hg
    clear hg
    refine (hmay.out _ HB0.out).mono ?_
    rintro e w1 ⟨rfl, hb⟩
    have BK1 := Aside0.mk (blk_below hb BK0.out)
    have HB1 := Aside0.mk (below_next HB0.out hb)
    clear hb
    have z0 : _ = some (Value.int .i64 m.f0) := (blk_cell BK1.out 0).trans rfl
    have z1 : _ = some (Value.int .i64 m.f1) := (blk_cell BK1.out 1).trans rfl
    have z2 : _ = some (Value.int .i64 m.f2) := (blk_cell BK1.out 2).trans rfl
    have z3 : _ = some (Value.int .i64 m.f3) := (blk_cell BK1.out 3).trans rfl
    have z4 : _ = some (Value.slice A4 m.f4.length c4) := (blk_cell BK1.out 4).trans rfl
    have z5 : _ = some (Value.slice A5 m.f5.length c5) := (blk_cell BK1.out 5).trans rfl
    go_wp2_with fail
    refine (hrank.out _ HB1.out HS.out).mono ?_
    rintro e w2 ⟨rfl, hb⟩
    have HB2 := Aside0.mk (below_next HB1.out hb)
    clear hb z0 z1 z2 z3 z4 z5
    go_wp2_with fail
    go_ret
    exact ⟨by rw [← HE.out]; rfl, HB2.out⟩
  | false =>
    rw [hs] at hmay
    have HE : Aside0 (T = false) := ⟨by rw [← HT.out]; unfold indR; rw [← hn, hs]; rfl⟩
    rw [HE.out]
    clear hs hn HT HE
    go_enter Tryz.func158, Tryz.ntmps158
    go_wp2_with fail
    have BK0 := Aside0.mk (blk_new w (.cells #[.int .i64 m.f0, .int .i64 m.f1, .int .i64 m.f2, .int .i64 m.f3, .slice A4 m.f4.length c4, .slice A5 m.f5.length c5] 25))
    have HB0 := Aside0.mk (below_alloc (Below.refl w.heap.size w) (.cells #[.int .i64 m.f0, .int .i64 m.f1, .int .i64 m.f2, .int .i64 m.f3, .slice A4 m.f4.length c4, .slice A5 m.f5.length c5] 25))
    generalize w.alloc _ = W0 at BK0 HB0 ⊢
    generalize hg : w.heap.size = g at BK0 ⊢
    have HG := Aside0.mk hg
    clear hg
    refine (hmay.out _ HB0.out).mono ?_
    rintro e w1 ⟨rfl, hb⟩
    have HB1 := Aside0.mk (below_next HB0.out hb)
    clear hb
    go_wp2_with fail
    go_ret
    exact ⟨rfl, HB1.out⟩
set_option maxHeartbeats 2000000 in
set_option maxRecDepth 100000 in
theorem iRank_ok (n : Nat) (m : S25) (rk : List Int → Int) (hR : RankAt n m rk) (hn : m.f1 = (n : Int)) (s : List Int) (A4 A5 : Option Addr) (c4 c5 : Nat) (B : Option Addr) (cs : Nat) (w : World) (l4 : m.f4.length ≤ c4) (g4 : Kd.C (Kd.slice 3 (Kd.int .i64)) w A4 m.f4.length m.f4) (l5 : m.f5.length ≤ c5) (g5 : Kd.C k25 w A5 m.f5.length m.f5) (hr : Kd.C (Kd.int .i64) w B s.length s) (hc : s.length ≤ cs) (hok : goodD 4 m = true) (hs : setN s (n : Int) = true) :
    Calls Tryz.prog 56 #[.agg #[.int .i64 m.f0, .int .i64 m.f1, .int .i64 m.f2, .int .i64 m.f3, .slice A4 m.f4.length c4, .slice A5 m.f5.length c5], .slice B s.length cs] w fun e w' => e = .returned (.int .i64 (rk s)) ∧ Below w.heap.size w w' := by
  have hu25 := Tryz.underlying25
  have hmax := Kd.C_max hr
  have hmay := Aside0.mk (fun W (hW : Below w.heap.size w W) => May_ok m s A4 A5 c4 c5 B cs W l4 (Kd.C_below g4 hW) l5 (Kd.C_below g5 hW) (Kd.C_below hr hW) hc hok)
  have hrank := Aside0.mk (fun W (hW : Below w.heap.size w W) => hR s A4 A5 c4 c5 B cs W l4 (Kd.C_below g4 hW) l5 (Kd.C_below g5 hW) (Kd.C_below hr hW) hc hs)
  rw [hn, hs, ← hn] at hmay
  clear g4 g5 l4 l5 hr hc hok hR hs hn
  generalize rk s = r at *
  go_enter Tryz.func56, Tryz.ntmps56
  go_wp2_with fail
  have BK0 := Aside0.mk (blk_new w (.cells #[.int .i64 m.f0, .int .i64 m.f1, .int .i64 m.f2, .int .i64 m.f3, .slice A4 m.f4.length c4, .slice A5 m.f5.length c5] 25))
  have HB0 := Aside0.mk (below_alloc (Below.refl w.heap.size w) (.cells #[.int .i64 m.f0, .int .i64 m.f1, .int .i64 m.f2, .int .i64 m.f3, .slice A4 m.f4.length c4, .slice A5 m.f5.length c5] 25))
  generalize w.alloc _ = W0 at BK0 HB0 ⊢
  generalize hg : w.heap.size = g at BK0 ⊢
  have HG := Aside0.mk hg
  clear hg
  refine (hmay.out _ HB0.out).mono ?_
  rintro e w1 ⟨rfl, hb⟩
  have BK1 := Aside0.mk (blk_below hb BK0.out)
  have HB1 := Aside0.mk (below_next HB0.out hb)
  clear hb
  have z0 : _ = some (Value.int .i64 m.f0) := (blk_cell BK1.out 0).trans rfl
  have z1 : _ = some (Value.int .i64 m.f1) := (blk_cell BK1.out 1).trans rfl
  have z2 : _ = some (Value.int .i64 m.f2) := (blk_cell BK1.out 2).trans rfl
  have z3 : _ = some (Value.int .i64 m.f3) := (blk_cell BK1.out 3).trans rfl
  have z4 : _ = some (Value.slice A4 m.f4.length c4) := (blk_cell BK1.out 4).trans rfl
  have z5 : _ = some (Value.slice A5 m.f5.length c5) := (blk_cell BK1.out 5).trans rfl
  go_wp2_with fail
  refine (hrank.out _ HB1.out).mono ?_
  rintro e w2 ⟨rfl, hb⟩
  have HB2 := Aside0.mk (below_next HB1.out hb)
  clear hb z0 z1 z2 z3 z4 z5
  go_wp2_with fail
  go_ret
  exact ⟨rfl, HB2.out⟩
end Go.Proofs.YtmcloifhgbehdaaGreatDoor
namespace Go.Proofs.YtmcloifhgbehdaaGreatDoor
open Go.RowKit Go.Proofs.YtmcloifhgbehdaaGreatDoorW.PrintWords Go.Proofs.YtmcloifhgbehdaaGreatDoorW.PrintLast Go.Proofs.YtmcloifhgbehdaaGreatDoorW.PrintMore Go.Proofs.YtmcloifhgbehdaaGreatDoor.PBasesSteps
set_option linter.unusedVariables false
set_option linter.unusedSimpArgs false
/-- ranks of a row of matroids. -/
def rks (rk : S25 → List Int → Int) (l : List S25) (k : Nat) : List Int → Int := rk (rd_T25 l (k : Int))
theorem cls_len (n : Nat) (of : List Int) (k : Int) : (clsL n of k).length ≤ n := by
  unfold clsL
  rw [List.length_map]
  exact Nat.le_trans (List.length_filter_le _ _) (by simp)
theorem Union_one (a : List Int) (x : Int) (A B : Option Addr) (ca cb : Nat) (w : World) (hra : Kd.C (Kd.int .i64) w A a.length a) (hca : a.length ≤ ca) (hrb : Kd.C (Kd.int .i64) w B 1 [x]) (hcb : 1 ≤ cb)
    (ha : mayB a = true) (hb : mayB [x] = true) (hs : a.length < 100000) :
    Calls Tryz.prog 131 #[.slice A a.length ca, .slice B 1 cb] w fun e w' => ∃ v : Value, e = .returned v ∧ Kd.R (Kd.int .i64) 3 w' w.heap.size (fun _ => True) v (uniL a [x]) ∧ Below w.heap.size w w' :=
  Union_any a [x] A B ca cb w hra hca hrb hcb ha hb (by simp; omega)
theorem Minus_one (a : List Int) (x : Int) (A B : Option Addr) (ca cb : Nat) (w : World) (hra : Kd.C (Kd.int .i64) w A a.length a) (hca : a.length ≤ ca) (hrb : Kd.C (Kd.int .i64) w B 1 [x]) (hcb : 1 ≤ cb)
    (ha : mayB a = true) (hb : mayB [x] = true) (hs : a.length < 100000) :
    Calls Tryz.prog 57 #[.slice A a.length ca, .slice B 1 cb] w fun e w' => ∃ v : Value, e = .returned v ∧ Kd.R (Kd.int .i64) 3 w' w.heap.size (fun _ => True) v (minL a [x]) ∧ Below w.heap.size w w' :=
  Minus_any a [x] A B ca cb w hra hca hrb hcb ha hb (by simp; omega)
/-- two rows of one's own: behind a write into the one the other lies as it lay. -/
theorem two_rows {W w1 : World} {base : Nat} {v v1 vE : Value} {xs : List Int} (hE : Kd.R (Kd.int .i64) 3 W base (fun q => v.ownBlock ≠ some q) vE xs) (hg : W.grownBy w1 v.ownBlock) (hat : v1.ownBlock = v.ownBlock ∨ ∃ b, v1.ownBlock = some b ∧ W.heap.size ≤ b) :
    Kd.R (Kd.int .i64) 3 w1 base (fun q => v1.ownBlock ≠ some q) vE xs := by
  refine Kd.R_mono (Kd.R_grown (Kd.R_bound hE) hg (fun k hk e => hk.1 e.symm)) (fun k hk e => ?_)
  rcases hat with h | ⟨b, h, hb⟩
  · exact hk.1 (h ▸ e)
  · rw [h] at e
    injection e with e
    have := hk.2.2.1
    omega
theorem row_kept {W w1 : World} {base : Nat} {v v1 vE : Value} {xs : List Int} {Pk : Nat → Prop} (hE : Kd.R (Kd.int .i64) 3 W base (fun q => v.ownBlock ≠ some q ∧ Pk q) vE xs) (hg : W.grownBy w1 v.ownBlock) (hat : v1.ownBlock = v.ownBlock ∨ ∃ b, v1.ownBlock = some b ∧ W.heap.size ≤ b) :
    Kd.R (Kd.int .i64) 3 w1 base (fun q => v1.ownBlock ≠ some q ∧ Pk q) vE xs := by
  refine Kd.R_mono (Kd.R_grown (Kd.R_bound hE) hg (fun k hk e => hk.1.1 e.symm)) (fun k hk => ⟨fun e => ?_, hk.1.2⟩)
  rcases hat with h | ⟨b, h, hb⟩
  · exact hk.1.1 (h ▸ e)
  · rw [h] at e
    injection e with e
    have := hk.2.2.1
    omega
theorem ne_kept {W w1 : World} {v v1 : Value} {g : Nat} {o : Obj} (h : W.heap[g]? = some o) (hne : v.ownBlock ≠ some g) (hg : W.grownBy w1 v.ownBlock) (hat : v1.ownBlock = v.ownBlock ∨ ∃ b, v1.ownBlock = some b ∧ W.heap.size ≤ b) : w1.heap[g]? = some o ∧ v1.ownBlock ≠ some g := by
  have hlt := (Array.getElem?_eq_some_iff.1 h).1
  refine ⟨(hg.block g hlt (fun e => hne e.symm)).trans h, fun e => ?_⟩
  rcases hat with h1 | ⟨b, h1, hb⟩
  · exact hne (h1 ▸ e)
  · rw [h1] at e
    injection e with e
    omega
/-- the two rows that grow, the class that is gone through, the matroid's box. -/
structure ArcAt (w W : World) (g : Nat) (o : Obj) (s5 s6 vC : Value) (outs ends L : List Int) : Prop where
  out : Kd.R (Kd.int .i64) 3 W w.heap.size (fun q => s6.ownBlock ≠ some q) s5 outs
  ends : Kd.R (Kd.int .i64) 3 W w.heap.size (fun q => s5.ownBlock ≠ some q) s6 ends
  cls : Kd.R (Kd.int .i64) 3 W w.heap.size (fun q => s5.ownBlock ≠ some q ∧ s6.ownBlock ≠ some q) vC L
  box : W.heap[g]? = some o
  ne5 : s5.ownBlock ≠ some g
  ne6 : s6.ownBlock ≠ some g
  below : Below w.heap.size w W
theorem ArcAt.later {w W W' : World} {g : Nat} {o : Obj} {s5 s6 vC : Value} {outs ends L : List Int} (h : ArcAt w W g o s5 s6 vC outs ends L) (hb : Below W.heap.size W W') : ArcAt w W' g o s5 s6 vC outs ends L :=
  ⟨Kd.R_below h.out hb, Kd.R_below h.ends hb, Kd.R_below h.cls hb, blk_below hb h.box, h.ne5, h.ne6, below_then h.below h.below.size hb⟩
theorem ArcAt.push6 {w W w1 : World} {g : Nat} {o : Obj} {s5 s6 v1 vC : Value} {outs ends ends1 L : List Int} (h : ArcAt w W g o s5 s6 vC outs ends L) (hr : Kd.R (Kd.int .i64) 3 w1 w.heap.size (fun q => s5.ownBlock ≠ some q) v1 ends1) (hb : Below w.heap.size w w1) (hg : W.grownBy w1 s6.ownBlock) (hat : v1.ownBlock = s6.ownBlock ∨ ∃ b, v1.ownBlock = some b ∧ W.heap.size ≤ b) :
    ArcAt w w1 g o s5 v1 vC outs ends1 L := by
  obtain ⟨h1, h2⟩ := ne_kept h.box h.ne6 hg hat
  exact ⟨two_rows h.out hg hat, hr, Kd.R_mono (row_kept (Kd.R_mono h.cls (fun q hq => ⟨hq.2, hq.1⟩)) hg hat) (fun q hq => ⟨hq.2, hq.1⟩), h1, h.ne5, h2, hb⟩
theorem ArcAt.push5 {w W w1 : World} {g : Nat} {o : Obj} {s5 s6 v1 vC : Value} {outs outs1 ends L : List Int} (h : ArcAt w W g o s5 s6 vC outs ends L) (hr : Kd.R (Kd.int .i64) 3 w1 w.heap.size (fun q => s6.ownBlock ≠ some q) v1 outs1) (hb : Below w.heap.size w w1) (hg : W.grownBy w1 s5.ownBlock) (hat : v1.ownBlock = s5.ownBlock ∨ ∃ b, v1.ownBlock = some b ∧ W.heap.size ≤ b) :
    ArcAt w w1 g o v1 s6 vC outs1 ends L := by
  obtain ⟨h1, h2⟩ := ne_kept h.box h.ne5 hg hat
  exact ⟨hr, two_rows h.ends hg hat, row_kept h.cls hg hat, h1, h2, h.ne6, hb⟩
theorem outsL_len (n : Nat) (ind : Nat → List Int → Bool) (of : List Int) (x : Int) : ∀ K, (outsL n ind of x K).length ≤ n * K
  | 0 => Nat.zero_le _
  | K + 1 => by
    rw [outsL, List.length_append, Nat.mul_succ]
    have h1 := outsL_len n ind of x K
    have h2 : (outK n (ind K) of x K).length ≤ n := by
      rw [outK]
      split
      · exact Nat.zero_le _
      · exact Nat.le_trans (List.length_filter_le _ _) (cls_len n of K)
    omega
theorem endsL_len (n : Nat) (ind : Nat → List Int → Bool) (of : List Int) (x : Int) : ∀ K, (endsL n ind of x K).length ≤ K
  | 0 => Nat.le_refl _
  | K + 1 => by
    rw [endsL, List.length_append]
    have h1 := endsL_len n ind of x K
    have h2 : (endK n (ind K) of x K).length ≤ 1 := by
      rw [endK]
      split
      · exact Nat.zero_le _
      · split
        · exact Nat.le_refl _
        · exact Nat.zero_le _
    omega
set_option maxHeartbeats 4000000 in
set_option maxRecDepth 100000 in
theorem arcs_ok (w : World) (P : Nat) (A O : Option Addr) (c co n : Nat) (l : List S25) (of : List Int) (rk : S25 → List Int → Int) (hM : MayU n l) (hR : ∀ m, m ∈ l → RankAt n m (rk m))
    (h0 : w.cell? ⟨P, 0, none⟩ = some (.slice A l.length c)) (h1 : w.cell? ⟨P, 1, none⟩ = some (.int .i64 n)) (h2 : w.cell? ⟨P, 2, none⟩ = some (.slice O n co))
    (hl : Kd.C k25 w A l.length l) (hn : of.length = n) (hco : n ≤ co) (hof : Kd.C (Kd.int .i64) w O n of) (x : Nat) (hx : x < n) :
    Calls Tryz.prog 144 #[.pointer (some ⟨P, 0, none⟩), .int .i64 x] w fun e w' => ∃ v, e = .returned v ∧ Kd.R (Kd.int .i64) 3 w' w.heap.size (fun _ => True) v (arcsF n (inds n (rks rk l)) of l.length (x : Int)) ∧ Below w.heap.size w w' := by
  have hu25 := Tryz.underlying25
  have h64 := hM.n64
  have h8 := hM.most
  have HM := Aside0.mk hM
  have HRK := Aside0.mk hR
  have HL := Aside0.mk hl
  have HOF := Aside0.mk hof
  have HN := Aside0.mk hn
  have C0 := Aside0.mk h0
  have C1 := Aside0.mk h1
  have C2 := Aside0.mk h2
  clear hM hR hl hof hn h1 h2
  go_enter Tryz.func144, Tryz.ntmps144
  go_wp2_with fail
  clear h0
  go_loopg [5, 6, 17] l.length (fun gg s5 s6 s17 wr => ∃ k : Nat, k + gg = l.length ∧ s17 = .int .i64 k ∧ Aside0 (Kd.R (Kd.int .i64) 3 wr w.heap.size (fun q => s6.ownBlock ≠ some q) s5 (outsL n (inds n (rks rk l)) of (x : Int) k)) ∧ Aside0 (Kd.R (Kd.int .i64) 3 wr w.heap.size (fun q => s5.ownBlock ≠ some q) s6 (endsL n (inds n (rks rk l)) of (x : Int) k)) ∧ Aside0 (Below w.heap.size w wr))
  case atStart => exact ⟨0, by omega, rfl, ⟨Kd.R_nil _ _ _ _ _⟩, ⟨Kd.R_nil _ _ _ _ _⟩, ⟨Below.refl _ _⟩⟩
  case round =>
    obtain ⟨k, hgg, rfl, HO, HE, HB⟩ := hrel
    by_cases hk : k < l.length
    · have x1 : (k : Int) < (l.length : Int) := by omega
      have x2 : (0 : Int) ≤ (k : Int) := by omega
      obtain ⟨ad, A4, c4, A5, c5, rfl, e0, e1, e2, e3, e4, e5, l4, r4, l5, r5⟩ := at_mat HL.out k hk
      have e6 := pw_cell_below HB.out C2.out
      have hxn : (x : Int) < (n : Int) := by omega
      have hx0 : (0 : Int) ≤ (x : Int) := by omega
      obtain ⟨bd, rfl, e7⟩ := Kd.at_int HOF.out (x : Int) hx0 hxn
      rw [Int.toNat_natCast] at e7
      replace e7 := pw_cell_below HB.out e7
      replace e0 := pw_cell_below HB.out e0
      replace e1 := pw_cell_below HB.out e1
      replace e2 := pw_cell_below HB.out e2
      replace e3 := pw_cell_below HB.out e3
      replace e4 := pw_cell_below HB.out e4
      replace e5 := pw_cell_below HB.out e5
      generalize hmk : l[k] = mk at *
      generalize hxy : rd of (x : Int) = y at *
      have HY : Aside0 (rd of (x : Int) = y) := ⟨hxy⟩
      have HMK : Aside0 (rd_T25 l (k : Int) = mk) := ⟨by rw [← hmk]; simp [rd_T25, List.getD_eq_getElem?_getD, hk]⟩
      have HMEM : Aside0 (mk ∈ l) := ⟨hmk ▸ List.getElem_mem hk⟩
      have R4 := Aside0.mk r4
      have R5 := Aside0.mk r5
      clear hmk hxy r4 r5
      go_upto_region 5 with (fail)
      have hbw := below_alloc (Below.refl wr.heap.size wr) (.cells #[.int .i64 mk.f0, .int .i64 mk.f1, .int .i64 mk.f2, .int .i64 mk.f3, .slice A4 mk.f4.length c4, .slice A5 mk.f5.length c5] 25)
      have BK0 := Aside0.mk (blk_new wr (.cells #[.int .i64 mk.f0, .int .i64 mk.f1, .int .i64 mk.f2, .int .i64 mk.f3, .slice A4 mk.f4.length c4, .slice A5 mk.f5.length c5] 25))
      have HOo := HO
      have HEo := HE
      replace HO := Aside0.mk (Kd.R_below HO.out hbw)
      replace HE := Aside0.mk (Kd.R_below HE.out hbw)
      replace e6 := pw_cell_below hbw e6
      replace e7 := pw_cell_below hbw e7
      have HB0 := Aside0.mk (below_then HB.out HB.out.size hbw)
      have hg56 : u5.ownBlock ≠ some wr.heap.size ∧ u6.ownBlock ≠ some wr.heap.size := ⟨fun e => absurd (Kd.R_lt HOo.out _ e) (Nat.lt_irrefl _), fun e => absurd (Kd.R_lt HEo.out _ e) (Nat.lt_irrefl _)⟩
      clear hbw e0 e1 e2 e3 e4 e5 HOo HEo
      generalize wr.alloc _ = W0 at *
      generalize wr.heap.size = g at *
      by_cases hy : y = (k : Int)
      · have hy2 : (y == (k : Int)) = true := by simpa using hy
        have hO1 : outsL n (inds n (rks rk l)) of (x : Int) (k + 1) = outsL n (inds n (rks rk l)) of (x : Int) k := by
          rw [outsL, outK, if_pos (HY.out.trans hy), List.append_nil]
        have hE1 : endsL n (inds n (rks rk l)) of (x : Int) (k + 1) = endsL n (inds n (rks rk l)) of (x : Int) k := by
          rw [endsL, endK, if_pos (HY.out.trans hy), List.append_nil]
        rw [← hO1] at HO
        rw [← hE1] at HE
        clear hO1 hE1
        go_wp2_with fail
        go_roundg (l.length - (k + 1))
        case measure => omega
        case rel => exact ⟨k + 1, by omega, by go_num, HO, HE, HB0⟩
      · have hy2 : (y == (k : Int)) = false := by simpa using hy
        go_wp2_with fail
        have h5g : u5.ownBlock ≠ some g ∧ u6.ownBlock ≠ some g := hg56
        refine (Class_any W0 (some bd) co n of (k : Int) HN.out (by omega) hco (Kd.C_below HOF.out HB0.out)).mono ?_
        rintro e w1 ⟨vC, rfl, hC, hb1⟩
        obtain ⟨AC, cC, rfl⟩ := slice_of (n := (clsL n of (k : Int)).length) hC rfl
        obtain ⟨_, hcc, hCC⟩ := Kd.R_reads' hC
        have hLn := cls_len n of (k : Int)
        have hLs := clsL_set n (by omega) of (k : Int)
        obtain ⟨L, hL⟩ : ∃ L, clsL n of (k : Int) = L := ⟨_, rfl⟩
        rw [hL] at hC hcc hCC hLn hLs
        rw [hL]
        have HL1 := Aside0.mk hL
        have HLS := Aside0.mk hLs
        have HA1 : Aside0 (ArcAt w w1 g (.cells #[.int .i64 mk.f0, .int .i64 mk.f1, .int .i64 mk.f2, .int .i64 mk.f3, .slice A4 mk.f4.length c4, .slice A5 mk.f5.length c5] 25) u5 u6 (.slice AC L.length cC) (outsL n (inds n (rks rk l)) of (x : Int) k) (endsL n (inds n (rks rk l)) of (x : Int) k) L) :=
          ⟨Kd.R_below HO.out hb1, Kd.R_below HE.out hb1, Kd.R_mono (Kd.R_lower (Kd.R_bound hC) HB0.out.size) (fun q hq => ⟨fun e => by have := Kd.R_lt HO.out q e; have := hq.2.1; omega, fun e => by have := Kd.R_lt HE.out q e; have := hq.2.1; omega⟩), blk_below hb1 BK0.out, h5g.1, h5g.2, below_then HB0.out HB0.out.size hb1⟩
        have HCC := Aside0.mk hCC
        have R41 := Aside0.mk (Kd.C_below R4.out HA1.out.below)
        have R51 := Aside0.mk (Kd.C_below R5.out HA1.out.below)
        have BK1 := Aside0.mk HA1.out.box
        have z0 : _ = some (Value.int .i64 mk.f0) := (blk_cell BK1.out 0).trans rfl
        have z1 : _ = some (Value.int .i64 mk.f1) := (blk_cell BK1.out 1).trans rfl
        have z2 : _ = some (Value.int .i64 mk.f2) := (blk_cell BK1.out 2).trans rfl
        have z3 : _ = some (Value.int .i64 mk.f3) := (blk_cell BK1.out 3).trans rfl
        have z4 : _ = some (Value.slice A4 mk.f4.length c4) := (blk_cell BK1.out 4).trans rfl
        have z5 : _ = some (Value.slice A5 mk.f5.length c5) := (blk_cell BK1.out 5).trans rfl
        clear hL hLs hC hCC hb1 HO HE BK0 HB0 e6 e7 h5g hg56
        go_wp2_with fail
        have HA2 := Aside0.mk (below_drew (below_alloc (Below.refl w1.heap.size w1) (.cells #[.int .i64 (x : Int)] 3 (0, 0))))
        have HX2 := Aside0.mk (Kd.C_drew (C_one (W := w1.alloc (.cells #[.int .i64 (x : Int)] 3 (0, 0))) ((blk_cell (blk_new w1 (.cells #[.int .i64 (x : Int)] 3 (0, 0))) 0).trans rfl)))
        have HXS := Aside0.mk (setN_one (x := (x : Int)) (n := (n : Int)) hx0 hxn (by omega))
        have HIN := Aside0.mk (fun (U : List Int) (B : Option Addr) (cs : Nat) (W : World) (hW : Below w.heap.size w W) (hr : Kd.C (Kd.int .i64) W B U.length U) (hc : U.length ≤ cs) => Indep_ok n mk (rk mk) (HRK.out mk HMEM.out) (HM.out.same mk HMEM.out) U A4 A5 c4 c5 B cs W l4 (Kd.C_below R4.out hW) l5 (Kd.C_below R5.out hW) hr hc (HM.out.good mk HMEM.out))
        obtain ⟨U, hU⟩ : ∃ U, uniL L [(x : Int)] = U := ⟨_, rfl⟩
        have HU := Aside0.mk hU
        clear hU
        go_region_held3 (fun W => W.cell? ⟨g, 0, none⟩ = some (.int .i64 mk.f0) ∧ W.cell? ⟨g, 1, none⟩ = some (.int .i64 mk.f1) ∧ W.cell? ⟨g, 2, none⟩ = some (.int .i64 mk.f2) ∧ W.cell? ⟨g, 3, none⟩ = some (.int .i64 mk.f3) ∧ W.cell? ⟨g, 4, none⟩ = some (.slice A4 mk.f4.length c4) ∧ W.cell? ⟨g, 5, none⟩ = some (.slice A5 mk.f5.length c5))
          (first | go_keep | (go_split_ands; (repeat' apply And.intro) <;> exact pw_cell_below hbU (by assumption)) | (go_split_ands; (repeat' apply And.intro) <;> exact pw_cell_below hbI (by assumption)))
          (first
            | (go_at_call 131; with_reducible refine (Union_one L (x : Int) AC (some ⟨w1.heap.size, 0, none⟩) cC 1 _ (Kd.C_below HCC.out HA2.out) hcc HX2.out (Nat.le_refl 1) (setN_may HLS.out) (setN_may HXS.out) (by omega)).mono ?_; rw [HU.out]; rintro e w3 ⟨vU, rfl, hU, hbU⟩; obtain ⟨AU, cU, rfl⟩ := slice_of (n := U.length) hU rfl; obtain ⟨_, hcU, hCU⟩ := Kd.R_reads' hU; have HCU := Aside0.mk hCU; have HB3 := Aside0.mk (below_next HA2.out hbU); have HB3w := Aside0.mk (HA1.out.later HB3.out).below; clear hU hCU)
            | (go_at_call 158; with_reducible refine (HIN.out U AU cU _ (by first | exact HB3w.out | exact below_drew HB3w.out) (by first | exact HCU.out | exact Kd.C_drew HCU.out) hcU).mono ?_; rintro e w4 ⟨rfl, hbI⟩))
        go_upto_if 42 with (fail)
        have HA4 := Aside0.mk (HA1.out.later (below_next HB3.out hbI))
        clear hbI hbU HB3 HB3w HA1 HCU HCC HX2 HA2 z0 z1 z2 z3 z4 z5 BK1 R41 R51
        have HRX : Aside0 (rd of (x : Int) ≠ (k : Int)) := ⟨fun e => hy (HY.out.symm.trans e)⟩
        have HEK : Aside0 (endsL n (inds n (rks rk l)) of (x : Int) (k + 1) = endsL n (inds n (rks rk l)) of (x : Int) k ++ (if indR n (rk mk) U = true then [((n + k : Nat) : Int)] else [])) := ⟨by
          rw [endsL, endK, if_neg HRX.out, HL1.out, HU.out]
          unfold inds rks
          rw [HMK.out]⟩
        have hEl : (endsL n (inds n (rks rk l)) of (x : Int) k).length ≤ 100 := by have := endsL_len n (inds n (rks rk l)) of (x : Int) k; omega
        have hOl : (outsL n (inds n (rks rk l)) of (x : Int) k).length ≤ 1000 := by
          have := outsL_len n (inds n (rks rk l)) of (x : Int) k
          have h3 : n * k ≤ 64 * 8 := Nat.mul_le_mul h64 (by omega)
          omega
        have c1 := pw_cell_below HA4.out.below C1.out
        generalize hO : (.cells #[.int .i64 mk.f0, .int .i64 mk.f1, .int .i64 mk.f2, .int .i64 mk.f3, .slice A4 mk.f4.length c4, .slice A5 mk.f5.length c5] 25 : Obj) = OB at HA4
        go_cut [6, 17] (fun s6 s17 wx => s17 = .int .i64 k ∧ Aside0 (ArcAt w wx g OB u5 s6 (.slice AC L.length cC) (outsL n (inds n (rks rk l)) of (x : Int) k) (endsL n (inds n (rks rk l)) of (x : Int) (k + 1)) L))
        case first =>
          cases hI : indR n (rk mk) U with
          | true =>
            rw [hI, if_pos rfl] at HEK
            clear hI
            have b1 : (0 : Int) ≤ (n : Int) := by omega
            have b2 : (n : Int) ≤ 64 := by omega
            have b3 : (k : Int) ≤ 8 := by omega
            go_wp2_with (at_builtin; refine Kd.R_append (Kd.int .i64) (w0 := w) w.heap.size rfl (.tmp 43) (.tmp 50) 28 3 (.int .i64 0) 8 rfl Tryz.underlying28 info3 rfl (by decide) (by omega) u6 (endsL n (inds n (rks rk l)) of (x : Int) k) ((n : Int) + (k : Int)) [.int .i64 ((n : Int) + (k : Int))] (fun q => u5.ownBlock ≠ some q) (fun _ => False) rfl rfl rfl (fun _ hk => hk.elim) (fun q hq e => by have := Kd.R_lt HA4.out.out q e; omega) HA4.out.ends HA4.out.below HA4.out.below.size (by omega) ?_; intro v1 w5 ho hb hg hat; have HA5 := Aside0.mk (HA4.out.push6 ho hb hg hat); clear ho hb hg hat)
            go_meet
            exact ⟨rfl, by rw [HEK.out, show ((n + k : Nat) : Int) = (n : Int) + (k : Int) by omega]; exact HA5⟩
          | false =>
            rw [hI, if_neg (by simp), List.append_nil] at HEK
            clear hI
            go_wp2_with fail
            go_meet
            exact ⟨rfl, by rw [HEK.out]; exact HA4⟩
        case rest =>
          obtain ⟨rfl, HAc⟩ := hcut
          clear HA4 HEK c1
          go_wp2_with fail
          obtain ⟨PD, hPD⟩ : ∃ PD : Int → Bool, (fun y => indR n (rk mk) (uniL (minL L [y]) [(x : Int)])) = PD := ⟨_, rfl⟩
          have HPD := Aside0.mk hPD
          have HOK : Aside0 (outsL n (inds n (rks rk l)) of (x : Int) (k + 1) = outsL n (inds n (rks rk l)) of (x : Int) k ++ L.filter PD) := ⟨by
            rw [outsL, outK, if_neg HRX.out, HL1.out, ← hPD]
            unfold inds rks
            rw [HMK.out]⟩
          clear hPD
          go_loopg [5, 54] L.length (fun gi s5 s54 wi => ∃ j : Nat, j + gi = L.length ∧ s54 = .int .i64 j ∧ Aside0 (ArcAt w wi g OB s5 u6 (.slice AC L.length cC) (outsL n (inds n (rks rk l)) of (x : Int) k ++ (L.take j).filter PD) (endsL n (inds n (rks rk l)) of (x : Int) (k + 1)) L))
          case atStart => exact ⟨0, by omega, rfl, ⟨by rw [List.take_zero, List.filter_nil, List.append_nil]; exact HAc.out⟩⟩
          case round =>
            clear HAc
            obtain ⟨j, hgi, rfl, HA⟩ := hrel
            by_cases hj : j < L.length
            · have y1 : (j : Int) < (L.length : Int) := by omega
              have y2 : (0 : Int) ≤ (j : Int) := by omega
              have hCr := (Kd.R_reads' HA.out.cls).2.2
              obtain ⟨cd, rfl, k0⟩ := Kd.at_int hCr (j : Int) y2 y1
              rw [Int.toNat_natCast, rd_nat L j hj] at k0
              have hyb := setN_lt HLS.out (List.getElem_mem hj)
              have hst : L.take (j + 1) = L.take j ++ [L[j]] := List.take_succ_eq_append_getElem hj
              have hfl : ((L.take j).filter PD).length ≤ j := Nat.le_trans (List.length_filter_le _ _) (by rw [List.length_take]; omega)
              generalize L[j] = y0 at k0 hyb hst
              have HST := Aside0.mk hst
              have HYS := Aside0.mk (setN_one (x := y0) (n := (n : Int)) hyb.1 hyb.2 (by omega))
              have HCr := Aside0.mk hCr
              clear hst hCr
              have BKi := Aside0.mk HA.out.box
              rw [← hO] at BKi
              have z0 : _ = some (Value.int .i64 mk.f0) := (blk_cell BKi.out 0).trans rfl
              have z1 : _ = some (Value.int .i64 mk.f1) := (blk_cell BKi.out 1).trans rfl
              have z2 : _ = some (Value.int .i64 mk.f2) := (blk_cell BKi.out 2).trans rfl
              have z3 : _ = some (Value.int .i64 mk.f3) := (blk_cell BKi.out 3).trans rfl
              have z4 : _ = some (Value.slice A4 mk.f4.length c4) := (blk_cell BKi.out 4).trans rfl
              have z5 : _ = some (Value.slice A5 mk.f5.length c5) := (blk_cell BKi.out 5).trans rfl
              obtain ⟨M, hM⟩ : ∃ M, minL L [y0] = M := ⟨_, rfl⟩
              obtain ⟨_, hMs, hMl, _⟩ := minL_spec (setN_may HLS.out) (setN_may HYS.out) (by simp; omega)
              rw [hM] at hMs hMl
              obtain ⟨V, hV⟩ : ∃ V, uniL M [(x : Int)] = V := ⟨_, rfl⟩
              have HMs := Aside0.mk hMs
              have HPy : Aside0 (PD y0 = indR n (rk mk) V) := ⟨by rw [← HPD.out, ← hV, ← hM]⟩
              have HMe := Aside0.mk hM
              have HVe := Aside0.mk hV
              simp only [List.length_cons, List.length_nil] at hMl
              clear hM hV hMs
              go_upto_region 12 with (fail)
              go_cut [54, 66] (fun s54 s66 wx => s54 = .int .i64 j ∧ s66 = .bool (indR n (rk mk) V) ∧ Aside0 (Below wr.heap.size wr wx))
              case first =>
                go_region_held3 (fun W => W.cell? ⟨g, 0, none⟩ = some (.int .i64 mk.f0) ∧ W.cell? ⟨g, 1, none⟩ = some (.int .i64 mk.f1) ∧ W.cell? ⟨g, 2, none⟩ = some (.int .i64 mk.f2) ∧ W.cell? ⟨g, 3, none⟩ = some (.int .i64 mk.f3) ∧ W.cell? ⟨g, 4, none⟩ = some (.slice A4 mk.f4.length c4) ∧ W.cell? ⟨g, 5, none⟩ = some (.slice A5 mk.f5.length c5))
                  (first | go_keep | (go_split_ands; (repeat' apply And.intro) <;> exact pw_cell_below hbM (by assumption)) | (go_split_ands; (repeat' apply And.intro) <;> exact pw_cell_below hbV (by assumption)) | (go_split_ands; (repeat' apply And.intro) <;> exact pw_cell_below hbI (by assumption)))
                  (first
                    | (go_at_call 57; with_reducible refine (Minus_one L y0 (some cd) _ cC 1 _ (Kd.C_below HCr.out (by repeat (first | exact Below.refl _ _ | refine below_drew ?_ | refine below_alloc ?_ _))) hcc (C_one (by simp)) (Nat.le_refl 1) (setN_may HLS.out) (setN_may HYS.out) (by omega)).mono ?_; rw [HMe.out]; rintro e w3 ⟨vM, rfl, hM, hbM⟩; obtain ⟨AM, cM, rfl⟩ := slice_of (n := M.length) hM rfl; obtain ⟨_, hcM, hCM⟩ := Kd.R_reads' hM; have HCM := Aside0.mk hCM; have HBM : Aside0 (Below wr.heap.size wr w3) := ⟨below_next (by repeat (first | exact Below.refl _ _ | refine below_drew ?_ | refine below_alloc ?_ _)) hbM⟩; clear hM hCM)
                    | (go_at_call 131; with_reducible refine (Union_one M (x : Int) AM _ cM 1 _ (by first | exact HCM.out | exact Kd.C_drew HCM.out | exact Kd.C_below HCM.out (by repeat (first | exact Below.refl _ _ | refine below_drew ?_ | refine below_alloc ?_ _))) hcM (C_one (by first | simp | exact pw_cell_below hbM (by simp))) (Nat.le_refl 1) HMs.out (setN_may HXS.out) (by omega)).mono ?_; rw [HVe.out]; rintro e w4 ⟨vV, rfl, hV, hbV⟩; obtain ⟨AV, cV, rfl⟩ := slice_of (n := V.length) hV rfl; obtain ⟨_, hcV, hCV⟩ := Kd.R_reads' hV; have HCV := Aside0.mk hCV; have HBV : Aside0 (Below wr.heap.size wr w4) := ⟨below_next (by first | exact HBM.out | exact below_drew HBM.out | exact below_drew (below_alloc HBM.out _) | exact below_alloc HBM.out _) hbV⟩; have HBVw := Aside0.mk (HA.out.later HBV.out).below; clear hV hCV)
                    | (go_at_call 158; with_reducible refine (HIN.out V AV cV _ (by first | exact HBVw.out | exact below_drew HBVw.out) (by first | exact HCV.out | exact Kd.C_drew HCV.out) hcV).mono ?_; rintro e w5 ⟨rfl, hbI⟩))
                all_goals (go_wp2_with fail; go_meet; exact ⟨rfl, rfl, ⟨below_next HBV.out hbI⟩⟩)
              case rest =>
                obtain ⟨rfl, rfl, HBc⟩ := hcut
                have HAd := Aside0.mk (HA.out.later HBc.out)
                clear z0 z1 z2 z3 z4 z5 BKi HBc HCr k0
                cases hI : indR n (rk mk) V with
                | true =>
                  have hfs : (L.take (j + 1)).filter PD = (L.take j).filter PD ++ [y0] := by
                    rw [HST.out, List.filter_append]
                    simp [HPy.out, hI]
                  have HFS := Aside0.mk hfs
                  clear hI hfs
                  go_wp2_with (at_builtin; refine Kd.R_append (Kd.int .i64) (w0 := w) w.heap.size rfl (.tmp 67) (.tmp 69) 28 3 (.int .i64 0) 8 rfl Tryz.underlying28 info3 rfl (by decide) (by omega) u5 (outsL n (inds n (rks rk l)) of (x : Int) k ++ (L.take j).filter PD) y0 [.int .i64 y0] (fun q => u6.ownBlock ≠ some q) (fun _ => False) rfl rfl rfl (fun _ hk => hk.elim) (fun q hq e => by have := Kd.R_lt HAd.out.ends q e; omega) HAd.out.out HAd.out.below HAd.out.below.size (by rw [List.length_append]; omega) ?_; intro v1 w5 ho hb hg hat; have HA5 := Aside0.mk (HAd.out.push5 ho hb hg hat); clear ho hb hg hat)
                  go_roundg (L.length - (j + 1))
                  case measure => omega
                  case rel => exact ⟨j + 1, by omega, by go_num, by rw [HFS.out, ← List.append_assoc]; exact HA5⟩
                | false =>
                  have hfs : (L.take (j + 1)).filter PD = (L.take j).filter PD := by
                    rw [HST.out, List.filter_append]
                    simp [HPy.out, hI]
                  have HFS := Aside0.mk hfs
                  clear hI hfs
                  go_wp2_with fail
                  go_roundg (L.length - (j + 1))
                  case measure => omega
                  case rel => exact ⟨j + 1, by omega, by go_num, by rw [HFS.out]; exact HAd⟩
            · have y1 : ¬ (j : Int) < (L.length : Int) := by omega
              have hjL : L.take j = L := List.take_of_length_le (by omega)
              rw [hjL, ← HOK.out] at HA
              go_wp2_with fail
              go_roundg (l.length - (k + 1))
              case measure => omega
              case rel => exact ⟨k + 1, by omega, by go_num, ⟨HA.out.out⟩, ⟨HA.out.ends⟩, ⟨HA.out.below⟩⟩
    · have x1 : ¬ (k : Int) < (l.length : Int) := by omega
      have hkl : k = l.length := by omega
      rw [hkl] at HO HE
      clear hkl
      have hOl : (outsL n (inds n (rks rk l)) of (x : Int) l.length).length ≤ 1000 := by
        have := outsL_len n (inds n (rks rk l)) of (x : Int) l.length
        have h3 : n * l.length ≤ 64 * 8 := Nat.mul_le_mul h64 h8
        omega
      have hEl : (endsL n (inds n (rks rk l)) of (x : Int) l.length).length ≤ 100 := by have := endsL_len n (inds n (rks rk l)) of (x : Int) l.length; omega
      have hAR : Aside0 (arcsF n (inds n (rks rk l)) of l.length (x : Int) = sortI (outsL n (inds n (rks rk l)) of (x : Int) l.length) ++ endsL n (inds n (rks rk l)) of (x : Int) l.length) := ⟨rfl⟩
      generalize outsL n (inds n (rks rk l)) of (x : Int) l.length = OU at *
      generalize endsL n (inds n (rks rk l)) of (x : Int) l.length = EN at *
      have hso : (sortI OU).length = OU.length := List.length_mergeSort OU
      have HSO := Aside0.mk hso
      clear hso
      have ho1 := Kd.R_mono HO.out (ok' := fun _ => True) (fun _ _ => trivial)
      obtain ⟨AO, cO, rfl⟩ := slice_of (n := OU.length) ho1 rfl
      obtain ⟨AE, cE, rfl⟩ := slice_of (n := EN.length) (Kd.R_mono HE.out (ok' := fun _ => True) (fun _ _ => trivial)) rfl
      have HO1 := Aside0.mk ho1
      clear ho1
      go_wp2_with fail
      refine (SortR_ok w wr HB.out AO cO OU (by omega) HO1.out).mono ?_
      rintro e w2 ⟨rfl, hS, hbS, hgS⟩
      have HS := Aside0.mk hS
      have HBS := Aside0.mk hbS
      have HE2 := Aside0.mk (Kd.R_reads' (two_rows HE.out hgS (.inl rfl))).2.2
      clear hS hbS hgS HO HE HO1
      go_wp2_with (at_builtin; refine Kd.R_append_row (Value.int .i64) (0 : Int) (w0 := w) w.heap.size rfl (.tmp 75) (.tmp 76) 28 3 (.int .i64 0) 8 rfl Tryz.underlying28 info3 rfl (by decide) (.slice AO OU.length cO) (sortI OU) EN AE EN.length cE (fun _ => True) rfl rfl (fun _ _ => trivial) HS.out HE2.out HBS.out HBS.out.size (by rw [HSO.out]; omega) ?_; intro v1 w5 ho hb hg hat; have HO5 := Aside0.mk ho; have HB5 := Aside0.mk hb; clear ho hb hg hat)
      go_ret
      exact ⟨v1, rfl, by rw [hAR.out]; exact HO5.out, HB5.out⟩
end Go.Proofs.YtmcloifhgbehdaaGreatDoor
namespace Go.Proofs.YtmcloifhgbehdaaGreatDoor
open Go.RowKit Go.Proofs.YtmcloifhgbehdaaGreatDoorW.PrintWords Go.Proofs.YtmcloifhgbehdaaGreatDoorW.PrintLast Go.Proofs.YtmcloifhgbehdaaGreatDoorW.PrintMore Go.Proofs.YtmcloifhgbehdaaGreatDoor.PBasesSteps
set_option linter.unusedVariables false
set_option linter.unusedSimpArgs false
abbrev KR : Kd (List Int) := Kd.slice 3 (Kd.int .i64)
theorem rows_put {W : World} {base g n cap : Nat} {xs : List (List Int)} {v : Value} {x' : List Int} (h : Kd.R KR 28 W base (fun _ => True) (.slice (some ⟨g, 0, none⟩) n cap) xs) (i : Nat) (hi : i < n) (hv : Kd.R (Kd.int .i64) 3 W base (fun q => q ≠ g) v x') :
    W.frozen? ⟨g, i, none⟩ = false ∧ (∃ u, W.cell? ⟨g, i, none⟩ = some u) ∧ Kd.R KR 28 (W.setCell ⟨g, i, none⟩ v) base (fun _ => True) (.slice (some ⟨g, 0, none⟩) n cap) (xs.set i x') ∧ base ≤ g := by
  have hr := (Kd.R_reads' h).2.2
  have hn := (Kd.R_reads' h).1
  obtain ⟨ad, c, e, hcl, _, hcc⟩ := ReadsRow.get_ hr ([] : List Int) (i : Int) (by omega) (by omega)
  cases e
  have hcl1 : c.length = 1 := hcl
  obtain ⟨u, rfl⟩ := List.length_eq_one_iff.1 hcl1
  have hc0 : W.cell? ⟨g, i, none⟩ = some u := by
    have := hcc 0 u rfl
    rw [Int.toNat_natCast, add_plain] at this
    have e2 : i * KR.sz + 0 = i := by show i * 1 + 0 = i; omega
    rw [e2] at this
    exact this
  have hs := Kd.R_seg (okp := fun q => q ≠ g) (x' := x') h (i : Int) (by omega) (by omega) (c := [u]) (seg := [v]) (j := 0) rfl (fun j w hj => by
    have := hcc j w hj
    rw [add_plain] at this
    exact this) (Nat.le_refl 1) ⟨v, rfl, hv⟩ (fun q hq => ⟨trivial, hq⟩)
  obtain ⟨h0, inner, ho, _⟩ := h
  obtain ⟨_, ho2⟩ := ho
  rcases ho2 with ⟨hx, _⟩ | ⟨g', cap', cur, hv', hb, hh, _⟩
  · cases hx
  · injection hv' with e1 _ _
    injection e1 with e1
    injection e1 with e1
    subst e1
    refine ⟨blk_frozen hh i, ⟨u, hc0⟩, ?_, hb⟩
    have e2 : (i : Int).toNat * KR.sz + 0 = i := by show (i : Int).toNat * 1 + 0 = i; omega
    have := hs.1
    rw [e2, Int.toNat_natCast] at this
    exact this
theorem All_sum (n k : Nat) (h : n + k ≤ 100000) (w : World) :
    Calls Tryz.prog 58 #[.int .i64 ((n : Int) + (k : Int))] w fun e w' => ∃ v : Value, e = .returned v ∧ Kd.R (Kd.int .i64) 3 w' w.heap.size (fun _ => True) v (allL (n + k)) ∧ Below w.heap.size w w' := by
  have := All_any (n + k) h w
  rwa [show ((n + k : Nat) : Int) = (n : Int) + (k : Int) by omega] at this
/-- the digraph, as far as it is made. -/
def graphL (n : Nat) (ind : Nat → List Int → Bool) (of : List Int) (K k : Nat) : List (List Int) := ((List.range k).map fun x : Nat => arcsF n ind of K (x : Int)) ++ List.replicate (n + K - k) []
theorem graphL_length (n : Nat) (ind : Nat → List Int → Bool) (of : List Int) (K k : Nat) (hk : k ≤ n) : (graphL n ind of K k).length = n + K := by simp [graphL]; omega
theorem graphL_zero (n : Nat) (ind : Nat → List Int → Bool) (of : List Int) (K : Nat) : graphL n ind of K 0 = List.replicate (n + K) [] := by simp [graphL]
theorem graphL_full (n : Nat) (ind : Nat → List Int → Bool) (of : List Int) (K : Nat) : graphL n ind of K n = graphF n ind of K := by simp [graphL, graphF]
theorem graphL_set (n : Nat) (ind : Nat → List Int → Bool) (of : List Int) (K k : Nat) (hk : k < n) : (graphL n ind of K k).set k (arcsF n ind of K (k : Int)) = graphL n ind of K (k + 1) := by
  unfold graphL
  rw [List.set_append_right _ _ (by simp), List.length_map, List.length_range, Nat.sub_self]
  obtain ⟨d, hd⟩ : ∃ d, n + K - k = d + 1 := ⟨n + K - k - 1, by omega⟩
  rw [hd, List.replicate_succ, List.set_cons_zero, List.range_succ, List.map_append, List.append_assoc, show n + K - (k + 1) = d by omega]
  rfl
set_option maxHeartbeats 4000000 in
set_option maxRecDepth 100000 in
theorem graph_ok (w : World) (P : Nat) (A O : Option Addr) (c co n : Nat) (l : List S25) (of : List Int) (rk : S25 → List Int → Int) (hM : MayU n l) (hR : ∀ m, m ∈ l → RankAt n m (rk m))
    (h0 : w.cell? ⟨P, 0, none⟩ = some (.slice A l.length c)) (h1 : w.cell? ⟨P, 1, none⟩ = some (.int .i64 n)) (h2 : w.cell? ⟨P, 2, none⟩ = some (.slice O n co))
    (hl : Kd.C k25 w A l.length l) (hn : of.length = n) (hco : n ≤ co) (hof : Kd.C (Kd.int .i64) w O n of) :
    Calls Tryz.prog 108 #[.pointer (some ⟨P, 0, none⟩)] w fun e w' => ∃ Aj cj As cs At ct, e = .returned (.tuple #[.slice Aj (n + l.length) cj, .slice As (clsL n of (-1)).length cs, .slice At (goalL n l.length).length ct]) ∧
      n + l.length ≤ cj ∧ Kd.C KR w' Aj (n + l.length) (graphF n (inds n (rks rk l)) of l.length) ∧ (clsL n of (-1)).length ≤ cs ∧ Kd.C (Kd.int .i64) w' As (clsL n of (-1)).length (clsL n of (-1)) ∧ (goalL n l.length).length ≤ ct ∧ Kd.C (Kd.int .i64) w' At (goalL n l.length).length (goalL n l.length) ∧ Below w.heap.size w w' := by
  have h64 := hM.n64
  have h8 := hM.most
  have h1' := hM.one
  have HA := Aside0.mk (fun W (hW : Below w.heap.size w W) (x : Nat) (hx : x < n) => arcs_ok W P A O c co n l of rk hM hR (pw_cell_below hW h0) (pw_cell_below hW h1) (pw_cell_below hW h2) (Kd.C_below hl hW) hn hco (Kd.C_below hof hW) x hx)
  have HOF := Aside0.mk hof
  have HN := Aside0.mk hn
  have C1 := Aside0.mk h1
  have C2 := Aside0.mk h2
  clear hM hR hl hof hn
  have b1 : (0 : Int) ≤ (n : Int) := by omega
  have b2 : (n : Int) ≤ 64 := by omega
  have b3 : (0 : Int) ≤ (l.length : Int) := by omega
  have b4 : (l.length : Int) ≤ 8 := by omega
  have HRF := Aside0.mk (below_drew (Below.refl w.heap.size w))
  have c0 : w.drew.cell? ⟨P, 0, none⟩ = some (.slice A l.length c) := h0
  have c1 : w.drew.cell? ⟨P, 1, none⟩ = some (.int .i64 n) := h1
  obtain ⟨S0, hS0⟩ : ∃ S0, clsL n of (-1) = S0 := ⟨_, rfl⟩
  obtain ⟨T0, hT0⟩ : ∃ T0, goalL n l.length = T0 := ⟨_, rfl⟩
  have HS0 := Aside0.mk hS0
  have HT1 : Aside0 (minL (allL (n + l.length)) (allL n) = T0) := ⟨hT0⟩
  rw [hS0, hT0]
  clear hS0 hT0
  have hw : IntKind.i64.wrap ((n : Int) + (l.length : Int)) = (n : Int) + (l.length : Int) := IntWalk.i64_in _ (by omega)
  go_enter Tryz.func108, Tryz.ntmps108
  go_wp2_with fail
  go_still_tail 10, (by kernel_rfl)
  change wpList _ _ _ _ _ w.drew
  go_wp2_with ((with_reducible refine gate_dst (N := 17) rfl ?_); refine Kd.R_make KR (w0 := w) w.heap.size 28 rfl (N := 17) rfl 22 (.tmp 16) (.tmp 16) rfl ((n : Int) + (l.length : Int)) rfl rfl Tryz.underlying22 (.slice none 0 0) 24 info28 rfl (by decide) (by decide) ([] : List Int) (ok := fun _ => True) (okp := fun _ => True) ⟨_, rfl, Kd.R_nil _ _ _ _ _⟩ (fun _ hk => hk) trivial (by omega) (by omega) HRF.out HRF.out.size ?_; intro v1 w2 ho hb hg hat; rw [show ((n : Int) + (l.length : Int)).toNat = n + l.length by omega, ← graphL_zero n (inds n (rks rk l)) of l.length] at ho; obtain ⟨g, cap, hv, hgb, hgl⟩ := Kd.R_form ho (by rw [graphL_length _ _ _ _ _ (Nat.zero_le _)]; omega); rw [graphL_length _ _ _ _ _ (Nat.zero_le _)] at hv; subst hv; have c1b := pw_cell_below hb h1; have HO := Aside0.mk ho; have HB := Aside0.mk hb; clear ho hb hg hat hgl)
  clear c0 c1 h0 h1 h2 hw
  go_loopg [6, 22] n (fun gg s6 s22 wr => ∃ k : Nat, k + gg = n ∧ s22 = .int .i64 k ∧ Aside0 (Kd.R KR 28 wr w.heap.size (fun _ => True) (.slice (some ⟨g, 0, none⟩) (n + l.length) cap) (graphL n (inds n (rks rk l)) of l.length k)) ∧ Aside0 (Below w.heap.size w wr))
  case atStart => exact ⟨0, by omega, rfl, HO, HB⟩
  case round =>
    clear HO HB
    obtain ⟨k, hgg, rfl, HO, HB⟩ := hrel
    by_cases hk : k < n
    · have x1 : (k : Int) < (n : Int) := by omega
      have x2 : (0 : Int) ≤ (k : Int) := by omega
      have x3 : (k : Int) < ((n + l.length : Nat) : Int) := by omega
      have x4 : (k : Int) < (n : Int) + (l.length : Int) := by omega
      have HST := Aside0.mk (graphL_set n (inds n (rks rk l)) of l.length k hk)
      clear c1b
      go_wp2_with fail
      refine (HA.out _ HB.out k hk).mono ?_
      rintro e w3 ⟨v3, rfl, hv, hb3⟩
      obtain ⟨AQ, hAQ⟩ : ∃ AQ, arcsF n (inds n (rks rk l)) of l.length (k : Int) = AQ := ⟨_, rfl⟩
      rw [hAQ] at hv HST
      clear hAQ
      obtain ⟨A3, c3, rfl⟩ := slice_of (n := AQ.length) hv rfl
      have ho := Kd.R_below HO.out hb3
      have hglt := Kd.R_lt HO.out g rfl
      obtain ⟨hf, ⟨u, hcu⟩, hput, hbg⟩ := rows_put ho k (by omega) (Kd.R_mono (Kd.R_lower (Kd.R_bound hv) HB.out.size) (fun q hq => by have := hq.2.1; omega))
      rw [HST.out] at hput
      have HP := Aside0.mk hput
      have HBP := Aside0.mk ((below_then HB.out HB.out.size hb3).setCell (p := ⟨g, k, none⟩) hbg (.slice A3 AQ.length c3))
      clear hv ho hput hglt hb3
      go_wp2_with fail
      go_roundg (n - (k + 1))
      case measure => omega
      case rel => exact ⟨k + 1, by omega, by go_num, HP, HBP⟩
    · have x1 : ¬ (k : Int) < (n : Int) := by omega
      have hkn : k = n := by omega
      rw [hkn, graphL_full] at HO
      clear hkn
      obtain ⟨hg1, hg2, hg3⟩ := Kd.R_reads' HO.out
      rw [graphF_length] at hg3
      have HG := Aside0.mk hg3
      have c1c := pw_cell_below HB.out C1.out
      have c2c := pw_cell_below HB.out C2.out
      have ha1 := allL_length (n + l.length)
      have ha2 := allL_length n
      have hm1 := allL_may (n + l.length) (by omega)
      have hm2 := allL_may n (by omega)
      obtain ⟨AL1, hAL1⟩ : ∃ AL1, allL (n + l.length) = AL1 := ⟨_, rfl⟩
      obtain ⟨AL2, hAL2⟩ : ∃ AL2, allL n = AL2 := ⟨_, rfl⟩
      rw [hAL1] at ha1 hm1 HT1
      rw [hAL2] at ha2 hm2 HT1
      have HAL1 := Aside0.mk hAL1
      have HAL2 := Aside0.mk hAL2
      clear hAL1 hAL2
      have HA1 := Aside0.mk ha1
      have HA2 := Aside0.mk ha2
      have HM1 := Aside0.mk hm1
      have HM2 := Aside0.mk hm2
      clear hg1 hg3 hm1 hm2 ha1 ha2
      go_upto_region 7 with (fail)
      go_cut [2, 3, 4] (fun s2 s3 s4 wx => s2 = .slice (some ⟨g, 0, none⟩) (n + l.length) cap ∧ (∃ As cs, s3 = .slice As S0.length cs ∧ S0.length ≤ cs ∧ Aside0 (Kd.C (Kd.int .i64) wx As S0.length S0)) ∧ (∃ At ct, s4 = .slice At T0.length ct ∧ T0.length ≤ ct ∧ Aside0 (Kd.C (Kd.int .i64) wx At T0.length T0)) ∧ Aside0 (Below wr.heap.size wr wx))
      case first =>
        go_region_held3 (fun W => W.cell? ⟨P, 1, none⟩ = some (.int .i64 n) ∧ W.cell? ⟨P, 2, none⟩ = some (.slice O n co))
          (first | go_keep | (go_split_ands; (repeat' apply And.intro) <;> exact pw_cell_below hbS (by assumption)) | (go_split_ands; (repeat' apply And.intro) <;> exact pw_cell_below hb1 (by assumption)) | (go_split_ands; (repeat' apply And.intro) <;> exact pw_cell_below hb2 (by assumption)) | (go_split_ands; (repeat' apply And.intro) <;> exact pw_cell_below hbM (by assumption)))
          (first
            | (go_at_call 81; with_reducible refine (Class_any _ O co n of (-1) HN.out (by omega) hco (Kd.C_below HOF.out (below_then HB.out HB.out.size (by first | exact HXM.out | exact HX2.out | exact HX1.out | exact HXS.out | exact Below.refl _ _ | exact below_drew HXM.out | exact below_drew HX2.out | exact below_drew HX1.out | exact below_drew HXS.out | exact below_drew (Below.refl _ _))))).mono ?_; rw [HS0.out]; rintro e wS ⟨vS, rfl, hS, hbS⟩; obtain ⟨AS, cS, rfl⟩ := slice_of (n := S0.length) hS rfl; obtain ⟨_, hcS, hCS⟩ := Kd.R_reads' hS; have HXS : Aside0 (Below wr.heap.size wr wS) := ⟨below_next (by first | exact HXM.out | exact HX2.out | exact HX1.out | exact HXS.out | exact Below.refl _ _ | exact below_drew HXM.out | exact below_drew HX2.out | exact below_drew HX1.out | exact below_drew HXS.out | exact below_drew (Below.refl _ _)) hbS⟩; have HCS := Aside0.mk hCS; clear hS hCS)
            | (go_at_call 58; with_reducible refine (All_sum n l.length (by omega) _).mono ?_; rw [HAL1.out]; rintro e w1 ⟨vA, rfl, hA, hb1⟩; obtain ⟨A1, c1', rfl⟩ := slice_of (n := AL1.length) hA rfl; obtain ⟨_, hc1, hC1⟩ := Kd.R_reads' hA; have HX1 : Aside0 (Below wr.heap.size wr w1) := ⟨below_next (by first | exact HXM.out | exact HX2.out | exact HX1.out | exact HXS.out | exact Below.refl _ _ | exact below_drew HXM.out | exact below_drew HX2.out | exact below_drew HX1.out | exact below_drew HXS.out | exact below_drew (Below.refl _ _)) hb1⟩; have HC1 := Aside0.mk hC1; clear hA hC1)
            | (go_at_call 58; with_reducible refine (All_any n (by omega) _).mono ?_; rw [HAL2.out]; rintro e w2 ⟨vA, rfl, hA, hb2⟩; obtain ⟨A2, c2', rfl⟩ := slice_of (n := AL2.length) hA rfl; obtain ⟨_, hc2, hC2⟩ := Kd.R_reads' hA; have HX2 : Aside0 (Below wr.heap.size wr w2) := ⟨below_next (by first | exact HXM.out | exact HX2.out | exact HX1.out | exact HXS.out | exact Below.refl _ _ | exact below_drew HXM.out | exact below_drew HX2.out | exact below_drew HX1.out | exact below_drew HXS.out | exact below_drew (Below.refl _ _)) hb2⟩; have HC2 := Aside0.mk hC2; clear hA hC2)
            | (go_at_call 57; with_reducible refine (Minus_any AL1 AL2 A1 A2 c1' c2' _ (by first | exact HC1.out | exact Kd.C_drew HC1.out | exact Kd.C_below HC1.out hbS | exact Kd.C_below HC1.out hb1 | exact Kd.C_below HC1.out hb2 | exact Kd.C_below HC1.out (below_next hbS hb1) | exact Kd.C_below HC1.out (below_next hbS hb2) | exact Kd.C_below HC1.out (below_next hb1 hb2) | exact Kd.C_below HC1.out (below_next hb2 hb1) | exact Kd.C_below HC1.out (below_next hb1 hbS) | exact Kd.C_below HC1.out (below_next hb2 hbS)) hc1 (by first | exact HC2.out | exact Kd.C_drew HC2.out | exact Kd.C_below HC2.out hbS | exact Kd.C_below HC2.out hb1 | exact Kd.C_below HC2.out hb2 | exact Kd.C_below HC2.out (below_next hbS hb1) | exact Kd.C_below HC2.out (below_next hbS hb2) | exact Kd.C_below HC2.out (below_next hb1 hb2) | exact Kd.C_below HC2.out (below_next hb2 hb1) | exact Kd.C_below HC2.out (below_next hb1 hbS) | exact Kd.C_below HC2.out (below_next hb2 hbS)) hc2 HM1.out HM2.out (by have := HA1.out; have := HA2.out; omega)).mono ?_; rw [HT1.out]; rintro e wM ⟨vM, rfl, hM, hbM⟩; obtain ⟨AM, cM, rfl⟩ := slice_of (n := T0.length) hM rfl; obtain ⟨_, hcM, hCM⟩ := Kd.R_reads' hM; have HXM : Aside0 (Below wr.heap.size wr wM) := ⟨below_next (by first | exact HXM.out | exact HX2.out | exact HX1.out | exact HXS.out | exact Below.refl _ _ | exact below_drew HXM.out | exact below_drew HX2.out | exact below_drew HX1.out | exact below_drew HXS.out | exact below_drew (Below.refl _ _)) hbM⟩; have HCM := Aside0.mk hCM; clear hM hCM))
        all_goals (go_wp2_with fail; go_meet; exact ⟨rfl, ⟨AS, cS, rfl, hcS, ⟨Kd.C_below HCS.out (below_next (below_next hb1 hb2) hbM)⟩⟩, ⟨AM, cM, rfl, hcM, HCM⟩, HXM⟩)
      case rest =>
        obtain ⟨rfl, ⟨As, cs, rfl, hcs, HCS⟩, ⟨At, ct, rfl, hct, HCT⟩, HBx⟩ := hcut
        go_wp2_with fail
        go_ret3
        exact ⟨_, _, _, _, _, _, rfl, hg2, Kd.C_below HG.out HBx.out, hcs, HCS.out, hct, HCT.out, below_then HB.out HB.out.size HBx.out⟩
end Go.Proofs.YtmcloifhgbehdaaGreatDoor
namespace Go.Proofs.YtmcloifhgbehdaaGreatDoor
open Go.RowKit Go.Proofs.YtmcloifhgbehdaaGreatDoorW.PrintWords Go.Proofs.YtmcloifhgbehdaaGreatDoorW.PrintLast Go.Proofs.YtmcloifhgbehdaaGreatDoorW.PrintMore Go.Proofs.YtmcloifhgbehdaaGreatDoor.PBasesSteps
set_option linter.unusedVariables false
set_option linter.unusedSimpArgs false
/-- the classes in memory. -/
structure ClsAt (wB W : World) (P : Nat) (A : Option Addr) (K c n : Nat) (O : Option Addr) (co : Nat) (of : List Int) : Prop where
  blk : W.heap[P]? = some (.cells #[.slice A K c, .int .i64 n, .slice O n co] 99 (0, 0))
  of : Kd.R (Kd.int .i64) 3 W wB.heap.size (fun _ => True) (.slice O n co) of
  base : wB.heap.size ≤ P
  below : Below wB.heap.size wB W
theorem ClsAt.later {wB W W' : World} {P K c n co : Nat} {A O : Option Addr} {of : List Int} (h : ClsAt wB W P A K c n O co of) (hb : Below W.heap.size W W') : ClsAt wB W' P A K c n O co of :=
  ⟨blk_below hb h.blk, Kd.R_below h.of hb, h.base, below_then h.below h.below.size hb⟩
theorem ClsAt.drew {wB W : World} {P K c n co : Nat} {A O : Option Addr} {of : List Int} (h : ClsAt wB W P A K c n O co of) : ClsAt wB W.drew P A K c n O co of := ⟨h.blk, Kd.R_drew h.of, h.base, below_drew h.below⟩
theorem ClsAt.put {wB W : World} {P K c n gO co : Nat} {A : Option Addr} {of : List Int} (h : ClsAt wB W P A K c n (some ⟨gO, 0, none⟩) co of) (i : Nat) (hi : i < n) (x : Int) :
    W.frozen? ⟨gO, i, none⟩ = false ∧ W.cell? ⟨gO, i, none⟩ = some (.int .i64 (rd of (i : Int))) ∧ ClsAt wB (W.setCell ⟨gO, i, none⟩ (.int .i64 x)) P A K c n (some ⟨gO, 0, none⟩) co (of.set i x) ∧ gO ≠ P := by
  obtain ⟨hc1, hc2⟩ := Kd.R_celln (0 : Int) h.of (i : Int) (by omega) (by omega)
  obtain ⟨hp1, hp2⟩ := Kd.R_putg h.of (i : Int) x
  rw [Int.toNat_natCast] at hc1 hc2 hp1 hp2
  obtain ⟨cells, hcl⟩ := own_typed (Kd.own_of_R h.of) gO rfl
  have hne := blk_ne h.blk hcl (by decide)
  exact ⟨hc2, hc1, ⟨blk_far h.blk hne _, hp1, h.base, h.below.setCell (p := ⟨gO, i, none⟩) (Kd.R_base h.of gO rfl) _⟩, fun e => hne e.symm⟩
set_option maxHeartbeats 4000000 in
set_option maxRecDepth 100000 in
theorem shift_ok (wB w : World) (P : Nat) (A AL : Option Addr) (K c n gO co cL : Nat) (of L : List Int) (h : ClsAt wB w P A K c n (some ⟨gO, 0, none⟩) co of) (hn : n ≤ 64) (hcL : L.length ≤ cL) (hl2 : 2 ≤ L.length) (hL : Kd.R (Kd.int .i64) 3 w wB.heap.size (fun q => q ≠ gO) (.slice AL L.length cL) L)
    (hX : ∀ i : Nat, i + 1 < L.length → 0 ≤ rd L (i : Int) ∧ rd L (i : Int) < n) (hY : (n : Int) ≤ rd L ((L.length - 1 : Nat) : Int) ∧ rd L ((L.length - 1 : Nat) : Int) ≤ 100) :
    Calls Tryz.prog 109 #[.pointer (some ⟨P, 0, none⟩), .slice AL L.length cL] w fun e w' => e = .returned (.tuple #[]) ∧ ClsAt wB w' P A K c n (some ⟨gO, 0, none⟩) co (shiftF n L of) := by
  have hmx := (Kd.R_reads' hL).2.2.2.1
  obtain ⟨gL, cL', hv, -⟩ := Kd.R_form hL (by omega)
  injection hv with e1 _ e3
  subst e1
  subst e3
  have hw1 : IntKind.i64.wrap ((L.length : Int) - 1) = ((L.length - 1 : Nat) : Int) := (i64_w _).trans (wrap_pred L.length (by omega) hmx)
  have hw2 : wrap64 ((L.length : Int) - 1) = ((L.length - 1 : Nat) : Int) := wrap_pred L.length (by omega) hmx
  have hb1 : ((L.length - 1 : Nat) : Int) ≤ (cL : Int) := by omega
  have hb2 : (0 : Int) ≤ ((L.length - 1 : Nat) : Int) := Int.natCast_nonneg _
  have hb3 : ((L.length - 1 : Nat) : Int) ≤ (L.length : Int) := by omega
  have HH := Aside0.mk h
  have HL := Aside0.mk hL
  have HX := Aside0.mk hX
  have HY := Aside0.mk hY
  obtain ⟨T, hT⟩ : ∃ T, shiftF n L of = T := ⟨_, rfl⟩
  rw [hT]
  have HT := Aside0.mk hT
  clear h hL hX hY hT
  go_enter Tryz.func109, Tryz.ntmps109
  go_wp2_with fail
  clear hw1 hw2
  go_loopg [13] (L.length - 1) (fun gg s13 wr => ∃ (i : Nat) (of' : List Int), i + gg = L.length - 1 ∧ s13 = .int .i64 i ∧ Aside0 (ClsAt wB wr P A K c n (some ⟨gO, 0, none⟩) co of') ∧ Aside0 (Kd.R (Kd.int .i64) 3 wr wB.heap.size (fun q => q ≠ gO) (.slice (some ⟨gL, 0, none⟩) L.length cL) L) ∧ Aside0 (shiftF n (L.drop i) of' = T))
  case atStart => exact ⟨0, of, by omega, rfl, HH, HL, HT⟩
  case round =>
    clear HH HL HT
    obtain ⟨i, of', hgg, rfl, HC, HL, HT⟩ := hrel
    have z0 := (blk_cell HC.out.blk 0).trans rfl
    have z1 := (blk_cell HC.out.blk 1).trans rfl
    have z2 := (blk_cell HC.out.blk 2).trans rfl
    by_cases hi : i < L.length - 1
    · have x1 : (i : Int) < ((L.length - 1 : Nat) : Int) := by omega
      have x2 : (0 : Int) ≤ (i : Int) := by omega
      have x3 : (i : Int) + 1 < (L.length : Int) := by omega
      have x4 : (0 : Int) ≤ (i : Int) + 1 := by omega
      have x5 : (i : Int) ≤ 9223372036854775806 := by omega
      obtain ⟨hX0, hX1⟩ := HX.out i (by omega)
      have hk0 := (Kd.R_celln (0 : Int) HL.out (i : Int) (by omega) (by omega)).1
      have hk1 := (Kd.R_celln (0 : Int) HL.out ((i + 1 : Nat) : Int) (by omega) (by omega)).1
      rw [Int.toNat_natCast] at hk0 hk1
      change wr.cell? ⟨gL, i, none⟩ = some (.int .i64 (rd L (i : Int))) at hk0
      change wr.cell? ⟨gL, i + 1, none⟩ = some (.int .i64 (rd L ((i + 1 : Nat) : Int))) at hk1
      have hdr : L.drop i = rd L (i : Int) :: rd L ((i + 1 : Nat) : Int) :: L.drop (i + 2) := by
        rw [rd_nat L i (by omega), rd_nat L (i + 1) (by omega), List.drop_eq_getElem_cons (by omega : i < L.length), List.drop_eq_getElem_cons (by omega : i + 1 < L.length)]
      have hdr1 : L.drop (i + 1) = rd L ((i + 1 : Nat) : Int) :: L.drop (i + 2) := by
        rw [rd_nat L (i + 1) (by omega), List.drop_eq_getElem_cons (by omega : i + 1 < L.length)]
      have hT := HT.out
      rw [hdr, shiftF, ← hdr1] at hT
      have hy : (n : Int) ≤ rd L ((i + 1 : Nat) : Int) ∧ rd L ((i + 1 : Nat) : Int) ≤ 100 ∨ 0 ≤ rd L ((i + 1 : Nat) : Int) ∧ rd L ((i + 1 : Nat) : Int) < n := by
        by_cases e : i + 2 = L.length
        · left
          have := HY.out
          rw [show L.length - 1 = i + 1 by omega] at this
          exact this
        · right
          exact HX.out (i + 1) (by omega)
      clear hdr hdr1 HT
      obtain ⟨x, hx⟩ := Int.eq_ofNat_of_zero_le hX0
      rw [hx] at hk0 hX1 hT
      rw [Int.toNat_natCast] at hT
      clear hX0 hx
      generalize rd L ((i + 1 : Nat) : Int) = y at *
      rcases hy with ⟨hy1, hy2⟩ | ⟨hy1, hy2⟩
      · rw [if_pos hy1] at hT
        obtain ⟨hf, hcx, hput, hne⟩ := HC.out.put x (by omega) (y - n)
        have hwr : IntKind.i64.wrap (y - (n : Int)) = y - n := IntWalk.i64_in _ (by omega)
        have d1 : decide ((n : Int) ≤ y) = true := decide_eq_true hy1
        have x6 : (0 : Int) ≤ (x : Int) := by omega
        rw [hT] at hput
        have HP := Aside0.mk hput.drew
        clear hput hT
        go_wp2_with fail
        go_region
        generalize (wr.setCell _ _).drew = W1 at *
        go_wp2_with fail
        first | refine bodyPost_ret (results_none rfl _ _ _) rfl ?_ | refine bodyPost_end (results_none rfl _ _ _) rfl ?_
        exact ⟨rfl, HP.out⟩
      · have hy3 : ¬ (n : Int) ≤ y := by omega
        rw [if_neg hy3] at hT
        have d1 : decide ((n : Int) ≤ y) = false := decide_eq_false hy3
        obtain ⟨z, hz⟩ := Int.eq_ofNat_of_zero_le hy1
        subst hz
        have hcz := (HC.out.put z (by omega) 0).2.1
        obtain ⟨hf, hcx, hput, hne⟩ := HC.out.put x (by omega) (rd of' (z : Int))
        have x6 : (0 : Int) ≤ (x : Int) := by omega
        have HT := Aside0.mk hT
        have HP := Aside0.mk hput.drew
        have HLP := Aside0.mk (Kd.R_drew (Kd.R_far (p := ⟨gO, x, none⟩) HL.out (fun q hq => hq) (.int .i64 (rd of' (z : Int)))))
        clear hput hT
        generalize rd of' (z : Int) = vz at *
        go_wp2_with fail
        go_region
        generalize (wr.setCell _ _).drew = W1 at *
        go_wp2_with fail
        go_roundg (L.length - 1 - (i + 1))
        case measure => omega
        case rel => exact ⟨i + 1, of'.set x vz, by omega, by go_num, HP, HLP, HT⟩
    · have x1 : ¬ (i : Int) < ((L.length - 1 : Nat) : Int) := by omega
      have hiL : L.drop i = [rd L (i : Int)] := by
        rw [rd_nat L i (by omega), List.drop_eq_getElem_cons (by omega : i < L.length), List.drop_eq_nil_of_le (by omega)]
      have hT := HT.out
      rw [hiL] at hT
      simp only [shiftF] at hT
      rw [hT] at HC
      clear hT hiL
      go_wp2_with fail
      first | refine bodyPost_ret (results_none rfl _ _ _) rfl ?_ | refine bodyPost_end (results_none rfl _ _ _) rfl ?_
      exact ⟨rfl, HC.out⟩
end Go.Proofs.YtmcloifhgbehdaaGreatDoor
namespace Go.Proofs.YtmcloifhgbehdaaGreatDoor
open Go.RowKit Go.Proofs.YtmcloifhgbehdaaGreatDoorW.PrintWords Go.Proofs.YtmcloifhgbehdaaGreatDoorW.PrintLast Go.Proofs.YtmcloifhgbehdaaGreatDoorW.PrintMore Go.Proofs.YtmcloifhgbehdaaGreatDoor.PBasesSteps
set_option linter.unusedVariables false
set_option linter.unusedSimpArgs false
theorem Path_no (w : World) (A : Option Addr) (c N : Nat) (adj : List (List Int)) (hN : adj.length = N) (B B2 : Option Addr) (cs ct : Nat) (src tgt D : List Int) (hM : MayG adj) (hc : N ≤ c) (hadj : Kd.C (Kd.slice 3 (Kd.int .i64)) w A N adj)
    (hcs : src.length ≤ cs) (hsrc : Kd.C (Kd.int .i64) w B src.length src) (hsn : setN src (N : Int) = true)
    (hct : tgt.length ≤ ct) (htgt : Kd.C (Kd.int .i64) w B2 tgt.length tgt) (htn : setN tgt (N : Int) = true) (hD : farF (turnF adj) tgt = D) (hb : bestL D src (-1) = -1) :
    Calls Tryz.prog 84 #[.slice A N c, .slice B src.length cs, .slice B2 tgt.length ct] w fun e w' => e = .returned (.tuple #[.slice none 0 0, .bool false]) ∧ Below w.heap.size w w' := by
  subst hN
  have h1 := hM.len
  have h2 := setN_length hsn
  have h3 := setN_length htn
  refine (Path_ok w A c adj B B2 cs ct src tgt hM hc hadj (by omega) hcs hsrc hsn (by omega) hct htgt htn D hD (hD ▸ path_step hM htn)).mono ?_
  rintro e w' ⟨h | h, hbl⟩
  · exact ⟨h.2, hbl⟩
  · exact absurd hb h.1
theorem Path_yes (w : World) (A : Option Addr) (c N : Nat) (adj : List (List Int)) (hN : adj.length = N) (B B2 : Option Addr) (cs ct : Nat) (src tgt D : List Int) (hM : MayG adj) (hc : N ≤ c) (hadj : Kd.C (Kd.slice 3 (Kd.int .i64)) w A N adj)
    (hcs : src.length ≤ cs) (hsrc : Kd.C (Kd.int .i64) w B src.length src) (hsn : setN src (N : Int) = true)
    (hct : tgt.length ≤ ct) (htgt : Kd.C (Kd.int .i64) w B2 tgt.length tgt) (htn : setN tgt (N : Int) = true) (hD : farF (turnF adj) tgt = D) (hb : bestL D src (-1) ≠ -1) :
    Calls Tryz.prog 84 #[.slice A N c, .slice B src.length cs, .slice B2 tgt.length ct] w fun e w' => ∃ v L, e = .returned (.tuple #[v, .bool true]) ∧ Kd.R (Kd.int .i64) 3 w' w.heap.size (fun _ => True) v L ∧ Aside0 (∃ x m, Shortest adj src tgt D L x m) ∧ Below w.heap.size w w' := by
  subst hN
  have h1 := hM.len
  have h2 := setN_length hsn
  have h3 := setN_length htn
  refine (Path_ok w A c adj B B2 cs ct src tgt hM hc hadj (by omega) hcs hsrc hsn (by omega) hct htgt htn D hD (hD ▸ path_step hM htn)).mono ?_
  rintro e w' ⟨h | ⟨_, v, he, hR⟩, hbl⟩
  · exact absurd h.1 hb
  · exact ⟨v, _, he, hR, ⟨path_shortest hM (hD ▸ near_of hM htn) hsn hb⟩, hbl⟩
theorem From_at (w : World) (A : Option Addr) (c N : Nat) (adj : List (List Int)) (hN : adj.length = N) (B : Option Addr) (cs : Nat) (src : List Int) (hM : MayG adj) (hc : N ≤ c) (hadj : Kd.C (Kd.slice 3 (Kd.int .i64)) w A N adj)
    (hcs : src.length ≤ cs) (hsrc : Kd.C (Kd.int .i64) w B src.length src) (hsn : setN src (N : Int) = true) :
    Calls Tryz.prog 85 #[.slice A N c, .slice B src.length cs] w fun e w' => ∃ v, e = .returned v ∧ Kd.R (Kd.int .i64) 3 w' w.heap.size (fun _ => True) v (fromF adj src) ∧ Below w.heap.size w w' := by
  subst hN
  have h1 := hM.len
  have h2 := setN_length hsn
  exact From_ok w A c adj B cs src hM hc hadj (by omega) hcs hsrc hsn
theorem start_ok (n K : Nat) (M : Nat → Gw.Mat n) : Ok n K M (List.replicate n (-1)) := by
  have h : ∀ x, x < n → ofN (List.replicate n (-1)) x = -1 := by
    intro x hx
    unfold ofN
    rw [rd_nat _ _ (by simpa using hx)]
    simp
  refine ⟨by simp, ⟨fun x hx => by rw [h x hx]; omega, fun j hj => ?_⟩⟩
  refine ((M j).indep_ext (s := Gw.emp) (fun i hi => ?_)).1 (by unfold Gw.Mat.indep; rw [(M j).r_emp, Gw.card_emp])
  simp only [Gw.emp, Gw.Mat.cls, h i hi]
  symm
  simp only [beq_eq_false_iff_ne]
  omega
theorem many_le (n : Nat) (of : List Int) : many n of ≤ n := Gw.card_le _ _
set_option maxHeartbeats 4000000 in
set_option maxRecDepth 100000 in
theorem unionMax_ok (w : World) (A : Option Addr) (c n : Nat) (l : List S25) (rk : S25 → List Int → Int) (M : Nat → Gw.Mat n) (hM : MayU n l) (hR : ∀ m, m ∈ l → RankAt n m (rk m)) (hMat : ∀ k, k < l.length → IsMat n (rks rk l k) (M k)) (hc : l.length ≤ c) (hr : Kd.C k25 w A l.length l) :
    Calls Tryz.prog 79 #[.slice A l.length c] w fun e w' => ∃ O co U cu of u, e = .returned (.tuple #[.slice O n co, .slice U u.length cu, .int .i64 0]) ∧ Aside0 (Most n l.length M of u) ∧ n ≤ co ∧ Kd.C (Kd.int .i64) w' O n of ∧ u.length ≤ cu ∧ Kd.C (Kd.int .i64) w' U u.length u ∧ Below w.heap.size w w' := by
  have hu25 := Tryz.underlying25
  have h64 := hM.n64
  have h8 := hM.most
  have h1' := hM.one
  have h0 : 0 < l.length := by omega
  have hmay := Aside0.mk (fun W (hW : Below w.heap.size w W) => unionMay_ok W A c n l hM hc (Kd.C_below hr hW))
  have hgraph := Aside0.mk (fun (W : World) (P : Nat) (O : Option Addr) (co : Nat) (of : List Int) (hA : ClsAt w W P A l.length c n O co of) (hn : of.length = n) => graph_ok W P A O c co n l of rk hM hR ((blk_cell hA.blk 0).trans rfl) ((blk_cell hA.blk 1).trans rfl) ((blk_cell hA.blk 2).trans rfl) (Kd.C_below hr hA.below) hn (Kd.R_reads' hA.of).2.1 (by have := (Kd.R_reads' hA.of).2.2; rw [hn] at this; exact this))
  have HMS : Aside0 (Mats n l.length (rks rk l) M) := ⟨⟨by omega, hMat⟩⟩
  obtain ⟨ad, B4, d4, B5, d5, eA, e0, e1, _⟩ := at_mat hr 0 h0
  subst eA
  rw [hM.same _ (List.getElem_mem h0), Nat.zero_mul] at e1
  simp only [Addr.add_zero'] at e1
  have E1 := Aside0.mk e1
  have hb0 : (0 : Int) < (l.length : Int) := by omega
  clear hM hR hMat hr e0 e1
  go_enter Tryz.func79, Tryz.ntmps79
  go_wp2_with (go_at_call 106; with_reducible refine (hmay.out _ (Below.refl _ _)).mono ?_; rintro e w1 ⟨rfl, hb⟩; have HB1 := Aside0.mk hb; clear hb)
  have k1 := pw_cell_below HB1.out E1.out
  have k2 : w1.drew.cell? ⟨ad.block, ad.off + 1, none⟩ = some (.int .i64 n) := k1
  go_cut [5] (fun s5 wx => ∃ P O co, s5 = .pointer (some ⟨P, 0, none⟩) ∧ Aside0 (ClsAt w wx P (some ad) l.length c n O co (List.replicate n (-1))))
  case first =>
    go_region_held3 (fun W => W.cell? ⟨ad.block, ad.off + 1, none⟩ = some (.int .i64 n))
      (first | go_keep | exact pw_cell_below hbO (by assumption))
      (first
        | (go_at_call 107; with_reducible refine (Repeat_ok _ n (by omega) (-1) _ 1 (Nat.le_refl 1) (C_one (by simp))).mono ?_; rintro e w3 ⟨vO, rfl, hO, hbO⟩; obtain ⟨O, co, rfl⟩ := slice_of (n := n) hO (by simp); have HO := Aside0.mk hO; clear hO))
    all_goals
      have HW3 : Below w.heap.size w w3 := below_next (below_next HB1.out (by repeat (first | exact Below.refl _ _ | refine below_drew ?_ | refine below_alloc ?_ _))) hbO
      go_wp2_with fail
      go_meet
      exact ⟨_, O, co, rfl, ⟨⟨blk_new _ _, Kd.R_alloc (Kd.R_lower HO.out (below_next HB1.out (by repeat (first | exact Below.refl _ _ | refine below_drew ?_ | refine below_alloc ?_ _))).size) _, HW3.size, below_alloc HW3 _⟩⟩⟩
  case rest =>
    obtain ⟨P, O, co, rfl, HC⟩ := hcut
    clear k1 k2
    have HK : Aside0 (Ok n l.length M (List.replicate n (-1))) := ⟨start_ok n l.length M⟩
    go_wp2_with fail
    go_loopg [6] (n + 1) (fun gg s6 wr => ∃ of : List Int, n - many n of ≤ gg ∧ Aside0 (Ok n l.length M of) ∧ Aside0 (ClsAt w wr P (some ad) l.length c n O co of))
    case atStart => exact ⟨List.replicate n (-1), by omega, HK, HC⟩
    case round =>
      clear HC HK
      obtain ⟨of, hgg, HK, HC⟩ := hrel
      have hgr := hgraph.out wr P O co of HC.out HK.out.len
      obtain ⟨G, hG⟩ : ∃ G, graphF n (inds n (rks rk l)) of l.length = G := ⟨_, rfl⟩
      have hGl : G.length = n + l.length := by rw [← hG, graphF_length]
      have hGm : MayG G := by rw [← hG]; exact graphF_may (by have := HMS.out.small; omega)
      obtain ⟨hg1, hg2⟩ := goalL_spec (n := n) (K := l.length) (by omega)
      have hsn : setN (clsL n of (-1)) ((n + l.length : Nat) : Int) = true := setN_of (by omega) (fun x hx => by obtain ⟨i, h1, rfl, _⟩ := mem_clsL.1 hx; omega) (filter_range_sorted _ _)
      obtain ⟨D, hD⟩ : ∃ D, farF (turnF G) (goalL n l.length) = D := ⟨_, rfl⟩
      have hNear : Near G (goalL n l.length) D := by rw [← hD]; exact near_of hGm (by rw [hGl]; exact hg1)
      by_cases hb : bestL D (clsL n of (-1)) (-1) = -1
      · have HMO : Aside0 (Most n l.length M of (fromF G (clsL n of (-1)))) := ⟨by rw [← hG]; exact most_of HMS.out HK.out (by rw [hG]; exact hNear) hb⟩
        have HGR := Aside0.mk hgr
        have HGL := Aside0.mk hGl
        have HGM := Aside0.mk hGm
        have HG1 := Aside0.mk hg1
        have HSN := Aside0.mk hsn
        have HD := Aside0.mk hD
        have HBB := Aside0.mk hb
        rw [hG] at HGR
        clear hgr hG hGl hGm hg1 hg2 hsn hD hNear hb
        generalize clsL n of (-1) = S0 at *
        generalize goalL n l.length = T0 at *
        go_wp2_with (first
          | (go_at_call 108; with_reducible refine (HGR.out).mono ?_; rintro e w3 ⟨Aj, cj, As, cs, At, ct, rfl, hcj, hCj, hcs, hCs, hct, hCt, hb3⟩; have HCj := Aside0.mk hCj; have HCs := Aside0.mk hCs; have HCt := Aside0.mk hCt; have HC3 := Aside0.mk (HC.out.later hb3); clear hCj hCs hCt hb3)
          | (go_at_call 84; with_reducible refine (Path_no w3 Aj cj (n + l.length) G HGL.out As At cs ct S0 T0 D HGM.out hcj HCj.out hcs HCs.out HSN.out hct HCt.out HG1.out HD.out HBB.out).mono ?_; rintro e w4 ⟨rfl, hb4⟩; have HC4 := Aside0.mk (HC3.out.later hb4); have HB4 := Aside0.mk hb4; clear hb4))
        have z2 := (blk_cell HC4.out.blk 2).trans rfl
        go_region_held3 (fun W => W.cell? ⟨P, 2, none⟩ = some (.slice O n co))
          (first | go_keep | exact pw_cell_below hb5 (by assumption))
          (first
            | (go_at_call 85; with_reducible refine (From_at _ Aj cj (n + l.length) G HGL.out As cs S0 HGM.out hcj (Kd.C_below HCj.out (by first | exact HB4.out | exact below_drew HB4.out)) hcs (Kd.C_below HCs.out (by first | exact HB4.out | exact below_drew HB4.out)) HSN.out).mono ?_; rintro e w5 ⟨vU, rfl, hU, hb5⟩; obtain ⟨U, cu, rfl⟩ := slice_of (n := (fromF G S0).length) hU rfl; have HU := Aside0.mk (Kd.R_reads' hU); clear hU))
        have HC5 : Aside0 (ClsAt w w5 P (some ad) l.length c n O co of) := ⟨HC4.out.later (by first | exact hb5 | exact below_next (below_drew (Below.refl _ _)) hb5)⟩
        clear hb5 z2
        go_wp2_with fail
        go_ret3
        obtain ⟨hq1, hq2, hq3⟩ := Kd.R_reads' HC5.out.of
        rw [HK.out.len] at hq3
        exact ⟨O, co, U, cu, of, _, rfl, HMO, hq2, hq3, HU.out.2.1, HU.out.2.2, HC5.out.below⟩
      · have HSG : Aside0 (∀ L x m, Shortest G (clsL n of (-1)) (goalL n l.length) D L x m → Ok n l.length M (shiftF n L of) ∧ many n (shiftF n L of) = many n of + 1) := ⟨fun L x m h => by
          rw [← hG] at h hNear
          exact shift_good HMS.out HK.out hNear h⟩
        have HGR := Aside0.mk hgr
        have HGL := Aside0.mk hGl
        have HGM := Aside0.mk hGm
        have HG1 := Aside0.mk hg1
        have HSN := Aside0.mk hsn
        have HD := Aside0.mk hD
        have HBB := Aside0.mk hb
        have HTG : Aside0 (∀ x, x ∈ goalL n l.length → (n : Int) ≤ x ∧ x < ((n + l.length : Nat) : Int)) := ⟨fun x hx => (hg2 x).1 hx⟩
        have HWY : Aside0 (∀ L x m, Shortest G (clsL n of (-1)) (goalL n l.length) D L x m → ∃ m' e, m = m' + 1 ∧ x m = n + e ∧ Gw.Mat.Way l.length M (ofN of) x m' e) := ⟨fun L x m h => by
          rw [← hG] at h hNear
          exact way_of HMS.out HK.out hNear h⟩
        rw [hG] at HGR
        clear hgr hG hGl hGm hg1 hg2 hsn hD hNear hb
        generalize clsL n of (-1) = S0 at *
        generalize goalL n l.length = T0 at *
        go_wp2_with (first
          | (go_at_call 108; with_reducible refine (HGR.out).mono ?_; rintro e w3 ⟨Aj, cj, As, cs, At, ct, rfl, hcj, hCj, hcs, hCs, hct, hCt, hb3⟩; have HCj := Aside0.mk hCj; have HCs := Aside0.mk hCs; have HCt := Aside0.mk hCt; have HC3 := Aside0.mk (HC.out.later hb3); clear hCj hCs hCt hb3)
          | (go_at_call 84; with_reducible refine (Path_yes w3 Aj cj (n + l.length) G HGL.out As At cs ct S0 T0 D HGM.out hcj HCj.out hcs HCs.out HSN.out hct HCt.out HG1.out HD.out HBB.out).mono ?_; rintro e w4 ⟨vL, L, rfl, hL, HSH, hb4⟩; obtain ⟨AL, cL, rfl⟩ := slice_of (n := L.length) hL rfl; have HC4 := Aside0.mk (HC3.out.later hb4); have HL4 := Aside0.mk (Kd.R_lower (Kd.R_bound hL) HC3.out.below.size); clear hb4 hL))
        obtain ⟨x, m, hS⟩ := HSH.out
        obtain ⟨m', e, rfl, he, hW⟩ := HWY.out L x m hS
        obtain ⟨hK', hmany⟩ := HSG.out L x _ hS
        have hx0 := hW.lt 0 (by omega)
        have hlen : L.length = m' + 2 := by rw [hS.list]; simp
        have hrd : ∀ i : Nat, i < m' + 2 → rd L (i : Int) = (x i : Int) := by
          intro i hi
          rw [rd_nat L i (by omega)]
          simp only [hS.list, List.getElem_map, List.getElem_range]
        have hxm := HTG.out _ hS.lst
        obtain ⟨gO, cO, hO, _⟩ := Kd.R_form HC4.out.of (by rw [HK.out.len]; omega)
        injection hO with e1 _ _
        subst e1
        have hgO := Kd.R_lt HC3.out.of gO rfl
        have HL5 := Aside0.mk (Kd.R_mono HL4.out (ok' := fun q => q ≠ gO) (fun q hq => by have := hq.2.1; omega))
        have hcL := (Kd.R_reads' HL4.out).2.1
        have HK' := Aside0.mk hK'
        have HMN := Aside0.mk hmany
        have hml := many_le n (shiftF n L of)
        have HX : Aside0 (∀ i : Nat, i + 1 < L.length → 0 ≤ rd L (i : Int) ∧ rd L (i : Int) < n) := ⟨fun i hi => by rw [hrd i (by omega)]; have := hW.lt i (by omega); omega⟩
        have HY : Aside0 ((n : Int) ≤ rd L ((L.length - 1 : Nat) : Int) ∧ rd L ((L.length - 1 : Nat) : Int) ≤ 100) := ⟨by rw [hlen, show m' + 2 - 1 = m' + 1 by omega, hrd _ (by omega)]; omega⟩
        have hl2 : 2 ≤ L.length := by omega
        clear hS hW hK' hmany hrd hxm he hlen hx0 HSH HWY HSG HTG
        refine (shift_ok w w4 P (some ad) AL l.length c n gO co cL of L HC4.out h64 hcL hl2 HL5.out HX.out HY.out).mono ?_
        rintro e w5 ⟨rfl, hC5⟩
        have HC5 := Aside0.mk hC5
        clear hC5
        go_wp2_with fail
        go_roundg (n - many n (shiftF n L of))
        case measure => have := HMN.out; omega
        case rel => exact ⟨_, Nat.le_refl _, HK', HC5⟩
end Go.Proofs.YtmcloifhgbehdaaGreatDoor
namespace Go.Proofs.YtmcloifhgbehdaaGreatDoor
open Go.RowKit Go.Proofs.YtmcloifhgbehdaaGreatDoorW.PrintWords Go.Proofs.YtmcloifhgbehdaaGreatDoorW.PrintLast Go.Proofs.YtmcloifhgbehdaaGreatDoorW.PrintMore Go.Proofs.YtmcloifhgbehdaaGreatDoor.PBasesSteps
set_option linter.unusedVariables false
set_option linter.unusedSimpArgs false
def rkU (m : S25) (s : List Int) : Int := min (s.length : Int) m.f2
set_option maxHeartbeats 2000000 in
set_option maxRecDepth 100000 in
theorem plainU_ok (m : S25) (s : List Int) (A4 A5 : Option Addr) (c4 c5 : Nat) (B : Option Addr) (cs : Nat) (w : World) (l4 : m.f4.length ≤ c4) (g4 : Kd.C (Kd.slice 3 (Kd.int .i64)) w A4 m.f4.length m.f4) (l5 : m.f5.length ≤ c5) (g5 : Kd.C k25 w A5 m.f5.length m.f5) (hr : Kd.C (Kd.int .i64) w B s.length s) (hc : s.length ≤ cs) (h0 : m.f0 = 0) :
    Calls Tryz.prog 133 #[.agg #[.int .i64 m.f0, .int .i64 m.f1, .int .i64 m.f2, .int .i64 m.f3, .slice A4 m.f4.length c4, .slice A5 m.f5.length c5], .slice B s.length cs] w fun e w' => e = .returned (.int .i64 (rkU m s)) ∧ Below w.heap.size w w' := by
  have hu25 := Tryz.underlying25
  rw [h0]
  unfold rkU
  clear g4 g5 hr hc h0 l4 l5
  by_cases hlt : (s.length : Int) ≤ m.f2
  · rw [Int.min_eq_left hlt]
    go_enter Tryz.func133, Tryz.ntmps133
    go_wp2_with fail
    go_ret
    exact ⟨by simp [Int.min_eq_left hlt], below_alloc (Below.refl _ _) _⟩
  · rw [Int.min_eq_right (by omega)]
    go_enter Tryz.func133, Tryz.ntmps133
    go_wp2_with fail
    go_ret
    exact ⟨by simp [Int.min_eq_right (show m.f2 ≤ (s.length : Int) by omega)], below_alloc (Below.refl _ _) _⟩
set_option maxHeartbeats 2000000 in
set_option maxRecDepth 100000 in
theorem rankU_at (n : Nat) (m : S25) (h0 : m.f0 = 0) : RankAt n m (rkU m) := by
  intro s A4 A5 c4 c5 B cs w l4 g4 l5 g5 hr hc hs
  have hu25 := Tryz.underlying25
  have hpl := Aside0.mk (fun W (hW : Below w.heap.size w W) => plainU_ok m s A4 A5 c4 c5 B cs W l4 (Kd.C_below g4 hW) l5 (Kd.C_below g5 hW) (Kd.C_below hr hW) hc h0)
  rw [h0] at hpl ⊢
  clear g4 g5 hr hc h0 l4 l5 hs
  generalize rkU m s = r at *
  go_enter Tryz.func97, Tryz.ntmps97
  go_wp2_with (go_at_call 133; with_reducible refine (hpl.out _ (below_alloc (Below.refl _ _) _)).mono ?_; rintro e w1 ⟨rfl, hb⟩; have HB := Aside0.mk (below_next (below_alloc (Below.refl w.heap.size w) _) hb); clear hb)
  go_ret
  exact ⟨rfl, HB.out⟩
set_option maxHeartbeats 2000000 in
set_option maxRecDepth 100000 in
theorem spanAll_ok (n : Nat) (m : S25) (rk : List Int → Int) (hR : RankAt n m rk) (hn : m.f1 = (n : Int)) (A4 A5 : Option Addr) (c4 c5 : Nat) (w : World) (l4 : m.f4.length ≤ c4) (g4 : Kd.C (Kd.slice 3 (Kd.int .i64)) w A4 m.f4.length m.f4) (l5 : m.f5.length ≤ c5) (g5 : Kd.C k25 w A5 m.f5.length m.f5) (hok : goodD 4 m = true) :
    Calls Tryz.prog 47 #[.agg #[.int .i64 m.f0, .int .i64 m.f1, .int .i64 m.f2, .int .i64 m.f3, .slice A4 m.f4.length c4, .slice A5 m.f5.length c5]] w fun e w' => e = .returned (.int .i64 (rk (allL n))) ∧ Below w.heap.size w w' := by
  have hu25 := Tryz.underlying25
  have hN := good_N hok
  have h64 : n ≤ 64 := by omega
  have hms := allL_may n (by omega)
  have hal := allL_length n
  have hset : setN (allL n) (n : Int) = true := setN_of (by omega) (fun x hx => mem_allL.1 hx) (mayF_pairwise hms)
  have hrank := Aside0.mk (fun (B : Option Addr) (cs : Nat) (W : World) (hW : Below w.heap.size w W) (hr : Kd.C (Kd.int .i64) W B (allL n).length (allL n)) (hc : (allL n).length ≤ cs) => iRank_ok n m rk hR hn (allL n) A4 A5 c4 c5 B cs W l4 (Kd.C_below g4 hW) l5 (Kd.C_below g5 hW) hr hc hok hset)
  rw [hn] at hrank ⊢
  generalize rk (allL n) = r at *
  clear g4 g5 l4 l5 hok hset hms hal hN hn hR
  go_enter Tryz.func47, Tryz.ntmps47
  go_wp2_with fail
  have BK0 := Aside0.mk (blk_new w (.cells #[.int .i64 m.f0, .int .i64 n, .int .i64 m.f2, .int .i64 m.f3, .slice A4 m.f4.length c4, .slice A5 m.f5.length c5] 25))
  have HB0 := Aside0.mk (below_alloc (Below.refl w.heap.size w) (.cells #[.int .i64 m.f0, .int .i64 n, .int .i64 m.f2, .int .i64 m.f3, .slice A4 m.f4.length c4, .slice A5 m.f5.length c5] 25))
  generalize w.alloc _ = W0 at BK0 HB0 ⊢
  generalize hg : w.heap.size = g at BK0 ⊢
  have HG := Aside0.mk hg
  clear hg
  have z0 := (blk_cell BK0.out 0).trans rfl
  have z1 := (blk_cell BK0.out 1).trans rfl
  have z2 := (blk_cell BK0.out 2).trans rfl
  have z3 := (blk_cell BK0.out 3).trans rfl
  have z4 := (blk_cell BK0.out 4).trans rfl
  have z5 := (blk_cell BK0.out 5).trans rfl
  go_region_held3 (fun W => W.cell? ⟨g, 0, none⟩ = some (.int .i64 m.f0) ∧ W.cell? ⟨g, 1, none⟩ = some (.int .i64 n) ∧ W.cell? ⟨g, 2, none⟩ = some (.int .i64 m.f2) ∧ W.cell? ⟨g, 3, none⟩ = some (.int .i64 m.f3) ∧ W.cell? ⟨g, 4, none⟩ = some (.slice A4 m.f4.length c4) ∧ W.cell? ⟨g, 5, none⟩ = some (.slice A5 m.f5.length c5))
    (first | go_keep | (go_split_ands; (repeat' apply And.intro) <;> exact pw_cell_below hbA (by assumption)) | (go_split_ands; (repeat' apply And.intro) <;> exact pw_cell_below hbR (by assumption)))
    (first
      | (go_at_call 58; with_reducible refine (All_any n (by omega) _).mono ?_; rintro e w1 ⟨vA, rfl, hA, hbA⟩; obtain ⟨A1, c1, rfl⟩ := slice_of (n := (allL n).length) hA rfl; obtain ⟨_, hc1, hC1⟩ := Kd.R_reads' hA; have HC1 := Aside0.mk hC1; have HB1 := Aside0.mk (below_next HB0.out (by first | exact hbA | exact below_next (below_drew (Below.refl _ _)) hbA)); clear hA hC1)
      | (go_at_call 56; with_reducible refine (hrank.out A1 c1 _ (by first | exact HB1.out | exact below_drew HB1.out) (by first | exact HC1.out | exact Kd.C_drew HC1.out) hc1).mono ?_; rintro e w2 ⟨rfl, hbR⟩; have HB2 := Aside0.mk (below_next HB1.out (by first | exact hbR | exact below_next (below_drew (Below.refl _ _)) hbR))))
  clear hbA hbR
  go_wp2_with fail
  go_ret
  exact ⟨rfl, HB2.out⟩
/-- k copies of one matroid. -/
theorem MayU.rep {n k : Nat} (h1 : 1 ≤ k) (h8 : k ≤ 8) {m : S25} (hok : goodD 4 m = true) (hn : m.f1 = (n : Int)) : MayU n (List.replicate k m) :=
  ⟨by simpa using h1, by simpa using h8, fun x hx => by rw [List.eq_of_mem_replicate hx]; exact hok, fun x hx => by rw [List.eq_of_mem_replicate hx]; exact hn⟩
theorem Max_rep (w : World) (A : Option Addr) (c n k : Nat) (h1 : 1 ≤ k) (h8 : k ≤ 8) (m : S25) (rk : List Int → Int) (M : Gw.Mat n) (hok : goodD 4 m = true) (hn : m.f1 = (n : Int)) (hR : RankAt n m rk) (hMat : IsMat n rk M) (hc : k ≤ c) (hr : Kd.C k25 w A k (List.replicate k m)) :
    Calls Tryz.prog 79 #[.slice A k c] w fun e w' => ∃ O co U cu of u, e = .returned (.tuple #[.slice O n co, .slice U u.length cu, .int .i64 0]) ∧ Aside0 (Most n k (fun _ => M) of u) ∧ n ≤ co ∧ Kd.C (Kd.int .i64) w' O n of ∧ u.length ≤ cu ∧ Kd.C (Kd.int .i64) w' U u.length u ∧ Below w.heap.size w w' := by
  have hl : (List.replicate k m).length = k := by simp
  have := unionMax_ok w A c n (List.replicate k m) (fun _ => rk) (fun _ => M) (MayU.rep h1 h8 hok hn) (fun x hx => by rw [List.eq_of_mem_replicate hx]; exact hR) (fun j hj => hMat) (by rw [hl]; exact hc) (by rw [hl]; exact hr)
  rwa [hl] at this
def clsLL (n : Nat) (of : List Int) (k : Nat) : List (List Int) := (List.range k).map fun i : Nat => clsL n of (i : Int)
def clsPart (n : Nat) (of : List Int) (k j : Nat) : List (List Int) := ((List.range j).map fun i : Nat => clsL n of (i : Int)) ++ List.replicate (k - j) []
theorem clsPart_length (n : Nat) (of : List Int) (k j : Nat) (hj : j ≤ k) : (clsPart n of k j).length = k := by simp [clsPart]; omega
theorem clsPart_zero (n : Nat) (of : List Int) (k : Nat) : clsPart n of k 0 = List.replicate k [] := by simp [clsPart]
theorem clsPart_full (n : Nat) (of : List Int) (k : Nat) : clsPart n of k k = clsLL n of k := by simp [clsPart, clsLL]
theorem clsPart_set (n : Nat) (of : List Int) (k j : Nat) (hj : j < k) : (clsPart n of k j).set j (clsL n of (j : Int)) = clsPart n of k (j + 1) := by
  unfold clsPart
  rw [List.set_append_right _ _ (by simp), List.length_map, List.length_range, Nat.sub_self]
  obtain ⟨d, hd⟩ : ∃ d, k - j = d + 1 := ⟨k - j - 1, by omega⟩
  rw [hd, List.replicate_succ, List.set_cons_zero, List.range_succ, List.map_append, List.append_assoc, show k - (j + 1) = d by omega]
  rfl
set_option maxHeartbeats 4000000 in
set_option maxRecDepth 100000 in
theorem bclasses_ok (n k : Nat) (h1 : 1 ≤ k) (h8 : k ≤ 8) (m : S25) (rk : List Int → Int) (M : Gw.Mat n) (hR : RankAt n m rk) (hn : m.f1 = (n : Int)) (hMat : IsMat n rk M) (A4 A5 : Option Addr) (c4 c5 : Nat) (w : World) (l4 : m.f4.length ≤ c4) (g4 : Kd.C (Kd.slice 3 (Kd.int .i64)) w A4 m.f4.length m.f4) (l5 : m.f5.length ≤ c5) (g5 : Kd.C k25 w A5 m.f5.length m.f5) (hok : goodD 4 m = true) :
    Calls Tryz.prog 46 #[.agg #[.int .i64 m.f0, .int .i64 m.f1, .int .i64 m.f2, .int .i64 m.f3, .slice A4 m.f4.length c4, .slice A5 m.f5.length c5], .int .i64 k] w fun e w' => ∃ Al cl U cu of u, e = .returned (.tuple #[.slice Al k cl, .slice U u.length cu, .int .i64 (clsL n of (-1)).length, .int .i64 0]) ∧ Aside0 (Most n k (fun _ => M) of u) ∧ k ≤ cl ∧ Kd.C KR w' Al k (clsLL n of k) ∧ u.length ≤ cu ∧ Kd.C (Kd.int .i64) w' U u.length u ∧ Below w.heap.size w w' := by
  have hu25 := Tryz.underlying25
  have hN := good_N hok
  have h64 : n ≤ 64 := by omega
  have hrep := Aside0.mk (fun (W : World) (g : Nat) (hW : Below w.heap.size w W) (hb : W.heap[g]? = some (.cells #[.int .i64 m.f0, .int .i64 m.f1, .int .i64 m.f2, .int .i64 m.f3, .slice A4 m.f4.length c4, .slice A5 m.f5.length c5] 25)) => RepeatM_ok W k h1 (by omega) m (some ⟨g, 0, none⟩) 1 (Nat.le_refl 1) (reps_C (n := 1) (rest := []) (k25_mk W m l4 (Kd.C_below g4 hW) l5 (Kd.C_below g5 hW)) rfl (by omega) (by simpa [reps] using hb)))
  have hmax := Aside0.mk (fun (W : World) (A : Option Addr) (c : Nat) (hc : k ≤ c) (hr : Kd.C k25 W A k (List.replicate k m)) => Max_rep W A c n k h1 h8 m rk M hok hn hR hMat hc hr)
  have d1 : decide ((k : Int) < 1) = false := decide_eq_false (by omega)
  have d2 : decide ((8 : Int) < (k : Int)) = false := decide_eq_false (by omega)
  have d3 : decide (k < 1) = false := decide_eq_false (by omega)
  have d4 : decide (8 < k) = false := decide_eq_false (by omega)
  clear g4 g5 l4 l5 hok hN hn hR hMat
  go_enter Tryz.func46, Tryz.ntmps46
  go_wp2_with fail
  have HB0 := Aside0.mk (below_alloc (below_alloc (Below.refl w.heap.size w) (.cells #[.int .i64 m.f0, .int .i64 m.f1, .int .i64 m.f2, .int .i64 m.f3, .slice A4 m.f4.length c4, .slice A5 m.f5.length c5] 25)) (.cells #[.int .i64 m.f0, .int .i64 m.f1, .int .i64 m.f2, .int .i64 m.f3, .slice A4 m.f4.length c4, .slice A5 m.f5.length c5] 25))
  have hsz : (w.alloc (.cells #[.int .i64 m.f0, .int .i64 m.f1, .int .i64 m.f2, .int .i64 m.f3, .slice A4 m.f4.length c4, .slice A5 m.f5.length c5] 25)).heap.size = w.heap.size + 1 := Array.size_push _
  have BK1 := Aside0.mk (hsz ▸ blk_new (w.alloc (.cells #[.int .i64 m.f0, .int .i64 m.f1, .int .i64 m.f2, .int .i64 m.f3, .slice A4 m.f4.length c4, .slice A5 m.f5.length c5] 25)) (.cells #[.int .i64 m.f0, .int .i64 m.f1, .int .i64 m.f2, .int .i64 m.f3, .slice A4 m.f4.length c4, .slice A5 m.f5.length c5] 25))
  clear hsz
  refine (hrep.out _ (w.heap.size + 1) HB0.out BK1.out).mono ?_
  rintro e w1 ⟨g1, c1, rfl, hc1, hC1, hb1⟩
  have HC1 := Aside0.mk hC1
  have HB1 := Aside0.mk (below_next HB0.out hb1)
  clear hC1 hb1 BK1 HB0
  go_wp2_with (first
    | (go_at_call 79; with_reducible refine (hmax.out w1 (some ⟨g1, 0, none⟩) c1 hc1 HC1.out).mono ?_; rintro e w2 ⟨O, co, U, cu, of, u, rfl, HMO, hco, hCO, hcu, hCU, hb2⟩; have HCO := Aside0.mk hCO; have HCU := Aside0.mk hCU; have HB2 := Aside0.mk (below_next HB1.out hb2); clear hCO hCU hb2)
    | ((with_reducible refine gate_dst (N := 32) rfl ?_); refine Kd.R_make KR (w0 := w2) w2.heap.size 28 rfl (N := 32) rfl 22 (.tmp 31) (.tmp 31) rfl (k : Int) rfl rfl Tryz.underlying22 (.slice none 0 0) 24 info28 rfl (by decide) (by decide) ([] : List Int) (ok := fun _ => True) (okp := fun _ => True) ⟨_, rfl, Kd.R_nil _ _ _ _ _⟩ (fun _ hk => hk) trivial (by omega) (by omega) (Below.refl _ _) (Nat.le_refl _) ?_; intro v1 w3 ho hb hg hat; rw [Int.toNat_natCast, ← clsPart_zero n of k] at ho; obtain ⟨g, cap, hv, hgb, hgl⟩ := Kd.R_form ho (by rw [clsPart_length _ _ _ _ (Nat.zero_le _)]; omega); rw [clsPart_length _ _ _ _ (Nat.zero_le _)] at hv; subst hv; have HO := Aside0.mk ho; have HB3 := Aside0.mk hb; clear ho hb hg hat hgl))
  have hof := HMO.out.ok.len
  have HLN := Aside0.mk hof
  clear hof
  go_loopg [12, 34] k (fun gg s12 s34 wr => ∃ j : Nat, j + gg = k ∧ s34 = .int .i64 j ∧ Aside0 (Kd.R KR 28 wr w2.heap.size (fun _ => True) (.slice (some ⟨g, 0, none⟩) k cap) (clsPart n of k j)) ∧ Aside0 (Below w2.heap.size w2 wr))
  case atStart => exact ⟨0, by omega, rfl, HO, HB3⟩
  case round =>
    clear HO HB3
    obtain ⟨j, hgg, rfl, HO, HB⟩ := hrel
    by_cases hj : j < k
    · have x1 : (j : Int) < (k : Int) := by omega
      have x2 : (0 : Int) ≤ (j : Int) := by omega
      have HST := Aside0.mk (clsPart_set n of k j hj)
      go_wp2_with fail
      refine (Class_any wr O co n of (j : Int) HLN.out (by omega) hco (Kd.C_below HCO.out HB.out)).mono ?_
      rintro e w3 ⟨v3, rfl, hv, hb3⟩
      obtain ⟨AQ, hAQ⟩ : ∃ AQ, clsL n of (j : Int) = AQ := ⟨_, rfl⟩
      rw [hAQ] at hv HST
      clear hAQ
      obtain ⟨A3, c3, rfl⟩ := slice_of (n := AQ.length) hv rfl
      have ho := Kd.R_below HO.out hb3
      have hglt := Kd.R_lt HO.out g rfl
      obtain ⟨hf, ⟨uu, hcu2⟩, hput, hbg⟩ := rows_put ho j (by omega) (Kd.R_mono (Kd.R_lower (Kd.R_bound hv) HB.out.size) (fun q hq => by have := hq.2.1; omega))
      rw [HST.out] at hput
      have HP := Aside0.mk hput
      have HBP := Aside0.mk ((below_then HB.out HB.out.size hb3).setCell (p := ⟨g, j, none⟩) hbg (.slice A3 AQ.length c3))
      clear hv ho hput hglt hb3
      go_wp2_with fail
      go_roundg (k - (j + 1))
      case measure => omega
      case rel => exact ⟨j + 1, by omega, by go_num, HP, HBP⟩
    · have x1 : ¬ (j : Int) < (k : Int) := by omega
      have hjk : j = k := by omega
      rw [hjk, clsPart_full] at HO
      clear hjk
      obtain ⟨hg1, hg2, hg3⟩ := Kd.R_reads' HO.out
      have hl : (clsLL n of k).length = k := by simp [clsLL]
      rw [hl] at hg3
      have HG := Aside0.mk hg3
      clear hg1 hg3 hl
      go_wp2_with fail
      refine (Class_any wr O co n of (-1) HLN.out (by omega) hco (Kd.C_below HCO.out HB.out)).mono ?_
      rintro e w3 ⟨v3, rfl, hv, hb3⟩
      obtain ⟨A3, c3, rfl⟩ := slice_of (n := (clsL n of (-1)).length) hv rfl
      have HB3 := Aside0.mk hb3
      clear hv hb3
      go_wp2_with fail
      have HBw := Aside0.mk (below_next (below_next HB2.out HB.out) HB3.out)
      have HGw := Aside0.mk (Kd.C_below HG.out HB3.out)
      have HUw := Aside0.mk (Kd.C_below HCU.out (below_next HB.out HB3.out))
      refine bodyPost_ret (v := .tuple #[.slice (some ⟨g, 0, none⟩) k cap, .slice U u.length cu, .int .i64 (clsL n of (-1)).length, .int .i64 0]) (by simp [results, Tryz.results46, go_sem]) rfl ?_
      exact ⟨_, _, _, _, of, u, rfl, HMO, hg2, HGw.out, hcu, HUw.out, HBw.out⟩
set_option maxHeartbeats 4000000 in
set_option maxRecDepth 100000 in
theorem Cover_ok (n k : Nat) (h1 : 1 ≤ k) (h8 : k ≤ 8) (m : S25) (rk : List Int → Int) (M : Gw.Mat n) (hR : RankAt n m rk) (hn : m.f1 = (n : Int)) (hMat : IsMat n rk M) (A4 A5 : Option Addr) (c4 c5 : Nat) (w : World) (l4 : m.f4.length ≤ c4) (g4 : Kd.C (Kd.slice 3 (Kd.int .i64)) w A4 m.f4.length m.f4) (l5 : m.f5.length ≤ c5) (g5 : Kd.C k25 w A5 m.f5.length m.f5) (hok : goodD 4 m = true) :
    Calls Tryz.prog 18 #[.agg #[.int .i64 m.f0, .int .i64 m.f1, .int .i64 m.f2, .int .i64 m.f3, .slice A4 m.f4.length c4, .slice A5 m.f5.length c5], .int .i64 k] w fun e w' => ∃ of u, Aside0 (Most n k (fun _ => M) of u) ∧ ((0 < (clsL n of (-1)).length ∧ ∃ U cu, e = .returned (.tuple #[.slice none 0 0, .slice U u.length cu, .int .i64 171]) ∧ u.length ≤ cu ∧ Kd.C (Kd.int .i64) w' U u.length u) ∨ ((clsL n of (-1)).length = 0 ∧ ∃ Al cl, e = .returned (.tuple #[.slice Al k cl, .slice none 0 0, .int .i64 0]) ∧ k ≤ cl ∧ Kd.C KR w' Al k (clsLL n of k))) ∧ Below w.heap.size w w' := by
  have hu25 := Tryz.underlying25
  have hcl := Aside0.mk (fun (W : World) (hW : Below w.heap.size w W) => bclasses_ok n k h1 h8 m rk M hR hn hMat A4 A5 c4 c5 W l4 (Kd.C_below g4 hW) l5 (Kd.C_below g5 hW) hok)
  clear g4 g5 l4 l5 hok hn hR hMat
  go_enter Tryz.func18, Tryz.ntmps18
  go_wp2_with fail
  refine (hcl.out _ (below_alloc (Below.refl _ _) _)).mono ?_
  rintro e w1 ⟨Al, cl, U, cu, of, u, rfl, HMO, hcl, hCL, hcu, hCU, hb⟩
  have HCL := Aside0.mk hCL
  have HCU := Aside0.mk hCU
  have HB := Aside0.mk (below_next (below_alloc (Below.refl w.heap.size w) _) hb)
  clear hCL hCU hb
  by_cases hl : (clsL n of (-1)).length = 0
  · have d1 : decide ((0 : Int) < ((clsL n of (-1)).length : Int)) = false := decide_eq_false (by omega)
    have d2 : decide (0 < (clsL n of (-1)).length) = false := decide_eq_false (by omega)
    have HLn := Aside0.mk hl
    clear hl
    go_wp2_with fail
    go_ret3
    exact ⟨of, u, HMO, .inr ⟨HLn.out, _, _, rfl, by assumption, HCL.out⟩, HB.out⟩
  · have d1 : decide ((0 : Int) < ((clsL n of (-1)).length : Int)) = true := decide_eq_true (by omega)
    have d2 : decide (0 < (clsL n of (-1)).length) = true := decide_eq_true (by omega)
    have HLn : Aside0 (0 < (clsL n of (-1)).length) := ⟨by omega⟩
    clear hl
    go_wp2_with fail
    go_ret3
    exact ⟨of, u, HMO, .inl ⟨HLn.out, _, _, rfl, hcu, HCU.out⟩, HB.out⟩
theorem rk_all {n : Nat} (hn : n ≤ 64) {rk : List Int → Int} {M : Gw.Mat n} (h : IsMat n rk M) : rk (allL n) = (M.r Gw.full : Int) ∧ M.r Gw.full ≤ n := by
  have hset : setN (allL n) (n : Int) = true := setN_of (by omega) (fun x hx => mem_allL.1 hx) (mayF_pairwise (allL_may n (by omega)))
  rw [h _ hset]
  refine ⟨congrArg _ (M.ext _ _ fun i hi => ?_), by have := M.le Gw.full; rwa [Gw.card_full] at this⟩
  have : stL (allL n) i = true := mem_stL.2 (mem_allL.2 (by omega))
  rw [this]; rfl
set_option maxHeartbeats 4000000 in
set_option maxRecDepth 100000 in
theorem Pack_ok (n k : Nat) (h1 : 1 ≤ k) (h8 : k ≤ 8) (m : S25) (rk : List Int → Int) (M : Gw.Mat n) (hR : RankAt n m rk) (hn : m.f1 = (n : Int)) (hMat : IsMat n rk M) (A4 A5 : Option Addr) (c4 c5 : Nat) (w : World) (l4 : m.f4.length ≤ c4) (g4 : Kd.C (Kd.slice 3 (Kd.int .i64)) w A4 m.f4.length m.f4) (l5 : m.f5.length ≤ c5) (g5 : Kd.C k25 w A5 m.f5.length m.f5) (hok : goodD 4 m = true) :
    Calls Tryz.prog 17 #[.agg #[.int .i64 m.f0, .int .i64 m.f1, .int .i64 m.f2, .int .i64 m.f3, .slice A4 m.f4.length c4, .slice A5 m.f5.length c5], .int .i64 k] w fun e w' => ∃ of u, Aside0 (Most n k (fun _ => M) of u) ∧ ((n < (clsL n of (-1)).length + k * M.r Gw.full ∧ ∃ U cu, e = .returned (.tuple #[.slice none 0 0, .slice U u.length cu, .int .i64 170]) ∧ u.length ≤ cu ∧ Kd.C (Kd.int .i64) w' U u.length u) ∨ ((clsL n of (-1)).length + k * M.r Gw.full ≤ n ∧ ∃ Al cl, e = .returned (.tuple #[.slice Al k cl, .slice none 0 0, .int .i64 0]) ∧ k ≤ cl ∧ Kd.C KR w' Al k (clsLL n of k))) ∧ Below w.heap.size w w' := by
  have hu25 := Tryz.underlying25
  have hN := good_N hok
  have h64 : n ≤ 64 := by omega
  have hcl := Aside0.mk (fun (W : World) (hW : Below w.heap.size w W) => bclasses_ok n k h1 h8 m rk M hR hn hMat A4 A5 c4 c5 W l4 (Kd.C_below g4 hW) l5 (Kd.C_below g5 hW) hok)
  have hall := Aside0.mk (fun (W : World) (hW : Below w.heap.size w W) => spanAll_ok n m rk hR hn A4 A5 c4 c5 W l4 (Kd.C_below g4 hW) l5 (Kd.C_below g5 hW) hok)
  obtain ⟨hr1, hr2⟩ := rk_all h64 hMat
  rw [hr1] at hall
  rw [hn] at hcl hall ⊢
  generalize M.r Gw.full = r at *
  clear g4 g5 l4 l5 hok hn hR hMat hr1 hN
  go_enter Tryz.func17, Tryz.ntmps17
  go_wp2_with fail
  have BK0 := Aside0.mk (blk_new w (.cells #[.int .i64 m.f0, .int .i64 n, .int .i64 m.f2, .int .i64 m.f3, .slice A4 m.f4.length c4, .slice A5 m.f5.length c5] 25))
  have HB0 := Aside0.mk (below_alloc (Below.refl w.heap.size w) (.cells #[.int .i64 m.f0, .int .i64 n, .int .i64 m.f2, .int .i64 m.f3, .slice A4 m.f4.length c4, .slice A5 m.f5.length c5] 25))
  generalize w.alloc _ = W0 at BK0 HB0 ⊢
  generalize hg : w.heap.size = g at BK0 ⊢
  have HG := Aside0.mk hg
  clear hg
  refine (hcl.out _ HB0.out).mono ?_
  rintro e w1 ⟨Al, cl, U, cu, of, u, rfl, HMO, hcl2, hCL, hcu, hCU, hb⟩
  have HCL := Aside0.mk hCL
  have HCU := Aside0.mk hCU
  have BK1 := Aside0.mk (blk_below hb BK0.out)
  have HB1 := Aside0.mk (below_next HB0.out hb)
  have hlf : (clsL n of (-1)).length ≤ n := cls_len n of (-1)
  clear hCL hCU hb BK0 HB0 hcl
  obtain ⟨lf, hlfe⟩ : ∃ lf, (clsL n of (-1)).length = lf := ⟨_, rfl⟩
  have HLF := Aside0.mk hlfe
  rw [hlfe] at hlf ⊢
  clear hlfe
  have z0 := (blk_cell BK1.out 0).trans rfl
  have z1 := (blk_cell BK1.out 1).trans rfl
  have z2 := (blk_cell BK1.out 2).trans rfl
  have z3 := (blk_cell BK1.out 3).trans rfl
  have z4 := (blk_cell BK1.out 4).trans rfl
  have z5 := (blk_cell BK1.out 5).trans rfl
  have hkr : k * r ≤ 8 * 64 := Nat.mul_le_mul h8 (by omega)
  obtain ⟨kr, hkre⟩ : ∃ kr, k * r = kr := ⟨_, rfl⟩
  have HKR := Aside0.mk hkre
  have hw1 : IntKind.i64.wrap ((n : Int) - (lf : Int)) = ((n - lf : Nat) : Int) := by rw [IntWalk.i64_in _ (by omega)]; omega
  have hw2 : IntKind.i64.wrap ((k : Int) * (r : Int)) = (kr : Int) := by
    have e : (k : Int) * (r : Int) = (kr : Int) := by rw [← hkre]; simp
    rw [e, IntWalk.i64_in _ (by omega)]
  rw [hkre] at hkr
  clear hkre
  go_upto_region 4 with (fail)
  go_cut [23] (fun s23 wx => s23 = .bool (decide (n - lf < kr)) ∧ Aside0 (Below w1.heap.size w1 wx))
  case first =>
    go_region_held3 (fun W => W.cell? ⟨g, 0, none⟩ = some (.int .i64 m.f0) ∧ W.cell? ⟨g, 1, none⟩ = some (.int .i64 n) ∧ W.cell? ⟨g, 2, none⟩ = some (.int .i64 m.f2) ∧ W.cell? ⟨g, 3, none⟩ = some (.int .i64 m.f3) ∧ W.cell? ⟨g, 4, none⟩ = some (.slice A4 m.f4.length c4) ∧ W.cell? ⟨g, 5, none⟩ = some (.slice A5 m.f5.length c5))
      (first | go_keep | (go_split_ands; (repeat' apply And.intro) <;> exact pw_cell_below hbR (by assumption)))
      (first
        | (go_at_call 47; with_reducible refine (hall.out _ (by first | exact HB1.out | exact below_drew HB1.out)).mono ?_; rintro e w2 ⟨rfl, hbR⟩))
    all_goals (go_wp2_with fail; go_meet; exact ⟨rfl, ⟨by first | exact hbR | exact below_next (below_drew (Below.refl _ _)) hbR⟩⟩)
  case rest =>
    obtain ⟨rfl, HBx⟩ := hcut
    have HBw := Aside0.mk (below_next HB1.out HBx.out)
    have HCLw := Aside0.mk (Kd.C_below HCL.out HBx.out)
    have HCUw := Aside0.mk (Kd.C_below HCU.out HBx.out)
    clear z0 z1 z2 z3 z4 z5 hw1 hw2 HBx BK1
    by_cases hlt : n - lf < kr
    · have d1 : decide (n - lf < kr) = true := decide_eq_true hlt
      rw [d1]
      have HE : Aside0 (n < (clsL n of (-1)).length + k * r) := ⟨by rw [HLF.out, HKR.out]; omega⟩
      clear d1 hlt
      go_wp2_with fail
      go_ret3
      exact ⟨of, u, HMO, .inl ⟨HE.out, _, _, rfl, hcu, HCUw.out⟩, HBw.out⟩
    · have d1 : decide (n - lf < kr) = false := decide_eq_false hlt
      rw [d1]
      have HE : Aside0 ((clsL n of (-1)).length + k * r ≤ n) := ⟨by rw [HLF.out, HKR.out]; omega⟩
      clear d1 hlt
      go_wp2_with fail
      go_ret3
      exact ⟨of, u, HMO, .inr ⟨HE.out, _, _, rfl, hcl2, HCLw.out⟩, HBw.out⟩
end Go.Proofs.YtmcloifhgbehdaaGreatDoor
namespace Go.Proofs.YtmcloifhgbehdaaGreatDoor
open Go.RowKit Go.Proofs.YtmcloifhgbehdaaGreatDoorW.PrintWords Go.Proofs.YtmcloifhgbehdaaGreatDoorW.PrintLast Go.Proofs.YtmcloifhgbehdaaGreatDoorW.PrintMore Go.Proofs.YtmcloifhgbehdaaGreatDoor.PBasesSteps
set_option linter.unusedVariables false
set_option linter.unusedSimpArgs false
def um (n a : Nat) : S25 := ⟨0, (n : Int), (a : Int), 0, [], []⟩
def uniM (n a : Nat) : Gw.Mat n := Gw.Mat.trunc (Gw.Mat.free n) a
theorem uniM_r (n a : Nat) (s : Gw.St) : (uniM n a).r s = min (Gw.card n s) a := rfl
theorem um_good {n a : Nat} (hn : n ≤ 64) (ha : a ≤ n) : goodD 4 (um n a) = true := by
  have e1 : inB ((n : Int)) 64 = true := by simp [inB]; omega
  have e2 : inB ((a : Int)) 64 = true := by simp [inB]; omega
  rw [goodD]
  simp [um, e1, e2, plainB]
  omega
theorem um_mat (n a : Nat) : IsMat n (rkU (um n a)) (uniM n a) := by
  intro s hs
  rw [uniM_r, card_stL hs]
  simp only [rkU, um]
  omega
/-- how many elements have none. -/
theorem left_many {n K : Nat} {M : Nat → Gw.Mat n} {of : List Int} (hn : n ≤ 100000) (hO : Ok n K M of) : (clsL n of (-1)).length + many n of = n := by
  rw [← card_stL (clsL_set n hn of (-1))]
  unfold many
  have h := Gw.Mat.card_co n (Gw.Mat.got (ofN of))
  suffices e : Gw.card n (stL (clsL n of (-1))) = Gw.card n (Gw.Mat.co (Gw.Mat.got (ofN of))) by omega
  refine Gw.card_congr fun i hi => ?_
  rw [Bool.eq_iff_iff, mem_stL, mem_clsL]
  have hlo := hO.good.lo i hi
  change -1 ≤ rd of (i : Int) ∧ rd of (i : Int) < K at hlo
  have e : Gw.Mat.co (Gw.Mat.got (ofN of)) i = true ↔ ¬ 0 ≤ rd of (i : Int) := by simp only [Gw.Mat.co, Gw.Mat.got, ofN, Bool.not_eq_true']; exact decide_eq_false_iff_not
  rw [e]
  constructor
  · rintro ⟨j, _, e, h⟩
    rw [show (i : Int) = (j : Int) from e, h]
    omega
  · intro h
    exact ⟨i, hi, rfl, by omega⟩
theorem most_many {n K : Nat} {M : Nat → Gw.Mat n} {of u : List Int} (h : Most n K M of u) : many n of + u.length = n + Gw.Mat.sumK K fun j => (M j).r (stL u) := by
  have := h.shut.many h.ok.good
  rw [card_stL h.set] at this
  exact this
theorem most_one {n K : Nat} {M : Gw.Mat n} {of u : List Int} (h : Most n K (fun _ => M) of u) : many n of + u.length = n + K * M.r (stL u) := by
  rw [most_many h, Gw.Mat.sumK_const]
theorem uni_many {n a k : Nat} {of u : List Int} (hk : 1 ≤ k) (ha : a ≤ n) (h : Most n k (fun _ => uniM n a) of u) : many n of = min n (k * a) := by
  have h1 := most_one h
  have hu := setN_length h.set
  rw [uniM_r, card_stL h.set] at h1
  have h2 := h.ok.good.most Gw.full
  rw [Gw.card_full, Gw.Mat.sumK_const, uniM_r, Gw.card_full, Nat.min_eq_right ha] at h2
  change many n of + n ≤ n + k * a at h2
  have h3 := many_le n of
  rcases Nat.le_total u.length a with h4 | h4
  · rw [Nat.min_eq_left h4] at h1
    have h5 : u.length ≤ k * u.length := Nat.le_mul_of_pos_left _ hk
    omega
  · rw [Nat.min_eq_right h4] at h1
    omega
/-- classes together. -/
theorem many_sum {n K : Nat} {M : Nat → Gw.Mat n} {of : List Int} (hn : n ≤ 100000) (hO : Ok n K M of) : many n of = Gw.Mat.sumK K fun j => (clsL n of (j : Int)).length := by
  have h := Gw.Mat.card_cls (n := n) (fun x hx => (hO.good.lo x hx).2) Gw.full
  have e1 : Gw.card n (Gw.int (Gw.Mat.got (ofN of)) Gw.full) = many n of := Gw.card_congr fun i _ => by simp [Gw.int, Gw.full]
  rw [← e1, h]
  refine Gw.Mat.sumK_congr fun j hj => ?_
  rw [← card_stL (clsL_set n hn of (j : Int))]
  refine Gw.card_congr fun i hi => ?_
  rw [← cls_clsL n of j i hi]
  simp [Gw.int, Gw.full]
theorem cls_rank {n K : Nat} {M : Nat → Gw.Mat n} {of : List Int} (hn : n ≤ 100000) (hO : Ok n K M of) {j : Nat} (hj : j < K) : (M j).r (stL (clsL n of (j : Int))) = (clsL n of (j : Int)).length := by
  have h := hO.good.ind j hj
  rw [← card_stL (clsL_set n hn of (j : Int))]
  exact ((M j).indep_ext (cls_clsL n of j)).1 h
theorem R2May_from (l : List Int) (hm : mayB l = true) (hl : l.length ≤ 100000) : ∀ (d i K : Nat), l.length - i = d → i ≤ l.length → d < K → greenwoodref02_May.l0 K l (i : Int) = some true := by
  intro d
  have hp := mayF_pairwise hm
  induction d with
  | zero =>
    intro i K hd hi hK
    obtain ⟨K, rfl⟩ : ∃ K', K = K' + 1 := ⟨K - 1, by omega⟩
    simp only [greenwoodref02_May.l0]
    rw [if_neg (by omega)]
  | succ d ih =>
    intro i K hd hi hK
    obtain ⟨K, rfl⟩ : ∃ K', K = K' + 1 := ⟨K - 1, by omega⟩
    simp only [greenwoodref02_May.l0]
    have hil : i < l.length := by omega
    have hx := mayF_lt hm l[i] (List.getElem_mem hil)
    rw [if_pos (by omega), if_pos (by omega), rd_nat l i hil, if_neg (by omega), if_neg (by omega), wrap_succ i (by omega)]
    by_cases h0 : (i : Int) > 0
    · have hlt : l[i - 1] < l[i] := by
        have := List.pairwise_iff_getElem.1 hp (i - 1) i (by omega) hil (by omega)
        exact this
      rw [if_pos h0, wrap_pred i (by omega) (by omega), if_pos (by omega), if_pos (by omega), rd_nat l (i - 1) (by omega), if_neg (by omega)]
      exact ih (i + 1) K (by omega) (by omega) (by omega)
    · rw [if_neg h0]
      exact ih (i + 1) K (by omega) (by omega) (by omega)
theorem R2May_ok (l : List Int) (hm : mayB l = true) (hl : l.length ≤ 100000) (A : Option Addr) (c : Nat) (w : World) (hr : Kd.C (Kd.int .i64) w A l.length l) (hc : l.length ≤ c) :
    Calls Tryz.prog 44 #[.slice A l.length c] w fun e w' => e = .returned (.bool true) ∧ Below w.heap.size w w' :=
  (greenwoodref02_May.calls (l.length + 1) A c l true w hr hc (R2May_from l hm hl l.length 0 (l.length + 1) (by omega) (by omega) (by omega))).mono fun _ _ ⟨h1, h2⟩ => ⟨h1, h2.below⟩
theorem C_nilL (w : World) : Kd.C KR w none 0 [] := ⟨rfl, by omega, fun h => absurd h (by omega)⟩
theorem C_nilM (w : World) : Kd.C k25 w none 0 [] := ⟨rfl, by omega, fun h => absurd h (by omega)⟩
theorem Pack_um (n a k : Nat) (hn : n ≤ 64) (ha : a ≤ n) (h1 : 1 ≤ k) (h8 : k ≤ 8) (N A K : Int) (eN : N = n) (eA : A = a) (eK : K = k) (w : World) :
    Calls Tryz.prog 17 #[.agg #[.int .i64 0, .int .i64 N, .int .i64 A, .int .i64 0, .slice none 0 0, .slice none 0 0], .int .i64 K] w fun e w' => ∃ of u, Aside0 (Most n k (fun _ => uniM n a) of u) ∧ ((n < k * a ∧ ∃ U cu, e = .returned (.tuple #[.slice none 0 0, .slice U u.length cu, .int .i64 170]) ∧ u.length ≤ cu ∧ Kd.C (Kd.int .i64) w' U u.length u) ∨ (k * a ≤ n ∧ ∃ Al cl, e = .returned (.tuple #[.slice Al k cl, .slice none 0 0, .int .i64 0]) ∧ k ≤ cl ∧ Kd.C KR w' Al k (clsLL n of k))) ∧ Below w.heap.size w w' := by
  subst eN eA eK
  refine (Pack_ok n k h1 h8 (um n a) (rkU (um n a)) (uniM n a) (rankU_at n (um n a) rfl) rfl (um_mat n a) none none 0 0 w (Nat.le_refl 0) (C_nilL w) (Nat.le_refl 0) (C_nilM w) (um_good hn ha)).mono ?_
  rintro e w' ⟨of, u, HM, h, hb⟩
  have hr : (uniM n a).r Gw.full = a := by rw [uniM_r, Gw.card_full]; omega
  rw [hr] at h
  have h2 := left_many (by omega) HM.out.ok
  have h3 := uni_many h1 ha HM.out
  rcases h with ⟨h4, h5⟩ | ⟨h4, h5⟩
  · exact ⟨of, u, HM, .inl ⟨by omega, h5⟩, hb⟩
  · exact ⟨of, u, HM, .inr ⟨by omega, h5⟩, hb⟩
theorem Cover_um (n a k : Nat) (hn : n ≤ 64) (ha : a ≤ n) (h1 : 1 ≤ k) (h8 : k ≤ 8) (N A K : Int) (eN : N = n) (eA : A = a) (eK : K = k) (w : World) :
    Calls Tryz.prog 18 #[.agg #[.int .i64 0, .int .i64 N, .int .i64 A, .int .i64 0, .slice none 0 0, .slice none 0 0], .int .i64 K] w fun e w' => ∃ of u, Aside0 (Most n k (fun _ => uniM n a) of u) ∧ ((k * a < n ∧ ∃ U cu, e = .returned (.tuple #[.slice none 0 0, .slice U u.length cu, .int .i64 171]) ∧ u.length ≤ cu ∧ Kd.C (Kd.int .i64) w' U u.length u) ∨ (n ≤ k * a ∧ ∃ Al cl, e = .returned (.tuple #[.slice Al k cl, .slice none 0 0, .int .i64 0]) ∧ k ≤ cl ∧ Kd.C KR w' Al k (clsLL n of k))) ∧ Below w.heap.size w w' := by
  subst eN eA eK
  refine (Cover_ok n k h1 h8 (um n a) (rkU (um n a)) (uniM n a) (rankU_at n (um n a) rfl) rfl (um_mat n a) none none 0 0 w (Nat.le_refl 0) (C_nilL w) (Nat.le_refl 0) (C_nilM w) (um_good hn ha)).mono ?_
  rintro e w' ⟨of, u, HM, h, hb⟩
  have h2 := left_many (by omega) HM.out.ok
  have h3 := uni_many h1 ha HM.out
  rcases h with ⟨h4, h5⟩ | ⟨h4, h5⟩
  · exact ⟨of, u, HM, .inl ⟨by omega, h5⟩, hb⟩
  · exact ⟨of, u, HM, .inr ⟨by omega, h5⟩, hb⟩
set_option maxHeartbeats 2000000 in
set_option maxRecDepth 100000 in
theorem bclasses_arg (v : Value) (hv : ∃ a b c d e f, v = .agg #[a, b, c, d, e, f]) (K : Int) (hK : K < 1 ∨ 8 < K) (w : World) :
    Calls Tryz.prog 46 #[v, .int .i64 K] w fun e w' => e = .returned (.tuple #[.slice none 0 0, .slice none 0 0, .int .i64 0, .int .i64 1]) ∧ Below w.heap.size w w' := by
  have hu25 := Tryz.underlying25
  obtain ⟨a, b, c, d, e, f, rfl⟩ := hv
  by_cases h1 : K < 1
  · have d1 : decide (K < 1) = true := decide_eq_true h1
    clear hK
    go_enter Tryz.func46, Tryz.ntmps46
    go_wp2_with fail
    refine bodyPost_ret (v := .tuple #[.slice none 0 0, .slice none 0 0, .int .i64 0, .int .i64 1]) (by simp [results, Tryz.results46, go_sem]) rfl ?_
    exact ⟨rfl, below_alloc (Below.refl _ _) _⟩
  · have d1 : decide (K < 1) = false := decide_eq_false h1
    have d2 : decide (8 < K) = true := decide_eq_true (by omega)
    have h8 : 8 < K := by omega
    clear hK
    go_enter Tryz.func46, Tryz.ntmps46
    go_wp2_with fail
    refine bodyPost_ret (v := .tuple #[.slice none 0 0, .slice none 0 0, .int .i64 0, .int .i64 1]) (by simp [results, Tryz.results46, go_sem]) rfl ?_
    exact ⟨rfl, below_alloc (Below.refl _ _) _⟩
set_option maxHeartbeats 2000000 in
set_option maxRecDepth 100000 in
theorem Pack_arg (a b c d e f : Value) (K : Int) (hK : K < 1 ∨ 8 < K) (w : World) :
    Calls Tryz.prog 17 #[.agg #[a, b, c, d, e, f], .int .i64 K] w fun e w' => e = .returned (.tuple #[.slice none 0 0, .slice none 0 0, .int .i64 1]) ∧ Below w.heap.size w w' := by
  have hu25 := Tryz.underlying25
  have HK := Aside0.mk hK
  clear hK
  go_enter Tryz.func17, Tryz.ntmps17
  go_wp2_with fail
  refine (bclasses_arg _ ⟨_, _, _, _, _, _, rfl⟩ K HK.out _).mono ?_
  rintro e w1 ⟨rfl, hb⟩
  have HB := Aside0.mk (below_next (below_alloc (Below.refl w.heap.size w) _) hb)
  clear hb
  go_wp2_with fail
  go_ret3
  exact ⟨rfl, HB.out⟩
end Go.Proofs.YtmcloifhgbehdaaGreatDoor
namespace Go.Proofs.YtmcloifhgbehdaaGreatDoor
open Go.RowKit Go.Proofs.YtmcloifhgbehdaaGreatDoorW.PrintWords Go.Proofs.YtmcloifhgbehdaaGreatDoorW.PrintLast Go.Proofs.YtmcloifhgbehdaaGreatDoorW.PrintMore Go.Proofs.YtmcloifhgbehdaaGreatDoor.PBasesSteps
set_option linter.unusedVariables false
set_option linter.unusedSimpArgs false
theorem two_cls {of u : List Int} (h : Most 4 2 (fun _ => uniM 4 2) of u) : (clsL 4 of ((0 : Nat) : Int)).length = 2 := by
  have h1 := uni_many (by omega) (by omega) h
  rw [many_sum (by omega) h.ok] at h1
  have h2 := cls_rank (by omega) h.ok (show 0 < 2 by omega)
  have h3 := cls_rank (by omega) h.ok (show 1 < 2 by omega)
  rw [uniM_r, card_stL (clsL_set 4 (by omega) of _)] at h2 h3
  simp only [Gw.Mat.sumK] at h1
  omega
theorem five_out {of u : List Int} (h : Most 5 2 (fun _ => uniM 5 2) of u) : u.length = 5 := by
  have h1 := uni_many (by omega) (by omega) h
  have h2 := most_one h
  rw [uniM_r, card_stL h.set] at h2
  have h3 := setN_length h.set
  omega
theorem two_new (w : World) (o o' : Obj) : ((w.alloc o).alloc o').heap[w.heap.size]? = some o ∧ ((w.alloc o).alloc o').heap[w.heap.size + 1]? = some o' ∧ Below w.heap.size w ((w.alloc o).alloc o') := by
  have hsz : (w.alloc o).heap.size = w.heap.size + 1 := Array.size_push _
  exact ⟨blk_below (below_alloc (Below.refl (w.alloc o).heap.size (w.alloc o)) o') (blk_new w o), hsz ▸ blk_new (w.alloc o) o', below_alloc (below_alloc (Below.refl w.heap.size w) o) o'⟩
set_option maxHeartbeats 4000000 in
set_option maxRecDepth 100000 in
theorem fixed17_ok (w : World) : Calls Tryz.prog 14 #[] w fun e w' => e = .returned (.bool true) ∧ Below w.heap.size w w' := by
  have hu25 := Tryz.underlying25
  go_enter Tryz.func14, Tryz.ntmps14
  go_upto_region 2 with (fail)
  obtain ⟨ba, bb, hb0⟩ := two_new w (.cells #[.int .i64 0, .int .i64 4, .int .i64 2, .int .i64 0, .slice none 0 0, .slice none 0 0] 25) (.cells #[.int .i64 0, .int .i64 5, .int .i64 2, .int .i64 0, .slice none 0 0, .slice none 0 0] 25)
  have BA := Aside0.mk ba
  have BB := Aside0.mk bb
  have HB0 := Aside0.mk hb0
  clear ba bb hb0
  generalize (w.alloc _).alloc _ = W0 at *
  generalize w.heap.size + 1 = gb at *
  generalize hg : w.heap.size = ga at BA ⊢
  have HG := Aside0.mk hg
  clear hg
  have z0 := (blk_cell BA.out 0).trans rfl
  have z1 := (blk_cell BA.out 1).trans rfl
  have z2 := (blk_cell BA.out 2).trans rfl
  have z3 := (blk_cell BA.out 3).trans rfl
  have z4 := (blk_cell BA.out 4).trans rfl
  have z5 := (blk_cell BA.out 5).trans rfl
  go_wp2_with fail
  refine (Pack_um 4 2 2 (by omega) (by omega) (by omega) (by omega) 4 2 2 rfl rfl rfl _).mono ?_
  rintro e w1 ⟨ofw1, uw1, HMw1, h, hb⟩
  rcases h with ⟨h, _⟩ | ⟨_, Al, cl, rfl, hcl, hCl⟩
  · omega
  obtain ⟨ad, Bq, cq, rfl, hq, -⟩ := at_L1 hCl (0 : Int) (by omega) (by omega)
  rw [show rd_L1 (clsLL 4 ofw1 2) (0 : Int) = clsL 4 ofw1 ((0 : Nat) : Int) from rfl, two_cls HMw1.out, Int.toNat_zero, Addr.add_zero'] at hq
  have HB1 := Aside0.mk (below_next HB0.out hb)
  have BA1 := Aside0.mk (blk_below hb BA.out)
  have BB1 := Aside0.mk (blk_below hb BB.out)
  have HQ1 := Aside0.mk hq
  clear hb hq hCl z0 z1 z2 z3 z4 z5 BA BB
  have z0 := (blk_cell BB1.out 0).trans rfl
  have z1 := (blk_cell BB1.out 1).trans rfl
  have z2 := (blk_cell BB1.out 2).trans rfl
  have z3 := (blk_cell BB1.out 3).trans rfl
  have z4 := (blk_cell BB1.out 4).trans rfl
  have z5 := (blk_cell BB1.out 5).trans rfl
  go_wp2_with fail
  refine (Pack_um 5 2 3 (by omega) (by omega) (by omega) (by omega) 5 2 3 rfl rfl rfl _).mono ?_
  rintro e w2 ⟨ofw2, uw2, HMw2, h, hb⟩
  rcases h with ⟨_, U2, cu2, rfl, hcu2, hCu2⟩ | ⟨h, _⟩
  rotate_left
  · omega
  have HB2 := Aside0.mk (below_next HB1.out hb)
  have BA2 := Aside0.mk (blk_below hb BA1.out)
  have BB2 := Aside0.mk (blk_below hb BB1.out)
  have HQ2 := Aside0.mk (pw_cell_below hb HQ1.out)
  have HU2 := Aside0.mk hCu2
  clear hb hCu2 z0 z1 z2 z3 z4 z5 BA1 BB1
  have z0 := (blk_cell BB2.out 0).trans rfl
  have z1 := (blk_cell BB2.out 1).trans rfl
  have z2 := (blk_cell BB2.out 2).trans rfl
  have z3 := (blk_cell BB2.out 3).trans rfl
  have z4 := (blk_cell BB2.out 4).trans rfl
  have z5 := (blk_cell BB2.out 5).trans rfl
  go_wp2_with fail
  refine (Cover_um 5 2 3 (by omega) (by omega) (by omega) (by omega) 5 2 3 rfl rfl rfl _).mono ?_
  rintro e w3 ⟨ofw3, uw3, HMw3, h, hb⟩
  rcases h with ⟨h, _⟩ | ⟨_, Ac, cc, rfl, hcc, hCc⟩
  · omega
  have HB3 := Aside0.mk (below_next HB2.out hb)
  have BB3 := Aside0.mk (blk_below hb BB2.out)
  have HQ3 := Aside0.mk (pw_cell_below hb HQ2.out)
  have HU3 := Aside0.mk (Kd.C_below HU2.out hb)
  clear hb hCc z0 z1 z2 z3 z4 z5 BB2 BA2
  have z0 := (blk_cell BB3.out 0).trans rfl
  have z1 := (blk_cell BB3.out 1).trans rfl
  have z2 := (blk_cell BB3.out 2).trans rfl
  have z3 := (blk_cell BB3.out 3).trans rfl
  have z4 := (blk_cell BB3.out 4).trans rfl
  have z5 := (blk_cell BB3.out 5).trans rfl
  go_wp2_with fail
  refine (Cover_um 5 2 2 (by omega) (by omega) (by omega) (by omega) 5 2 2 rfl rfl rfl _).mono ?_
  rintro e w4 ⟨ofw4, uw4, HMw4, h, hb⟩
  rcases h with ⟨_, U4, cu4, rfl, hcu4, _⟩ | ⟨h, _⟩
  rotate_left
  · omega
  rw [five_out HMw4.out] at hcu4 ⊢
  have HB4 := Aside0.mk (below_next HB3.out hb)
  have BB4 := Aside0.mk (blk_below hb BB3.out)
  have HQ4 := Aside0.mk (pw_cell_below hb HQ3.out)
  have HU4 := Aside0.mk (Kd.C_below HU3.out hb)
  clear hb z0 z1 z2 z3 z4 z5 BB3
  have z0 := (blk_cell BB4.out 0).trans rfl
  have z1 := (blk_cell BB4.out 1).trans rfl
  have z2 := (blk_cell BB4.out 2).trans rfl
  have z3 := (blk_cell BB4.out 3).trans rfl
  have z4 := (blk_cell BB4.out 4).trans rfl
  have z5 := (blk_cell BB4.out 5).trans rfl
  go_wp2_with fail
  refine (Pack_arg _ _ _ _ _ _ 9 (by omega) _).mono ?_
  rintro e w5 ⟨rfl, hb⟩
  have HB5 := Aside0.mk (below_next HB4.out hb)
  have q5 := pw_cell_below hb HQ4.out
  have HU5 := Aside0.mk (Kd.C_below HU4.out hb)
  have hul := setN_length HMw2.out.set
  have HUM := Aside0.mk (setN_may HMw2.out.set)
  clear hb z0 z1 z2 z3 z4 z5 BB4
  go_wp2_with fail
  refine (R2May_ok uw2 HUM.out (by omega) U2 cu2 w5 HU5.out hcu2).mono ?_
  rintro e w6 ⟨rfl, hb⟩
  have HB6 := Aside0.mk (below_next HB5.out hb)
  clear hb
  go_wp2_with fail
  go_ret
  exact ⟨rfl, HB6.out⟩
end Go.Proofs.YtmcloifhgbehdaaGreatDoor
namespace Go.Proofs.YtmcloifhgbehdaaGreatDoor
open Go.RowKit Go.Proofs.YtmcloifhgbehdaaGreatDoorW.PrintWords Go.Proofs.YtmcloifhgbehdaaGreatDoorW.PrintLast Go.Proofs.YtmcloifhgbehdaaGreatDoorW.PrintMore Go.Proofs.YtmcloifhgbehdaaGreatDoor.PBasesSteps
set_option linter.unusedVariables false
set_option linter.unusedSimpArgs false
set_option maxHeartbeats 4000000 in
set_option maxRecDepth 100000 in
theorem BasesUniform_bad (N A K : Int) (h : N < 0 ∨ 12 < N ∨ A < 0 ∨ N < A ∨ K < 1 ∨ 8 < K) (w : World) :
    Calls Tryz.prog 4 #[.int .i64 N, .int .i64 A, .int .i64 K] w fun e w' => e = .returned (.bool true) ∧ Below w.heap.size w w' := by
  by_cases h1 : N < 0
  · have d1 : decide (N < 0) = true := decide_eq_true h1
    clear h
    go_enter Tryz.func4, Tryz.ntmps4
    go_wp2_with fail
    refine (fixed17_ok _).mono ?_
    rintro e w1 ⟨rfl, hb1⟩
    have HB1 := Aside0.mk hb1
    clear hb1
    go_wp2_with fail
    refine (fixed17_ok _).mono ?_
    rintro e w2 ⟨rfl, hb2⟩
    have HB2 := Aside0.mk (below_next HB1.out hb2)
    clear hb2
    go_wp2_with fail
    go_ret
    exact ⟨rfl, HB2.out⟩
  have d1 : decide (N < 0) = false := decide_eq_false h1
  by_cases h2 : 12 < N
  · have d2 : decide (12 < N) = true := decide_eq_true h2
    clear h
    go_enter Tryz.func4, Tryz.ntmps4
    go_wp2_with fail
    refine (fixed17_ok _).mono ?_
    rintro e w1 ⟨rfl, hb1⟩
    have HB1 := Aside0.mk hb1
    clear hb1
    go_wp2_with fail
    refine (fixed17_ok _).mono ?_
    rintro e w2 ⟨rfl, hb2⟩
    have HB2 := Aside0.mk (below_next HB1.out hb2)
    clear hb2
    go_wp2_with fail
    go_ret
    exact ⟨rfl, HB2.out⟩
  have d2 : decide (12 < N) = false := decide_eq_false h2
  by_cases h3 : A < 0
  · have d3 : decide (A < 0) = true := decide_eq_true h3
    clear h
    go_enter Tryz.func4, Tryz.ntmps4
    go_wp2_with fail
    refine (fixed17_ok _).mono ?_
    rintro e w1 ⟨rfl, hb1⟩
    have HB1 := Aside0.mk hb1
    clear hb1
    go_wp2_with fail
    refine (fixed17_ok _).mono ?_
    rintro e w2 ⟨rfl, hb2⟩
    have HB2 := Aside0.mk (below_next HB1.out hb2)
    clear hb2
    go_wp2_with fail
    go_ret
    exact ⟨rfl, HB2.out⟩
  have d3 : decide (A < 0) = false := decide_eq_false h3
  by_cases h4 : N < A
  · have d4 : decide (N < A) = true := decide_eq_true h4
    clear h
    go_enter Tryz.func4, Tryz.ntmps4
    go_wp2_with fail
    refine (fixed17_ok _).mono ?_
    rintro e w1 ⟨rfl, hb1⟩
    have HB1 := Aside0.mk hb1
    clear hb1
    go_wp2_with fail
    refine (fixed17_ok _).mono ?_
    rintro e w2 ⟨rfl, hb2⟩
    have HB2 := Aside0.mk (below_next HB1.out hb2)
    clear hb2
    go_wp2_with fail
    go_ret
    exact ⟨rfl, HB2.out⟩
  have d4 : decide (N < A) = false := decide_eq_false h4
  by_cases h5 : K < 1
  · have d5 : decide (K < 1) = true := decide_eq_true h5
    clear h
    go_enter Tryz.func4, Tryz.ntmps4
    go_wp2_with fail
    refine (fixed17_ok _).mono ?_
    rintro e w1 ⟨rfl, hb1⟩
    have HB1 := Aside0.mk hb1
    clear hb1
    go_wp2_with fail
    refine (fixed17_ok _).mono ?_
    rintro e w2 ⟨rfl, hb2⟩
    have HB2 := Aside0.mk (below_next HB1.out hb2)
    clear hb2
    go_wp2_with fail
    go_ret
    exact ⟨rfl, HB2.out⟩
  have d5 : decide (K < 1) = false := decide_eq_false h5
  have h6 : 8 < K := by omega
  have d6 : decide (8 < K) = true := decide_eq_true h6
  clear h
  go_enter Tryz.func4, Tryz.ntmps4
  go_wp2_with fail
  refine (fixed17_ok _).mono ?_
  rintro e w1 ⟨rfl, hb1⟩
  have HB1 := Aside0.mk hb1
  clear hb1
  go_wp2_with fail
  refine (fixed17_ok _).mono ?_
  rintro e w2 ⟨rfl, hb2⟩
  have HB2 := Aside0.mk (below_next HB1.out hb2)
  clear hb2
  go_wp2_with fail
  go_ret
  exact ⟨rfl, HB2.out⟩
set_option maxHeartbeats 4000000 in
set_option maxRecDepth 100000 in
theorem BasesUniform_good (n a k : Nat) (hn : n ≤ 12) (ha : a ≤ n) (h1 : 1 ≤ k) (h8 : k ≤ 8) (w : World) :
    Calls Tryz.prog 4 #[.int .i64 n, .int .i64 a, .int .i64 k] w fun e w' => e = .returned (.bool true) ∧ Below w.heap.size w w' := by
  have hu25 := Tryz.underlying25
  have d1 : decide ((n : Int) < 0) = false := decide_eq_false (by omega)
  have d2 : decide ((12 : Int) < (n : Int)) = false := decide_eq_false (by omega)
  have d2' : decide (12 < n) = false := decide_eq_false (by omega)
  have d3 : decide ((a : Int) < 0) = false := decide_eq_false (by omega)
  have d4 : decide (n < a) = false := decide_eq_false (by omega)
  have d5 : decide ((k : Int) < 1) = false := decide_eq_false (by omega)
  have d5' : decide (k < 1) = false := decide_eq_false (by omega)
  have d6 : decide ((8 : Int) < (k : Int)) = false := decide_eq_false (by omega)
  have d6' : decide (8 < k) = false := decide_eq_false (by omega)
  obtain ⟨p, hp⟩ : ∃ p, k * a = p := ⟨_, rfl⟩
  have hpl : p ≤ 8 * 12 := hp ▸ Nat.mul_le_mul h8 (by omega)
  have hw : IntKind.i64.wrap ((k : Int) * (a : Int)) = (p : Int) := by
    have e : (k : Int) * (a : Int) = (p : Int) := by rw [← hp]; simp
    rw [e, IntWalk.i64_in _ (by omega)]
  have HP := Aside0.mk hp
  clear hp
  go_enter Tryz.func4, Tryz.ntmps4
  go_wp2_with fail
  refine (fixed17_ok _).mono ?_
  rintro e w1 ⟨rfl, hb1⟩
  have HB1 := Aside0.mk hb1
  clear hb1
  go_upto_region 4 with (fail)
  have HB2 := Aside0.mk (below_alloc HB1.out (.cells #[.int .i64 0, .int .i64 n, .int .i64 a, .int .i64 0, .slice none 0 0, .slice none 0 0] 25))
  have BK2 := Aside0.mk (blk_new w1 (.cells #[.int .i64 0, .int .i64 n, .int .i64 a, .int .i64 0, .slice none 0 0, .slice none 0 0] 25))
  generalize w1.alloc _ = w2 at *
  generalize w1.heap.size = g at *
  have z0 := (blk_cell BK2.out 0).trans rfl
  have z1 := (blk_cell BK2.out 1).trans rfl
  have z2 := (blk_cell BK2.out 2).trans rfl
  have z3 := (blk_cell BK2.out 3).trans rfl
  have z4 := (blk_cell BK2.out 4).trans rfl
  have z5 := (blk_cell BK2.out 5).trans rfl
  go_wp2_with fail
  refine (Pack_um n a k (by omega) ha h1 h8 n a k rfl rfl rfl _).mono ?_
  rintro e w3 ⟨of3, u3, HM3, h, hb⟩
  have HB3 := Aside0.mk (below_next HB2.out hb)
  have BK3 := Aside0.mk (blk_below hb BK2.out)
  clear hb z0 z1 z2 z3 z4 z5 BK2
  have z0 := (blk_cell BK3.out 0).trans rfl
  have z1 := (blk_cell BK3.out 1).trans rfl
  have z2 := (blk_cell BK3.out 2).trans rfl
  have z3 := (blk_cell BK3.out 3).trans rfl
  have z4 := (blk_cell BK3.out 4).trans rfl
  have z5 := (blk_cell BK3.out 5).trans rfl
  rw [HP.out] at h
  rcases h with ⟨hlt, U, cu, rfl, -, -⟩ | ⟨hle, Al, cl, rfl, -, -⟩
  · have e1 : decide ((p : Int) ≤ (n : Int)) = false := decide_eq_false (by omega)
    have e1' : decide (p ≤ n) = false := decide_eq_false (by omega)
    have e2 : decide ((n : Int) ≤ (p : Int)) = true := decide_eq_true (by omega)
    have e2' : decide (n ≤ p) = true := decide_eq_true (by omega)
    go_wp2_with fail
    refine (Cover_um n a k (by omega) ha h1 h8 n a k rfl rfl rfl _).mono ?_
    rintro e w4 ⟨of4, u4, HM4, h, hb⟩
    have HB4 := Aside0.mk (below_next HB3.out hb)
    clear hb z0 z1 z2 z3 z4 z5 BK3
    rw [HP.out] at h
    rcases h with ⟨hlt2, _⟩ | ⟨_, A4, c4, rfl, -, -⟩
    · omega
    go_wp2_with fail
    go_ret
    exact ⟨rfl, HB4.out⟩
  · have e1 : decide ((p : Int) ≤ (n : Int)) = true := decide_eq_true (by omega)
    have e1' : decide (p ≤ n) = true := decide_eq_true (by omega)
    go_wp2_with fail
    refine (Cover_um n a k (by omega) ha h1 h8 n a k rfl rfl rfl _).mono ?_
    rintro e w4 ⟨of4, u4, HM4, h, hb⟩
    have HB4 := Aside0.mk (below_next HB3.out hb)
    clear hb z0 z1 z2 z3 z4 z5 BK3
    rw [HP.out] at h
    rcases h with ⟨hlt2, U4, cu4, rfl, -, -⟩ | ⟨hle2, A4, c4, rfl, -, -⟩
    · have e2 : decide ((n : Int) ≤ (p : Int)) = false := decide_eq_false (by omega)
      have e2' : decide (n ≤ p) = false := decide_eq_false (by omega)
      go_wp2_with fail
      go_ret
      exact ⟨rfl, HB4.out⟩
    · have e2 : decide ((n : Int) ≤ (p : Int)) = true := decide_eq_true (by omega)
      have e2' : decide (n ≤ p) = true := decide_eq_true (by omega)
      go_wp2_with fail
      go_ret
      exact ⟨rfl, HB4.out⟩
theorem BasesUniform_walk (N A K : Int) (w : World) :
    Calls Tryz.prog 4 #[.int .i64 N, .int .i64 A, .int .i64 K] w fun e w' => e = .returned (.bool true) ∧ Below w.heap.size w w' := by
  by_cases h : N < 0 ∨ 12 < N ∨ A < 0 ∨ N < A ∨ K < 1 ∨ 8 < K
  · exact BasesUniform_bad N A K h w
  · obtain ⟨n, rfl⟩ := Int.eq_ofNat_of_zero_le (show 0 ≤ N by omega)
    obtain ⟨a, rfl⟩ := Int.eq_ofNat_of_zero_le (show 0 ≤ A by omega)
    obtain ⟨k, rfl⟩ := Int.eq_ofNat_of_zero_le (show 0 ≤ K by omega)
    exact BasesUniform_good n a k (by omega) (by omega) (by omega) (by omega) w
end Go.Proofs.YtmcloifhgbehdaaGreatDoor
namespace Go.Proofs.YtmcloifhgbehdaaGreatDoor
open Go.ChangeShapes Go.WideShapes Go.ChangeAt Go.RowKit
theorem own_none : ownKnob Tryz.prog.godebug = none := by kernel_rfl
abbrev laid1 : List (String × DataW Unit) := [("errors.errorType", Rows.laid_errors_errorType)]
/-- A world that meets the condition: the settled one, the variable's cell laid. -/
noncomputable def laidWorld (os : Os) : World :=
  let w0 := World.holding Tryz.prog os ⟨#[], #[], []⟩
  { w0 with heap := w0.heap.modify 0 fun
      | .cells _ t frozen => .cells #[.iface 166 (.agg #[.pointer (some ⟨1, 107, none⟩)])] t frozen
      | o => o }
theorem laidWorld_met (os : Os) (args : Array Value) : laidMetH Tryz.prog laid1 ((laidWorld os).forCall (fun _ _ => 0) ⟨#[], args, []⟩).memory :=
  laidMetH_of_parts (laidMet_nil _ _) (by kernel_rfl)
end Go.Proofs.YtmcloifhgbehdaaGreatDoor
