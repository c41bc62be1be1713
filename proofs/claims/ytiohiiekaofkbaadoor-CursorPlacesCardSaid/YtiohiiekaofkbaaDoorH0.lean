/- A drawn region whose last operation, always the same one, writes what the others read. -/
import Derived.Deep.RegionHeld
import Derived.Deep.RegionHeld3
namespace Go.Proofs.YtiohiiekaofkbaaDoor
set_option linter.unusedVariables false
open Go

section
variable {P : Program} {ops : Array Oper} {Q : Exit → Act → World → Prop} {S : World → Prop} {d : Nat}

/-- what is listed is listed with all that it waits for -/
def closedB (ops : Array Oper) (listed : Array Bool) : Bool := (List.range ops.size).all fun j => !(listed.getD j true) || ((ops[j]?).map fun o => o.after.all fun e => !(Region.binds .any e) || listed.getD e.on false).getD true
/-- each operation ahead of d is waited for by a later one, up to d -/
def lastB (ops : Array Oper) (d : Nat) : Bool := decide (d < ops.size) && (List.range d).all fun i => (List.range (d + 1)).any fun j => decide (i < j) && ((ops[j]?).map fun o => o.after.any fun e => (e.on == i) && Region.binds .any e).getD false
theorem closed_spec {listed : Array Bool} (h : closedB ops listed = true) {j : Nat} {o : Oper} (ho : ops[j]? = some o) (hl : listed.getD j true = true) : ∀ e ∈ o.after, Region.binds .any e = true → listed.getD e.on false = true := by
  have hj : j < ops.size := (Array.getElem?_eq_some_iff.1 ho).1
  unfold closedB at h
  rw [List.all_eq_true] at h
  have := h j (List.mem_range.2 hj)
  rw [hl, ho] at this
  simp only [Bool.not_true, Bool.false_or, Option.map_some, Option.getD_some, Array.all_eq_true_iff_forall_mem, Bool.or_eq_true, Bool.not_eq_true'] at this
  intro e he hb
  rcases this e he with q | q
  · rw [hb] at q; cases q
  · exact q
theorem closed_set {listed : Array Bool} (h : closedB ops listed = true) {j : Nat} (hj : j ∈ Region.ready .any ops listed) : closedB ops (listed.setIfInBounds j true) = true := by
  unfold closedB
  rw [List.all_eq_true]
  intro k hk
  have hk' := List.mem_range.1 hk
  obtain ⟨o, ho⟩ : ∃ o, ops[k]? = some o := ⟨_, Array.getElem?_eq_getElem hk'⟩
  simp only [ho, Option.map_some, Option.getD_some, Bool.or_eq_true, Bool.not_eq_true', Array.all_eq_true_iff_forall_mem]
  by_cases hjk : j = k
  · subst hjk
    obtain ⟨h0, o', ho', hall⟩ := mem_ready.1 hj
    rw [ho] at ho'
    cases ho'
    right
    intro e he
    cases hb : Region.binds .any e
    · left; rfl
    · right; exact getD_set_true (hall e he hb)
  · cases hl : listed.getD k true
    · left; rw [getD_set_ne true hjk]; exact hl
    · right
      intro e he
      cases hb : Region.binds .any e
      · left; rfl
      · right; exact getD_set_true (closed_spec h ho hl e he hb)
theorem last_all {listed : Array Bool} (hL : lastB ops d = true) (h : closedB ops listed = true) (hz : ops.size ≤ listed.size) (hd : d ∈ Region.ready .any ops listed) : ∀ n i, i + n = d → i < d → listed.getD i true = true := by
  unfold lastB at hL
  rw [Bool.and_eq_true, List.all_eq_true] at hL
  obtain ⟨hL0, hL⟩ := hL
  have hds : d < ops.size := of_decide_eq_true hL0
  intro n
  induction n using Nat.strongRecOn with
  | ind n ih =>
    intro i hin hid
    have h1 := hL i (List.mem_range.2 hid)
    rw [List.any_eq_true] at h1
    obtain ⟨j, hj, h2⟩ := h1
    have hj' := List.mem_range.1 hj
    rw [Bool.and_eq_true] at h2
    have hij : i < j := of_decide_eq_true h2.1
    rcases ho : ops[j]? with _ | o
    · rw [ho] at h2; simp at h2
    · rw [ho] at h2
      simp only [Option.map_some, Option.getD_some] at h2
      obtain ⟨k, hk, hp⟩ := Array.any_eq_true.1 h2.2
      obtain ⟨e, hek⟩ : ∃ e, e = o.after[k] := ⟨_, rfl⟩
      have he : e ∈ o.after := by rw [hek]; exact Array.getElem_mem hk
      rw [← hek, Bool.and_eq_true, beq_iff_eq] at hp
      obtain ⟨rfl, hb⟩ := hp
      have key : listed.getD e.on false = true := by
        by_cases hjd : j = d
        · subst hjd
          obtain ⟨_, o', ho', hall⟩ := mem_ready.1 hd
          rw [ho] at ho'; cases ho'
          exact hall e he hb
        · exact closed_spec h ho (ih (d - j) (by omega) j (by omega) (by omega)) e he hb
      rw [show listed.getD e.on true = listed.getD e.on false from ?_]
      · exact key
      · have : e.on < listed.size := by omega
        simp [this]

/-- whatever order: S holds behind each operation but d, and d is the last -/
def wpAnyD (P : Program) (ops : Array Oper) (Q : Exit → Act → World → Prop) (S : World → Prop) (d : Nat) : Nat → Array Bool → Act → World → Prop
  | 0, listed, a, w => Region.ready .any ops listed = [] ∧ Q .normal a w
  | fuel + 1, listed, a, w =>
    (Region.ready .any ops listed = [] → Q .normal a w) ∧
    ∀ i ∈ Region.ready .any ops listed, wpOp P ops Q i (fun a' w' => if i = d then wpAny P .any ops Q fuel (listed.setIfInBounds i true) a' w' else S w' ∧ wpAnyD P ops Q S d fuel (listed.setIfInBounds i true) a' w') a w
theorem wpAny_of_heldD : ∀ (fuel : Nat) (listed : Array Bool) (a : Act) (w : World), wpAnyD P ops Q S d fuel listed a w → wpAny P .any ops Q fuel listed a w
  | 0, _, _, _, h => h
  | fuel + 1, _, _, _, h => ⟨h.1, fun i hi => wpOp_mono (fun a' w' h' => by
      by_cases e : i = d
      · rw [if_pos e] at h'; exact h'
      · rw [if_neg e] at h'; exact wpAny_of_heldD fuel _ a' w' h'.2) (h.2 i hi)⟩
theorem wpAnyD_first {i : Nat} {oi : Oper} {v : Value} (hid : i ≠ d) (hL : lastB ops d = true) (hi : ops[i]? = some oi) (hsel : ∀ (j : Nat) (o : Oper) cs b, ops[j]? = some o → o.op ≠ .select cs b)
    (hQ : ∀ c a w, Q (.panic c) (a.put oi.dst v) w → Q (.panic c) a w) :
    ∀ (fuel : Nat) (listed : Array Bool) (a : Act) (w : World),
      (∀ j oj, ops[j]? = some oj → j ≠ i → listed.getD j true = false → (∀ e ∈ oj.after, Region.binds .any e = true → e.on ≠ i) → oi.apart ops oj = true) →
      closedB ops listed = true → ops.size ≤ listed.size → i < d →
      i ∈ Region.ready .any ops listed → YieldsIf P ops S oi v a → S w →
      wpAnyD P ops Q S d fuel (listed.setIfInBounds i true) (a.put oi.dst v) w → wpAnyD P ops Q S d (fuel + 1) listed a w := by
  intro fuel
  induction fuel with
  | zero =>
    intro listed a w _ hcl hz hlt hr hy hS H
    refine ⟨fun h => (by rw [h] at hr; cases hr), fun j hj => ?_⟩
    by_cases hji : j = i
    · subst hji; exact hy.wpOp hi hS (by rw [if_neg hid]; exact ⟨hS, H⟩)
    · have := ready_mono hj hji
      rw [H.1] at this
      cases this
  | succ fuel ih =>
    intro listed a w hfree hcl hz hlt hr hy hS H
    refine ⟨fun h => (by rw [h] at hr; cases hr), fun j hj => ?_⟩
    by_cases hji : j = i
    · subst hji; exact hy.wpOp hi hS (by rw [if_neg hid]; exact ⟨hS, H⟩)
    · have hjd : j ≠ d := by
        rintro rfl
        have h0 := (mem_ready.1 hr).1
        rw [last_all hL hcl hz hj (j - i) i (by omega) hlt] at h0
        cases h0
      have h1 := H.2 j (ready_mono hj hji)
      simp only [if_neg hjd] at h1
      obtain ⟨hjun, oj, hoj, hall⟩ := mem_ready.1 hj
      have hnot : ∀ e ∈ oj.after, Region.binds .any e = true → e.on ≠ i := fun e he hb heq => by
        have h1 := hall e he hb
        have h0 := (mem_ready.1 hr).1
        rw [heq] at h1
        rcases Nat.lt_or_ge i listed.size with h' | h'
        · simp [h'] at h0 h1; rw [h0] at h1; cases h1
        · simp [Array.getElem?_eq_none h'] at h1
      have h2 := wpOp_putIf hoj (hfree j oj hoj hji hjun hnot) (fun cs b => hsel i oi cs b hi) (fun cs b => hsel j oj cs b hoj) hQ hy h1
      have hfree' : ∀ k ok, ops[k]? = some ok → k ≠ i → (listed.setIfInBounds j true).getD k true = false →
          (∀ e ∈ ok.after, Region.binds .any e = true → e.on ≠ i) → oi.apart ops ok = true := fun k ok hk hki hun hno => by
        refine hfree k ok hk hki ?_ hno
        by_cases hjk : j = k
        · subst hjk; exact hjun
        · rw [getD_set_ne true hjk] at hun; exact hun
      refine wpOp_mono (fun a' w' h3 => ?_) h2
      rw [if_neg hjd]
      refine ⟨h3.2.1, ih (listed.setIfInBounds j true) a' w' hfree' (closed_set hcl hj) (by simpa using hz) hlt (ready_mono hr (Ne.symm hji)) h3.1 h3.2.1 ?_⟩
      rw [Array.setIfInBounds_comm _ _ hji]
      exact h3.2.2
theorem wpAnyD_take {i : Nat} {oi : Oper} {v : Value} {fuel : Nat} {listed : Array Bool} {a : Act} {w : World} (hi : ops[i]? = some oi)
    (hs : Region.noSelect ops = true) (hf : Region.free .any ops listed i = true) (hr : (Region.ready .any ops listed).contains i = true)
    (hQ : ∀ c a w, Q (.panic c) (a.put oi.dst v) w → Q (.panic c) a w) (hy : YieldsIf P ops S oi v a) (hS : S w) (hb : (closedB ops listed && decide (ops.size ≤ listed.size) && decide (i < d) && lastB ops d) = true)
    (h : wpAnyD P ops Q S d fuel (listed.setIfInBounds i true) (a.put oi.dst v) w) : wpAnyD P ops Q S d (fuel + 1) listed a w := by
  simp only [Bool.and_eq_true, decide_eq_true_eq] at hb
  obtain ⟨⟨⟨h1, h2⟩, h3⟩, h4⟩ := hb
  exact wpAnyD_first (by omega) h4 hi (Region.noSelect_spec hs) hQ fuel listed a w (Region.free_spec hi hf) h1 h2 h3 (by simpa using hr) hy hS h
theorem wpAnyD_done {listed : Array Bool} {a : Act} {w : World} (hr : Region.ready .any ops listed = []) (h : Q .normal a w) :
    ∀ fuel, wpAnyD P ops Q S d fuel listed a w
  | 0 => ⟨hr, h⟩
  | _ + 1 => ⟨fun _ => h, by rw [hr]; simp⟩
/-- each of the operations rs comes up next -/
def AllReadyD (P : Program) (ops : Array Oper) (Q : Exit → Act → World → Prop) (S : World → Prop) (d fuel : Nat) (listed : Array Bool) (a : Act) (w : World) (rs : List Nat) : Prop :=
  ∀ i ∈ rs, wpOp P ops Q i (fun a' w' => if i = d then wpAny P .any ops Q fuel (listed.setIfInBounds i true) a' w' else S w' ∧ wpAnyD P ops Q S d fuel (listed.setIfInBounds i true) a' w') a w
theorem AllReadyD.nil {fuel : Nat} {listed : Array Bool} {a : Act} {w : World} : AllReadyD P ops Q S d fuel listed a w [] := fun _ h => by cases h
theorem AllReadyD.cons {fuel : Nat} {listed : Array Bool} {a : Act} {w : World} {i : Nat} {o : Oper} {rs : List Nat} (ho : ops[i]? = some o)
    (h : ∀ K' : Act → World → Prop, Shut (∀ a w, S w → (S w → wpAnyD P ops Q S d fuel (listed.setIfInBounds i true) a w) → K' a w) → if Region.wanted o (yielded ops a.tmps) = true then Oper.wp P o a w K' Q else K' (a.put o.dst undef) w)
    (hne : (i == d) = false) (hs : AllReadyD P ops Q S d fuel listed a w rs) : AllReadyD P ops Q S d fuel listed a w (i :: rs) := fun j hj => by
  rcases List.mem_cons.1 hj with rfl | hj
  · have hne' : j ≠ d := by simpa using hne
    simp only [if_neg hne']
    exact wpOp_step ho (fun K' hK => h K' (fun a w hS hW => hK a w ⟨hS, hW hS⟩))
  · exact hs j hj
/-- the last -/
theorem AllReadyD.last {fuel : Nat} {listed : Array Bool} {a : Act} {w : World} {o : Oper} (ho : ops[d]? = some o) (hr : Region.ready .any ops (listed.setIfInBounds d true) = [])
    (h : ∀ K' : Act → World → Prop, Shut (∀ a w, Q .normal a w → K' a w) → if Region.wanted o (yielded ops a.tmps) = true then Oper.wp P o a w K' Q else K' (a.put o.dst undef) w) : AllReadyD P ops Q S d fuel listed a w [d] := fun j hj => by
  rw [List.mem_singleton] at hj
  subst hj
  simp only [if_true]
  refine wpOp_step ho (fun K' hK => h K' (fun a w hq => hK a w ?_))
  cases fuel with
  | zero => exact ⟨hr, hq⟩
  | succ n => exact ⟨fun _ => hq, by rw [hr]; simp⟩
theorem wpAnyD_ready {rs : List Nat} {fuel : Nat} {listed : Array Bool} {a : Act} {w : World} (hr : Region.ready .any ops listed = rs) (hne : rs ≠ [])
    (h : AllReadyD P ops Q S d fuel listed a w rs) : wpAnyD P ops Q S d (fuel + 1) listed a w := ⟨fun h0 => absurd (hr ▸ h0) hne, hr ▸ h⟩
theorem wp_region_heldD {id : Nat} {a : Act} {w : World} (d : Nat) (hm : P.follows .mixedOrders = true) (hS : S w.drew)
    (h : S w.drew → wpAnyD P ops Q S d ops.size (Array.replicate ops.size false) a w.drew) : (Code.region id ops true).wp P Q a w :=
  wp_region_any hm (wpAny_of_heldD _ _ _ _ (h hS))
end
end Go.Proofs.YtiohiiekaofkbaaDoor
