/-
  A drawn region with stores at its end: what is taken first may lean on a fact on the world till the first store comes up; behind it nothing is asked. No conditions beyond those that each theorem names.
-/
import Derived.Deep.RegionHeld
namespace Go.Proofs.Ytkhgbnnhgdcmoaa.IR
section
variable {P : Program} {ops : Array Oper} {Q : Exit → Act → World → Prop} {md : Region.Mode} {T : World → Prop} {k : Nat}

/-- whatever order is picked, T holds behind each operation as long as number k has not come up -/
def Till (P : Program) (md : Region.Mode) (ops : Array Oper) (Q : Exit → Act → World → Prop) (T : World → Prop) (k : Nat) : Nat → Array Bool → Act → World → Prop
  | 0, listed, a, w => Region.ready md ops listed = [] ∧ Q .normal a w
  | fuel + 1, listed, a, w => (Region.ready md ops listed = [] → Q .normal a w) ∧
    ∀ i ∈ Region.ready md ops listed, wpOp P ops Q i (fun a' w' => ((listed.setIfInBounds i true).getD k true = false → T w') ∧ Till P md ops Q T k fuel (listed.setIfInBounds i true) a' w') a w
theorem Till.any : ∀ (fuel : Nat) (listed : Array Bool) (a : Act) (w : World), Till P md ops Q T k fuel listed a w → wpAny P md ops Q fuel listed a w
  | 0, _, _, _, h => h
  | fuel + 1, _, _, _, h => ⟨h.1, fun i hi => wpOp_mono (fun a' w' h' => Till.any fuel _ a' w' h'.2) (h.2 i hi)⟩
/-- number k waits for number i -/
def waitsB (md : Region.Mode) (ops : Array Oper) (k i : Nat) : Bool := match ops[k]? with
  | some o => o.after.any fun e => Region.binds md e && e.on == i
  | none => false
theorem waits_ready {i : Nat} {listed : Array Bool} (hw : waitsB md ops k i = true) (hk : k ∈ Region.ready md ops listed) : listed.getD i false = true := by
  obtain ⟨_, o, ho, hall⟩ := mem_ready.1 hk
  unfold waitsB at hw
  rw [ho] at hw
  simp only at hw
  obtain ⟨e, he, hb⟩ := Array.any_eq_true'.1 hw
  rw [Bool.and_eq_true, beq_iff_eq] at hb
  have := hall e he hb.1
  rwa [hb.2] at this
theorem Till.first {i : Nat} {oi : Oper} {v : Value} (hi : ops[i]? = some oi) (hsel : ∀ (j : Nat) (o : Oper) cs b, ops[j]? = some o → o.op ≠ .select cs b)
    (hQ : ∀ c a w, Q (.panic c) (a.put oi.dst v) w → Q (.panic c) a w) (hw : waitsB md ops k i = true) (hik : i ≠ k) :
    ∀ (fuel : Nat) (listed : Array Bool) (a : Act) (w : World),
      (∀ j oj, ops[j]? = some oj → j ≠ i → listed.getD j true = false → (∀ e ∈ oj.after, Region.binds md e = true → e.on ≠ i) → oi.apart ops oj = true) →
      i ∈ Region.ready md ops listed → YieldsIf P ops T oi v a → T w → listed.getD k true = false →
      Till P md ops Q T k fuel (listed.setIfInBounds i true) (a.put oi.dst v) w → Till P md ops Q T k (fuel + 1) listed a w := by
  intro fuel
  induction fuel with
  | zero =>
    intro listed a w _ hr hy hT hk H
    refine ⟨fun h => (by rw [h] at hr; cases hr), fun j hj => ?_⟩
    by_cases hji : j = i
    · rw [hji]; exact hy.wpOp hi hT ⟨fun _ => hT, H⟩
    · have hn := ready_mono hj hji
      rw [H.1] at hn
      cases hn
  | succ fuel ih =>
    intro listed a w hfree hr hy hT hk H
    refine ⟨fun h => (by rw [h] at hr; cases hr), fun j hj => ?_⟩
    by_cases hji : j = i
    · rw [hji]; exact hy.wpOp hi hT ⟨fun _ => hT, H⟩
    · have hun := (mem_ready.1 hr).1
      have hunf : ¬ listed.getD i false = true := by
        intro h
        rcases Nat.lt_or_ge i listed.size with hlt | hge
        · simp [hlt] at h hun; rw [hun] at h; cases h
        · simp [Array.getElem?_eq_none hge] at hun
      have hjk : j ≠ k := fun e => hunf (waits_ready hw (e ▸ hj))
      have h1 := H.2 j (ready_mono hj hji)
      obtain ⟨hjun, oj, hoj, hall⟩ := mem_ready.1 hj
      have hnot : ∀ e ∈ oj.after, Region.binds md e = true → e.on ≠ i := fun e he hb heq => hunf (by have := hall e he hb; rwa [heq] at this)
      have h2 := wpOp_putIf hoj (hfree j oj hoj hji hjun hnot) (fun cs b => hsel i oi cs b hi) (fun cs b => hsel j oj cs b hoj) hQ hy h1
      have hk2 : (listed.setIfInBounds j true).getD k true = false := by rw [getD_set_ne true hjk]; exact hk
      have hk3 : ((listed.setIfInBounds i true).setIfInBounds j true).getD k true = false := by rw [getD_set_ne true hjk, getD_set_ne true hik]; exact hk
      have hfree2 : ∀ q oq, ops[q]? = some oq → q ≠ i → (listed.setIfInBounds j true).getD q true = false →
          (∀ e ∈ oq.after, Region.binds md e = true → e.on ≠ i) → oi.apart ops oq = true := fun q oq hq hqi hq0 hno => by
        refine hfree q oq hq hqi ?_ hno
        by_cases hjq : j = q
        · rw [← hjq]; exact hjun
        · rwa [getD_set_ne true hjq] at hq0
      refine wpOp_mono (fun a' w' h3 => ⟨fun _ => h3.2.1 hk3, ih (listed.setIfInBounds j true) a' w' hfree2 (ready_mono hr (Ne.symm hji)) h3.1 (h3.2.1 hk3) hk2 ?_⟩) h2
      rw [Array.setIfInBounds_comm _ _ hji]
      exact h3.2.2
/-- number i is taken first -/
theorem Till.take {i : Nat} {oi : Oper} {v : Value} {fuel : Nat} {listed : Array Bool} {a : Act} {w : World} (hi : ops[i]? = some oi)
    (hs : (Region.noSelect ops && Region.free md ops listed i && (Region.ready md ops listed).contains i && waitsB md ops k i && i != k && !listed.getD k true) = true)
    (hQ : ∀ c a w, Q (.panic c) (a.put oi.dst v) w → Q (.panic c) a w) (hy : YieldsIf P ops T oi v a) (hT : T w)
    (h : Till P md ops Q T k fuel (listed.setIfInBounds i true) (a.put oi.dst v) w) : Till P md ops Q T k (fuel + 1) listed a w := by
  simp only [Bool.and_eq_true, bne_iff_ne, Bool.not_eq_true'] at hs
  obtain ⟨⟨⟨⟨⟨h1, h2⟩, h3⟩, h4⟩, h5⟩, h6⟩ := hs
  exact Till.first hi (Region.noSelect_spec h1) hQ h4 h5 fuel listed a w (Region.free_spec hi h2) (by simpa using h3) hy hT h6 h
/-- number i alone may come up, ahead of number k -/
theorem Till.one {i : Nat} {o : Oper} {fuel : Nat} {listed : Array Bool} {a : Act} {w : World} (hr : Region.ready md ops listed = [i]) (ho : ops[i]? = some o)
    (h : ∀ K : Act → World → Prop, Shut (∀ a w, T w → (T w → Till P md ops Q T k fuel (listed.setIfInBounds i true) a w) → K a w) → if Region.wanted o (yielded ops a.tmps) = true then Oper.wp P o a w K Q else K (a.put o.dst undef) w) :
    Till P md ops Q T k (fuel + 1) listed a w := by
  refine ⟨fun h0 => (by rw [h0] at hr; cases hr), fun j hj => ?_⟩
  rw [hr, List.mem_singleton] at hj
  rw [hj]
  exact wpOp_step ho (fun K hK => h K (fun a w hT hW => hK a w ⟨fun _ => hT, hW hT⟩))
/-- number i alone may come up; number k has come up, or is i -/
theorem Till.late {i : Nat} {o : Oper} {fuel : Nat} {listed : Array Bool} {a : Act} {w : World} (hr : (Region.ready md ops listed == [i] && (listed.setIfInBounds i true).getD k true) = true) (ho : ops[i]? = some o)
    (h : ∀ K : Act → World → Prop, Shut (∀ a w, Till P md ops Q T k fuel (listed.setIfInBounds i true) a w → K a w) → if Region.wanted o (yielded ops a.tmps) = true then Oper.wp P o a w K Q else K (a.put o.dst undef) w) :
    Till P md ops Q T k (fuel + 1) listed a w := by
  rw [Bool.and_eq_true, beq_iff_eq] at hr
  obtain ⟨hr, hk⟩ := hr
  refine ⟨fun h0 => (by rw [h0] at hr; cases hr), fun j hj => ?_⟩
  rw [hr, List.mem_singleton] at hj
  rw [hj]
  exact wpOp_step ho (fun K hK => h K (fun a w hW => hK a w ⟨fun h0 => (by rw [hk] at h0; cases h0), hW⟩))
theorem Till.done {listed : Array Bool} {a : Act} {w : World} (hr : Region.ready md ops listed = []) (h : Q .normal a w) : ∀ fuel, Till P md ops Q T k fuel listed a w
  | 0 => ⟨hr, h⟩
  | _ + 1 => ⟨fun _ => h, by rw [hr]; simp⟩
theorem Till.start {id : Nat} {a : Act} {w : World} (hm : P.follows .mixedOrders = true) (hT : T w.drew)
    (h : T w.drew → Till P .any ops Q T k ops.size (Array.replicate ops.size false) a w.drew) : (Code.region id ops true).wp P Q a w :=
  wp_region_any hm (Till.any _ _ _ _ (h hT))
end
end Go.Proofs.Ytkhgbnnhgdcmoaa.IR
