/- Entries that part hit nothing both, and others do; plain arithmetic; no conditions. -/
import Derived.Test.YthclbckkfgmbaaaTl11
namespace Go.Proofs.Ythclbckkfgmbaaa.QTlbPlays
open Go.RowKit Go.Proofs.YthclbckkfgmbaaaW.PrintWords Go.Proofs.YthclbckkfgmbaaaW.PrintLast Go.Proofs.YthclbckkfgmbaaaW.PrintMore
def pg (s : Int) (a b : Nat) : Prop := a / bytesOf s * bytesOf s = b / bytesOf s * bytesOf s
instance (s a b) : Decidable (pg s a b) := by unfold pg; infer_instance
theorem ok_cases {s : Int} (h : okSize s) : s = 0 ∨ s = 1 ∨ s = 2 ∨ s = 3 := by unfold okSize at h; omega
theorem by0 : bytesOf 0 = 8192 := rfl
theorem by1 : bytesOf 1 = 65536 := rfl
theorem by2 : bytesOf 2 = 524288 := rfl
theorem by3 : bytesOf 3 = 4194304 := rfl
theorem pg0 (a b : Nat) : pg 0 a b ↔ a / 8192 = b / 8192 := by unfold pg; rw [by0]; omega
theorem pg1 (a b : Nat) : pg 1 a b ↔ a / 65536 = b / 65536 := by unfold pg; rw [by1]; omega
theorem pg2 (a b : Nat) : pg 2 a b ↔ a / 524288 = b / 524288 := by unfold pg; rw [by2]; omega
theorem pg3 (a b : Nat) : pg 3 a b ↔ a / 4194304 = b / 4194304 := by unfold pg; rw [by3]; omega
theorem pg_le {s t : Int} (hs : okSize s) (ht : okSize t) (h : s ≤ t) {a b : Nat} (hp : pg s a b) : pg t a b := by
  rcases ok_cases hs with rfl | rfl | rfl | rfl <;> rcases ok_cases ht with rfl | rfl | rfl | rfl <;> simp only [pg0, pg1, pg2, pg3] at hp ⊢ <;> omega
theorem pg_symm {s : Int} {a b : Nat} (h : pg s a b) : pg s b a := Eq.symm h
theorem pg_trans {s : Int} {a b c : Nat} (h : pg s a b) (k : pg s b c) : pg s a c := Eq.trans h k
theorem mx_ok {s t : Int} (hs : okSize s) (ht : okSize t) : okSize (mx s t) := by unfold mx; split <;> assumption
theorem mx_l (s t : Int) : s ≤ mx s t := by unfold mx; split <;> omega
theorem mx_r (s t : Int) : t ≤ mx s t := by unfold mx; split <;> omega
/-- An entry's page is well sized. -/
def OkS (e : Ent) : Prop := okSize e.f0 ∧ e.f5 = true
theorem may_okS {e : Ent} (h : mayB e = true) : OkS e := by
  unfold mayB mayOf at h
  simp at h
  exact ⟨h.2.1, h.1⟩
theorem hitsB_eq {e : Ent} (h : OkS e) (va ctx : Int) : hitsB e va ctx = (decide (pg e.f0 va.toNat e.f2.toNat) && (e.f4.f4 || e.f1 == ctx)) := by
  unfold hitsB hitsOf pg
  rw [h.2, decide_eq_true h.1]
  rfl
theorem partsB_eq {a b : Ent} (ha : OkS a) (hb : OkS b) : partsB a b = (!decide (pg (mx a.f0 b.f0) a.f2.toNat b.f2.toNat) || (!a.f4.f4 && !b.f4.f4 && a.f1 != b.f1)) := by
  unfold partsB meets pg
  simp [ha.1, hb.1]
theorem parts_comm {a b : Ent} (ha : OkS a) (hb : OkS b) : partsB a b = partsB b a := by
  rw [partsB_eq ha hb, partsB_eq hb ha, mx_comm]
  have h1 : decide (pg (mx b.f0 a.f0) a.f2.toNat b.f2.toNat) = decide (pg (mx b.f0 a.f0) b.f2.toNat a.f2.toNat) := decide_eq_decide.2 ⟨pg_symm, pg_symm⟩
  have h2 : (a.f1 != b.f1) = (b.f1 != a.f1) := by simp only [bne, BEq.comm]
  rw [h1, h2]
  cases a.f4.f4 <;> cases b.f4.f4 <;> rfl
theorem parts_self {a : Ent} (ha : OkS a) : partsB a a = false := by
  rw [partsB_eq ha ha]
  have : decide (pg (mx a.f0 a.f0) a.f2.toNat a.f2.toNat) = true := decide_eq_true rfl
  rw [this]
  simp
/-- Two entries that hit one address in one context do not part. -/
theorem parts_of_hits {a b : Ent} (ha : OkS a) (hb : OkS b) {va ctx : Int} (h1 : hitsB a va ctx = true) (h2 : hitsB b va ctx = true) : partsB a b = false := by
  rw [hitsB_eq ha] at h1
  rw [hitsB_eq hb] at h2
  rw [partsB_eq ha hb]
  simp only [Bool.and_eq_true, decide_eq_true_eq, Bool.or_eq_true, beq_iff_eq] at h1 h2
  have hm := mx_ok ha.1 hb.1
  have e1 := pg_le ha.1 hm (mx_l _ _) h1.1
  have e2 := pg_le hb.1 hm (mx_r _ _) h2.1
  rw [decide_eq_true (pg_trans (pg_symm e1) e2)]
  rcases h1.2 with g | c
  · simp [g]
  · rcases h2.2 with g | c2
    · simp [g]
    · simp [c, c2]
/-- Entries that do not part are hit both, at one's page's beginning, in one's context. -/
theorem hits_of_parts {a b : Ent} (ha : OkS a) (hb : OkS b) (h : partsB a b = false) : ∃ v c, (v = a.f2 ∨ v = b.f2) ∧ (c = a.f1 ∨ c = b.f1) ∧ hitsB a v c = true ∧ hitsB b v c = true := by
  rw [partsB_eq ha hb] at h
  simp only [Bool.or_eq_false_iff, Bool.not_eq_false', decide_eq_true_eq] at h
  obtain ⟨hp, hc⟩ := h
  have hv : ∃ v, (v = a.f2 ∨ v = b.f2) ∧ pg a.f0 v.toNat a.f2.toNat ∧ pg b.f0 v.toNat b.f2.toNat := by
    unfold mx at hp
    split at hp
    · exact ⟨a.f2, .inl rfl, rfl, hp⟩
    · exact ⟨b.f2, .inr rfl, pg_symm hp, rfl⟩
  have hx : ∃ c, (c = a.f1 ∨ c = b.f1) ∧ (a.f4.f4 || a.f1 == c) = true ∧ (b.f4.f4 || b.f1 == c) = true := by
    cases hga : a.f4.f4 with
    | true => exact ⟨b.f1, .inr rfl, by simp, by simp⟩
    | false =>
      cases hgb : b.f4.f4 with
      | true => exact ⟨a.f1, .inl rfl, by simp, by simp⟩
      | false =>
        rw [hga, hgb] at hc
        simp [bne] at hc
        exact ⟨a.f1, .inl rfl, by simp, by simp [hc]⟩
  obtain ⟨v, hv1, hv2, hv3⟩ := hv
  obtain ⟨c, hc1, hc2, hc3⟩ := hx
  refine ⟨v, c, hv1, hc1, ?_, ?_⟩
  · rw [hitsB_eq ha, decide_eq_true hv2, hc2]; rfl
  · rw [hitsB_eq hb, decide_eq_true hv3, hc3]; rfl
def vaAt (x y : Ent) (i : Nat) : Int := if i = 0 then x.f2 else y.f2
def cxAt (x y : Ent) (i : Nat) : Int := if i = 0 then x.f1 else y.f1
def hit2 (x y : Ent) (i k : Nat) : Bool := hitsB x (vaAt x y i) (cxAt x y k) && hitsB y (vaAt x y i) (cxAt x y k)
def bothI (x y : Ent) (b : Bool) (i : Nat) : Nat → Bool
  | 0 => b
  | k + 1 => bothI x y b i k || hit2 x y i k
def bothO (x y : Ent) : Nat → Bool
  | 0 => false
  | i + 1 => bothI x y (bothO x y i) i 2
theorem both_law {x y : Ent} (hx : OkS x) (hy : OkS y) : bothO x y 2 = !partsB x y := by
  have e : bothO x y 2 = ((hit2 x y 0 0 || hit2 x y 0 1) || hit2 x y 1 0 || hit2 x y 1 1) := by
    simp [bothO, bothI]
  rw [e]
  cases hp : partsB x y with
  | true =>
    have : ∀ i k, hit2 x y i k = false := fun i k => by
      cases h : hit2 x y i k with
      | false => rfl
      | true =>
        unfold hit2 at h
        rw [Bool.and_eq_true] at h
        rw [parts_of_hits hx hy h.1 h.2] at hp
        cases hp
    rw [this, this, this, this]; rfl
  | false =>
    obtain ⟨v, c, hv, hc, h1, h2⟩ := hits_of_parts hx hy hp
    have hh : ∃ i k, i < 2 ∧ k < 2 ∧ hit2 x y i k = true := by
      rcases hv with rfl | rfl <;> rcases hc with rfl | rfl
      · exact ⟨0, 0, by omega, by omega, by unfold hit2 vaAt cxAt; simp only [if_true]; rw [h1, h2]; rfl⟩
      · exact ⟨0, 1, by omega, by omega, by unfold hit2 vaAt cxAt; simp only [if_true, Nat.one_ne_zero, if_false]; rw [h1, h2]; rfl⟩
      · exact ⟨1, 0, by omega, by omega, by unfold hit2 vaAt cxAt; simp only [if_true, Nat.one_ne_zero, if_false]; rw [h1, h2]; rfl⟩
      · exact ⟨1, 1, by omega, by omega, by unfold hit2 vaAt cxAt; simp only [Nat.one_ne_zero, if_false]; rw [h1, h2]; rfl⟩
    obtain ⟨i, k, hi, hk, hh⟩ := hh
    have : i = 0 ∨ i = 1 := by omega
    have : k = 0 ∨ k = 1 := by omega
    rcases ‹i = 0 ∨ i = 1› with rfl | rfl <;> rcases ‹k = 0 ∨ k = 1› with rfl | rfl <;> simp [hh]
end Go.Proofs.Ythclbckkfgmbaaa.QTlbPlays
