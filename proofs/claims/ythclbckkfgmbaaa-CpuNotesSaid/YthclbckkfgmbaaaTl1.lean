/- What is read of a TLB; the places of entries that are so; at whatever numbers. -/
import Derived.Test.YthclbckkfgmbaaaTl0
import Derived.RangeFuncBox
namespace Go.Proofs.Ythclbckkfgmbaaa.QTlbPlays
open Go.RowKit Go.Proofs.YthclbckkfgmbaaaW.PrintWords Go.Proofs.YthclbckkfgmbaaaW.PrintLast Go.Proofs.YthclbckkfgmbaaaW.PrintMore
set_option linter.unusedSimpArgs false
set_option linter.unusedVariables false
section
set_option maxHeartbeats 1000000
set_option maxRecDepth 100000
theorem infoInt : (Try.prog.info? 3).map (fun i => (i.zero, i.size, i.bytes)) = some (some (.int .i64 0), 1, 8) := by kernel_rfl
theorem grown_own {W W1 W2 : World} {row : Option Nat} (h : W.grownBy W1 none) (k : W1.grownBy W2 row) (hr : ∀ j, row = some j → W.heap.size ≤ j) : W.grownBy W2 none := ⟨k.os.trans h.os, k.tape.trans h.tape, k.output.trans h.output, Nat.le_trans h.size k.size, fun i hi _ => (k.block i (Nat.lt_of_lt_of_le hi h.size) (fun e => by have := hr i e.symm; omega)).trans (h.block i hi (by simp))⟩
/-- A row of whole numbers that a call has made. -/
structure IRow (base : Nat) (A : Option Addr) (c : Nat) (l : List Nat) (W : World) : Prop where
  own : W.ownsRow base 3 1 (.slice A l.length c) l.length (l.map fun i => .int .i64 (i : Nat))
theorem IRow.same {base A c l W W'} (h : IRow base A c l W) (hg : W.grownBy W' none) : IRow base A c l W' := ⟨h.own.kept hg (by cases hv : (Value.slice A l.length c).ownBlock <;> simp)⟩
theorem IRow.lift {base base' A c l W} (h : IRow base A c l W) (hb : base' ≤ base) : IRow base' A c l W := by
  refine ⟨h.own.1, ?_⟩
  rcases h.own.2 with hn | ⟨g, cap, cur, hv, hg, rest⟩
  · exact .inl hn
  · exact .inr ⟨g, cap, cur, hv, Nat.le_trans hb hg, rest⟩
theorem IRow.at {base A c l W} (h : IRow base A c l W) (k : Nat) (hk : k < l.length) : ∃ g, A = some ⟨g, 0, none⟩ ∧ W.cell? ⟨g, k, none⟩ = some (.int .i64 (l.getD k 0 : Nat)) := by
  rcases h.own.2 with ⟨_, h0⟩ | ⟨g, cap, _, hv, _⟩
  · omega
  · injection hv with h1 h2 h3
    subst h1
    have ha : ∀ j, (⟨g, 0, none⟩ : Addr).add j = ⟨g, j, none⟩ := fun j => by unfold Addr.add; split <;> simp_all
    have c1 := h.own.cells (g := g) rfl k (.int .i64 (l.getD k 0 : Nat)) (by simp [hk])
    rw [ha] at c1
    exact ⟨g, rfl, c1⟩
/-- The places, of the first k, of entries that are so. -/
def plTo (es : List (Option Ent)) (q : Ent → Bool) (k : Nat) : List Nat := (List.range k).filter fun i => match es.getD i none with | some e => q e | none => false
theorem plTo_succ (es : List (Option Ent)) (q : Ent → Bool) (k : Nat) : plTo es q (k + 1) = plTo es q k ++ (match es.getD k none with | some e => if q e then [k] else [] | none => []) := by
  unfold plTo
  rw [List.range_succ, List.filter_append]
  congr 1
  cases h : es.getD k none with
  | none => simp only [List.filter_cons, List.filter_nil, h]; rfl
  | some e => cases hq : q e <;> (simp only [List.filter_cons, List.filter_nil, h, hq]; first | done | rfl)
theorem plTo_len (es : List (Option Ent)) (q : Ent → Bool) (k : Nat) : (plTo es q k).length ≤ k := by
  unfold plTo
  exact Nat.le_trans (List.length_filter_le _ _) (by simp)
abbrev plL (es : List (Option Ent)) (q : Ent → Bool) : List Nat := plTo es q es.length
theorem one_new (W : World) (x : Value) (t : TypeId) : ∀ (j : Nat) (u : Value), [x][j]? = some u → (W.alloc (.cells #[x] t)).cell? ((⟨W.heap.size, 0, none⟩ : Addr).add j) = some u := by
  intro j u h
  have ha : (⟨W.heap.size, 0, none⟩ : Addr).add j = ⟨W.heap.size, j, none⟩ := by unfold Addr.add; split <;> simp_all
  rw [ha, blk_cell (heap_alloc_new W _)]
  simpa using h
theorem mem_of_getD {es : List (Option Ent)} {i : Nat} {e : Ent} (h : es.getD i none = some e) : some e ∈ es := by
  by_cases hi : i < es.length
  · simp [List.getD, hi] at h
    rw [← h]
    exact List.getElem_mem hi
  · simp [List.getD, hi] at h
theorem tl_places {B w0 p r es W} (h : Tl B w0 p r es W) (fid : Nat) (caps : Array Value) (q : Ent → Bool) (hen : ∀ (args : Array Value) (w : World), (callFunc fid args).run Try.prog w = .ok (.enter fid args) w)
    (hq : ∀ (W' : World) (e : Ent), some e ∈ es → W.grownBy W' none → Calls Try.prog fid (#[.agg (entA e)] ++ caps) W' fun x W'' => x = .returned (.bool (q e)) ∧ W'.grownBy W'' none) :
    Calls Try.prog 55 #[.pointer (some ⟨p, 0, none⟩), .func (.func fid) #[] caps] W fun x W' => ∃ A c, x = .returned (.slice A (plL es q).length c) ∧ IRow W.heap.size A c (plL es q) W' ∧ W.grownBy W' none := by
  obtain ⟨i0, hi0, hz0, hz1, hz2⟩ := info_parts infoInt
  have HI0 := Aside0.mk (And.intro hi0 (And.intro hz0 (And.intro hz1 hz2)))
  have HM := Aside0.mk h
  have HQ := Aside0.mk hq
  have hlen := h.len
  have hcell := h.cell
  clear hi0 hz0 hz1 hz2 h hq
  go_enter Try.func55, Try.ntmps55
  go_wp2
  clear hcell
  go_loopw [5, 13] (fun v5 v13 wr => ∃ (k : Nat) (A : Option Addr) (c : Nat), v13 = .int .i64 k ∧ v5 = .slice A (plTo es q k).length c ∧ k ≤ es.length ∧ Aside0 (IRow W.heap.size A c (plTo es q k) wr) ∧ Aside0 (W.grownBy wr none)) (fun _ v13 _ => es.length - (intOf v13).toNat)
  case atStart => exact ⟨0, none, 0, rfl, rfl, by omega, ⟨⟨World.ownsRow_nil _ _ _ _⟩⟩, ⟨grown_refl _ _⟩⟩
  case round =>
    obtain ⟨k, A, c, rfl, rfl, hk, HR, HG⟩ := hrel
    by_cases hk2 : k < es.length
    · have hk2' : (k : Int) < (es.length : Int) := by omega
      have hk0 : (0 : Int) ≤ (k : Int) := by omega
      have HM1 := Aside0.mk (HM.out.same HG.out)
      have HS := Aside0.mk (plTo_succ es q k)
      have hpl := plTo_len es q k
      cases hx : es.getD k none with
      | none =>
        have hp := HM1.out.at k hk2
        rw [hx] at hp
        rw [hx] at HS
        cases hp with
        | empty hc =>
          clear hx
          go_wp2
          go_roundw
          case rel => exact ⟨k + 1, A, c, by go_num, by rw [HS.out]; simp, by omega, ⟨by rw [HS.out]; simpa using HR.out⟩, HG⟩
          case measure => simp [intOf]; omega
      | some e =>
        have hp := HM1.out.at k hk2
        have hmem := mem_of_getD hx
        rw [hx] at hp
        rw [hx] at HS
        cases hp with
        | full b e hc hb =>
          obtain ⟨q0, q1, q2, q3, q4, q5, q6, q7, q8, q9, q10⟩ := cz11 hb
          have HME := Aside0.mk hmem
          clear hx hb hmem
          cases hqe : q e with
          | false =>
            have HQe := Aside0.mk hqe
            clear hqe
            go_wp2_with fail
            refine (HQ.out _ e HME.out HG.out).mono ?_
            rintro x w1 ⟨rfl, hg⟩
            rw [HQe.out]
            have HR1 := Aside0.mk (HR.out.same hg)
            have HG1 := Aside0.mk (grown_two HG.out hg)
            clear hg HR HG
            go_wp2
            go_roundw
            case rel => exact ⟨k + 1, A, c, by go_num, by rw [HS.out]; simp [HQe.out], by omega, ⟨by rw [HS.out]; simpa [HQe.out] using HR1.out⟩, HG1⟩
            case measure => simp [intOf]; omega
          | true =>
            have HQe := Aside0.mk hqe
            clear hqe
            go_wp2_with fail
            refine (HQ.out _ e HME.out HG.out).mono ?_
            rintro x w1 ⟨rfl, hg⟩
            rw [HQe.out]
            have HR1 := Aside0.mk (HR.out.same hg)
            have HG1 := Aside0.mk (grown_two HG.out hg)
            clear hg HR HG
            go_wp2_with (first | (at_builtin; refine wpList_append_own _ rfl _ _ 30 rfl W.heap.size 3 i0 (.int .i64 0) 1 8 Try.underlying30 HI0.out.1 HI0.out.2.1 HI0.out.2.2.1 HI0.out.2.2.2 rfl (by decide) _ _ _ rfl (HR1.out.own.alloc _) ⟨w1.heap.size, 0, none⟩ 1 1 [.int .i64 (k : Nat)] rfl rfl (one_new _ _ _) (by simp [Value.oneCell']) (by unfold maxLen; omega) (by omega) (by have := HG1.out.size; simp; omega) ?_; intro v' w2 hown' hgrow _))
            obtain ⟨g', cap', rfl⟩ := ownsRow_succ hown'
            have HG2 := Aside0.mk (grown_own (grown_two HG1.out (World.grownBy_alloc w1 (.cells #[.int .i64 (k : Nat)] 3) none)) hgrow (fun j e => (HR1.out.own.lt j e).1))
            go_roundw
            case rel => exact ⟨k + 1, some ⟨g', 0, none⟩, cap', by go_num, by rw [HS.out]; simp [HQe.out], by omega, ⟨⟨by rw [HS.out]; simpa [HQe.out] using hown'⟩⟩, HG2⟩
            case measure => simp [intOf]; omega
    · obtain rfl : k = es.length := by omega
      go_wp2
      go_ret
      exact ⟨A, c, rfl, HR.out, HG.out⟩
end
end Go.Proofs.Ythclbckkfgmbaaa.QTlbPlays
