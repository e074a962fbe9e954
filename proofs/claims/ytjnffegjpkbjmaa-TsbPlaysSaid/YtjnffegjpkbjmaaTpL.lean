/- The document's list of a TSB's entries, whatever its words are. -/
import Derived.Test.YtjnffegjpkbjmaaTpO
import Derived.Test.YtjnffegjpkbjmaaTsRi
namespace Go.Proofs.Ytjnffegjpkbjmaa.Mem
open Go.RowKit Go.Maps Go.Proofs.YtjnffegjpkbjmaaW.PrintWords Go.Proofs.YtjnffegjpkbjmaaW.PrintLast Go.Proofs.YtjnffegjpkbjmaaW.PrintMore Go.Proofs.Ytjnffegjpkbjmaa.QTsbPlays Go.Proofs.Ytjnffegjpkbjmaa.Pure
set_option linter.unusedSimpArgs false
set_option linter.unusedVariables false
section
set_option maxHeartbeats 2000000
set_option maxRecDepth 100000
theorem gW_filter (a : Int) (j : Int) : ∀ l : List WS, gW (l.filter (fun x => !(x.f0 == a))) j = if j = a then (9223372036854775807, 0) else gW l j
 | [] => by simp [gW]
 | b :: l => by
  have ih := gW_filter a j l
  by_cases e : b.f0 = a
  ·rw [List.filter_cons_of_neg (by simp [e]), ih, gW_cons]
   by_cases h : j = a
   ·rw [if_pos h, if_pos h]
   ·rw [if_neg h, if_neg h, if_neg (fun e2 => h (e2.symm.trans e))]
  ·rw [List.filter_cons_of_pos (by simp [e]), gW_cons, gW_cons, ih]
   by_cases h : j = a
   ·rw [if_pos h, if_neg (fun e2 => e (e2.trans h))]
    simp [h]
   ·rw [if_neg h, if_neg h]
theorem gW_append (j : Int) (x : WS) : ∀ l : List WS, (∀ b ∈ l, b.f0 ≠ x.f0) → gW (l ++ [x]) j = if j = x.f0 then (x.f1, x.f2) else gW l j
 | [], _ => by
  show (if x.f0 = j then (x.f1, x.f2) else (9223372036854775807, 0)) = _
  by_cases h : j = x.f0
  ·rw [if_pos h.symm, if_pos h]
  ·rw [if_neg (fun e => h e.symm), if_neg h]; rfl
 | b :: l, hl => by
  have ih := gW_append j x l (fun c hc => hl c (by simp [hc]))
  rw [List.cons_append, gW_cons, gW_cons, ih]
  by_cases h : j = x.f0
  ·rw [if_pos h, if_neg (fun e => hl b (by simp) (e.trans h))]
   simp [h]
  ·rw [if_neg h, if_neg h]
theorem gW_pW (l : List WS) (a t d j : Int) : gW (pW l a t d) j = if j = a then (t, d) else gW l j := by
 unfold pW
 by_cases h : t = 9223372036854775807 ∧ d = 0
 ·rw [if_pos h, List.append_nil, gW_filter, h.1, h.2]
 ·rw [if_neg h, gW_append j ⟨a, t, d⟩ _ (fun b hb => by
   have := (List.mem_filter.1 hb).2
   simpa using this), gW_filter]
  by_cases e : j = a
  ·rw [if_pos e, if_pos e]
  ·rw [if_neg e, if_neg e, if_neg e]
theorem gW_ins (l : List WS) (a t d j : Int) : gW (insW l a t d) j = if j = a then (t, d) else gW l j := by
 unfold insW
 by_cases e : j = a
 ·simp [gW_pW, e]
 ·simp [gW_pW, e]
theorem below_two {B : Nat} {w0 W W' : World} (h : Below B w0 W) (hB : w0.heap.size = B) (hg : W.grownBy W' none) : Below B w0 W' := ⟨hg.os.trans h.os, hg.tape.trans h.tape, hg.output.trans h.output, Nat.le_trans h.size hg.size, fun k hk => (hg.block k (Nat.lt_of_lt_of_le hk (by rw [← hB]; exact h.size)) (by simp)).trans (h.block k hk)⟩
theorem range_snoc (os : Nat → Option GE) (k : Nat) : (List.range (k + 1)).filterMap os = (List.range k).filterMap os ++ (match os k with | some g => [g] | none => []) := by
 rw [List.range_succ, List.filterMap_append]
 congr 1
 cases h : os k <;> simp [h]
/-- A TSB's words: their bounds, the size. -/
def WOK (N s : Nat) (ws : Nat → Wd) : Prop := ∀ i, i < N → (ws i).1 < 18446744073709551616 ∧ (ws i).2 < 18446744073709551616 ∧ ((ws i).2 = 0 ∨ sOf (ws i).2 = s)
theorem Holds.wok {D : DataW Unit} {base N s : Nat} {ws : Nat → Wd} (h : Holds D base N s ws) : WOK N s ws := fun i hi => ⟨(h.lt i hi).1, (h.lt i hi).2, h.size i hi⟩
/-- The document's words are these. -/
def DWw (N : Nat) (ws : Nat → Wd) (l : List WS) : Prop := ∀ i, i < N → gW l (i : Int) = (((ws i).1 : Int), ((ws i).2 : Int))
theorem dww_nil (N : Nat) : DWw N (fun _ => (BADW, 0)) [] := fun i _ => rfl
theorem DWw.set {N : Nat} {ws : Nat → Wd} {l : List WS} (h : DWw N ws l) (i t d : Nat) {l' : List WS} (hl : ∀ j : Int, gW l' j = if j = (i : Int) then ((t : Int), (d : Int)) else gW l j) : DWw N (setW ws i (t, d)) l' := by
 intro j hj
 rw [hl]
 by_cases e : j = i
 ·subst e
  rw [if_pos rfl, setW_at]
 ·rw [if_neg (by omega), setW_ne e]
  exact h j hj
/-- The entries of places, at their own addresses. -/
def owO (N s : Nat) (ws : Nat → Wd) : Nat → Option GE := fun i => ownW N s i (ws i)
theorem filterMap_none {os : Nat → Option GE} : ∀ is : List Nat, (∀ i ∈ is, os i = none) → is.filterMap os = []
 | [], _ => rfl
 | i :: is, h => by rw [List.filterMap_cons, h i (by simp)]; exact filterMap_none is (fun j hj => h j (by simp [hj]))
theorem DWw.nil {N s : Nat} {ws : Nat → Wd} (h : DWw N ws []) {i : Nat} (hi : i < N) : owO N s ws i = none := by
 have e := h i hi
 have e1 : (9223372036854775807 : Int) = ((ws i).1 : Int) := congrArg Prod.fst e
 have e2 : (ws i).1 = 9223372036854775807 := by omega
 show ownW N s i (ws i) = none
 rw [show ws i = (9223372036854775807, (ws i).2) from Prod.ext e2 rfl, ownW_bad]
theorem WOK.rok {N s : Nat} {ws : Nat → Wd} (h : WOK N s ws) {i : Nat} (hi : i < N) {a : Nat} (ha : a < 18446744073709551616) : ROK s (ws i).1 (ws i).2 a := by
 intro g hg
 have h3 := (h i hi).2.2
 rcases readW_spec (ws i) a ha with ⟨hn, _⟩ | ⟨g', hg', _, _, _, _, h0, hs⟩
 ·rw [show readW ((ws i).1, (ws i).2) a = readW (ws i) a from rfl, hn] at hg; cases hg
 ·rw [show readW ((ws i).1, (ws i).2) a = readW (ws i) a from rfl, hg'] at hg
  cases hg
  rcases h3 with e | e
  ·exact absurd e h0
  ·exact hs.symm.trans e
theorem rown_W {N s base : Nat} {sz : Int} (b : TB base N s sz) {ws : Nat → Wd} (hok : WOK N s ws) {A : Option Addr} {c : Nat} {l : List WS} (hdw : DWw N ws l) {i : Nat} (hi : i < N) {W : World} (hC : Kd.C k122 W A l.length l) (hc : l.length ≤ c) (hl : l.length ≤ 1000000) :
  Calls Try.prog 73 #[.agg #[.int .i64 (s : Int), .int .i64 (N : Int), .slice A l.length c], .int .i64 (i : Int)] W fun e W' => e = .returned (foundV (owO N s ws i)) ∧ W.grownBy W' none :=
 rown_calls (c := c) b.hs b.h1 b.hN hi (hok i hi).1 (hok i hi).2.1 (hok.rok hi (ownVa_lt _ _ _)) (hdw i hi) hC hc hl
theorem rlist_W {N s base : Nat} {sz : Int} (b : TB base N s sz) {ws : Nat → Wd} (hok : WOK N s ws) {A : Option Addr} {c : Nat} {l : List WS} (hdw : DWw N ws l) {W : World} (hC : Kd.C k122 W A l.length l) (hc : l.length ≤ c) (hl : l.length ≤ 1000000) :
  Calls Try.prog 35 #[.agg #[.int .i64 (s : Int), .int .i64 (N : Int), .slice A l.length c]] W fun e W' => ∃ v, e = .returned v ∧ Kd.R k50 50 W' W.heap.size (fun _ => True) v ((listO N (owO N s ws)).map geS) ∧ W.grownBy W' none := by
 have hu := Try.underlying44
 have hu3 := Try.underlying50
 have HC0 := Aside0.mk hC
 have HCC := Aside0.mk hc
 have HTB := Aside0.mk b
 have HOK := Aside0.mk hok
 have HDW := Aside0.mk hdw
 have hN : N ≤ 4096 := b.hN
 clear hC hc b hok hdw
 have hga := World.grownBy_alloc W (.cells #[.int .i64 (s : Int), .int .i64 (N : Int), .slice A l.length c] 44) none
 have hb2 := heap_alloc_new W (.cells #[.int .i64 (s : Int), .int .i64 (N : Int), .slice A l.length c] 44)
 have hz : (W.alloc (.cells #[.int .i64 (s : Int), .int .i64 (N : Int), .slice A l.length c] 44)).heap.size = W.heap.size + 1 := by simp only [World.size_alloc]
 have HG := Aside0.mk hga
 have HB2 := Aside0.mk hb2
 clear hga hb2
 go_enter Try.func35, Try.ntmps35
 go_wp2_with fail
 obtain ⟨h2, hh2⟩ : ∃ z, z = W.heap.size := ⟨_, rfl⟩
 rw [← hh2] at HB2 hz
 rw [← hh2]
 generalize W.alloc (.cells #[.int .i64 (s : Int), .int .i64 (N : Int), .slice A l.length c] 44) = w1 at HB2 HG hz ⊢
 have HB0 := Aside0.mk HB2.out
 have HH := Aside0.mk hh2
 have HZ := Aside0.mk hz
 clear hh2 hz
 go_loopw [3, 4] (fun v3 v4 wr => ∃ (k : Nat), v4 = .int .i64 k ∧ k ≤ N ∧ Aside0 (Kd.R k50 50 wr (h2 + 1) (fun _ => True) v3 (((List.range k).filterMap (owO N s ws)).map geS)) ∧ Aside0 (wr.heap[h2]? = some (.cells #[.int .i64 (s : Int), .int .i64 (N : Int), .slice A l.length c] 44 (0, 0))) ∧ Aside0 (Below (h2 + 1) w1 wr)) (fun _ v4 _ => N - (intOf v4).toNat)
 case atStart => exact ⟨0, rfl, by omega, ⟨Kd.R_nil _ _ _ _ _⟩, HB2, ⟨Below.refl _ _⟩⟩
 case round =>
  clear HB2
  obtain ⟨k, rfl, hk, HR, HB2, HBL⟩ := hrel
  obtain ⟨q0, q1, q2⟩ := cz3q HB2.out
  by_cases hkl : k < N ∧ 0 < l.length
  ·have h1' : (k : Int) < (N : Int) := by omega
   have h2' : (0 : Int) < (l.length : Int) := by omega
   have HKN := Aside0.mk hkl
   clear hkl
   go_wp2_with fail
   refine (rown_W HTB.out HOK.out HDW.out HKN.out.1 (Kd.C_below HC0.out (below_of_grown (grown_two HG.out (below_grown (by rw [HZ.out]; exact HBL.out))))) HCC.out hl).mono ?_
   rintro x0 w3 ⟨he, hg⟩
   replace HR := Aside0.mk (Kd.R_grown HR.out hg (by simp))
   replace HB2 := Aside0.mk (blk_grown HB2.out hg)
   replace HBL := Aside0.mk (below_two HBL.out HZ.out hg)
   clear hg q0 q1 q2
   rcases ho : (owO N s ws) k with _ | g
   ·have he2 : x0 = .returned (.tuple #[.agg #[.int .i64 0, .int .i64 0, .int .u64 0, .int .u64 0, .bool false, .bool false, .bool false, .bool false, .bool false, .bool false, .bool false], .bool false]) := by rw [he, ho]; rfl
    have HSN := Aside0.mk (show ((List.range (k + 1)).filterMap (owO N s ws)).map geS = ((List.range k).filterMap (owO N s ws)).map geS by rw [range_snoc, ho]; simp)
    clear he ho
    subst he2
    have hgc := World.grownBy_alloc w3 (.cells #[.int .i64 0, .int .i64 0, .int .u64 0, .int .u64 0, .bool false, .bool false, .bool false, .bool false, .bool false, .bool false, .bool false] 50) none
    replace HR := Aside0.mk (Kd.R_grown HR.out hgc (by simp))
    replace HB2 := Aside0.mk (blk_grown HB2.out hgc)
    replace HBL := Aside0.mk (below_two HBL.out HZ.out hgc)
    clear hgc
    go_wp2_with fail

    go_roundw
    case rel => exact ⟨k + 1, by go_num, by have := HKN.out; omega, ⟨by rw [HSN.out]; exact HR.out⟩, HB2, HBL⟩
    case measure => have := HKN.out; simp [intOf]; omega
   ·have he2 : x0 = .returned (.tuple #[.agg (geA g), .bool true]) := by rw [he, ho]; rfl
    have HSN := Aside0.mk (show ((List.range (k + 1)).filterMap (owO N s ws)).map geS = ((List.range k).filterMap (owO N s ws)).map geS ++ [geS g] by rw [range_snoc, ho]; simp)
    clear he ho
    subst he2
    have hgc := World.grownBy_alloc w3 (.cells (geA g) 50) none
    have HB5 := Aside0.mk (heap_alloc_new w3 (.cells (geA g) 50))
    replace HR := Aside0.mk (Kd.R_grown HR.out hgc (by simp))
    replace HB2 := Aside0.mk (blk_grown HB2.out hgc)
    replace HBL := Aside0.mk (below_two HBL.out HZ.out hgc)
    clear hgc
    have HXL := Aside0.mk (show (((List.range k).filterMap (owO N s ws)).map geS).length ≤ 4096 by have := HTB.out.hN; have := List.length_filterMap_le (owO N s ws) (List.range k); simp only [List.length_map, List.length_range] at this ⊢; omega)
    obtain ⟨z0, z1, z2, z3, z4, z5, z6, z7, z8, z9, z10⟩ := tte_Read.cz11 HB5.out
    go_wp2_with (((with_reducible refine gate_builtin (b := .append) (xs := #[.tmp 26, .tmp 28]) rfl ?_); at_builtin; refine Kd.R_append k50 (w0 := w1) (h2 + 1) rfl (.tmp 26) (.tmp 28) 41 50 (.agg #[.int .i64 0, .int .i64 0, .int .u64 0, .int .u64 0, .bool false, .bool false, .bool false, .bool false, .bool false, .bool false, .bool false]) 40 rfl Try.underlying41 info50 rfl (by decide) (by omega) u3 (((List.range k).filterMap (owO N s ws)).map geS) (geS g) (geA g).toList (fun _ => True) (fun _ => False) rfl (by first | (go_simp; done) | (go_simp; rfl)) ?aP (fun _ hk => hk.elim) (fun _ _ => trivial) ?aO ?aB ?aS ?aL ?_; (case aP => exact k50_mkM _ _ _ (geS g)); (case aO => exact HR.out); (case aB => exact HBL.out); (case aS => exact Nat.le_trans (Nat.le_of_eq (by rw [HZ.out])) HBL.out.size); (case aL => have := HXL.out; omega); intro v1 w5 hR hB hg hat; have HR5 := Aside0.mk hR; have HBL5 := Aside0.mk hB; clear hR hB hg hat))

    go_roundw
    case rel => exact ⟨k + 1, by go_num, by have := HKN.out; omega, ⟨by rw [HSN.out]; exact HR5.out⟩, ⟨(HBL5.out.block h2 (Nat.lt_succ_self _)).trans HB0.out⟩, HBL5⟩
    case measure => have := HKN.out; simp [intOf]; omega
  ·have hkk : ((k : Int) < (N : Int) ∧ ¬ (0 : Int) < (l.length : Int)) ∨ ¬ (k : Int) < (N : Int) := by omega
   have HLE := Aside0.mk (show (List.range k).filterMap (owO N s ws) = listO N (owO N s ws) by
    rcases Nat.lt_or_ge k N with e | e
    ·have e0 : l = [] := List.eq_nil_of_length_eq_zero (by omega)
     have e1 := HDW.out
     rw [e0] at e1
     unfold listO
     rw [filterMap_none _ (fun i hi => e1.nil (by have := List.mem_range.1 hi; omega)), filterMap_none _ (fun i hi => e1.nil (List.mem_range.1 hi))]
    ·obtain rfl : k = N := by omega
     rfl)
   clear hkl
   rcases hkk with ⟨h1', h2'⟩ | h1'
   all_goals
    go_wp2
    go_ret
    refine ⟨_, rfl, ?_, ?_⟩
    ·rw [← HLE.out]
     exact Kd.R_lower HR.out (by rw [HH.out]; exact Nat.le_succ _)
    ·exact grown_two HG.out (below_grown (by rw [HZ.out]; exact HBL.out))
/-- The document's list of words: one for each of some places. -/
def LOK (N : Nat) (l : List WS) : Prop := (l.map (fun x : WS => x.f0)).Nodup ∧ ∀ x ∈ l, 0 ≤ x.f0 ∧ x.f0 < N
theorem lok_nil (N : Nat) : LOK N [] := ⟨List.nodup_nil, fun x h => by cases h⟩
theorem LOK.put {N : Nat} {l : List WS} (h : LOK N l) {i : Nat} (hi : i < N) (t d : Int) : LOK N (pW l (i : Int) t d) := by
 have hs : ((l.filter (fun x => !(x.f0 == (i : Int)))).map (fun x : WS => x.f0)).Nodup := h.1.sublist (List.Sublist.map _ List.filter_sublist)
 have hm : ∀ x ∈ l.filter (fun x => !(x.f0 == (i : Int))), 0 ≤ x.f0 ∧ x.f0 < N := fun x hx => h.2 x (List.mem_filter.1 hx).1
 unfold pW
 split
 ·rw [List.append_nil]; exact ⟨hs, hm⟩
 ·refine ⟨?_, fun x hx => ?_⟩
  ·rw [List.map_append, List.nodup_append]
   refine ⟨hs, by simp, fun a ha b hb => ?_⟩
   obtain ⟨x, hx, rfl⟩ := List.mem_map.1 ha
   have := (List.mem_filter.1 hx).2
   simp at hb this
   subst hb
   exact this
  ·rcases List.mem_append.1 hx with hx | hx
   ·exact hm x hx
   ·rw [List.mem_singleton.1 hx]
    show (0 : Int) ≤ (i : Int) ∧ (i : Int) < (N : Int)
    omega
theorem LOK.ins {N : Nat} {l : List WS} (h : LOK N l) {i : Nat} (hi : i < N) (t d : Int) : LOK N (insW l (i : Int) t d) := ((h.put hi _ _).put hi _ _).put hi _ _
theorem gW_far {a : Int} : ∀ l : List WS, (∀ x ∈ l, x.f0 ≠ a) → gW l a = (9223372036854775807, 0)
 | [], _ => rfl
 | b :: l, h => by rw [gW_cons, if_neg (h b (by simp)), gW_far l (fun x hx => h x (by simp [hx]))]
theorem count_at (p q : Nat → Bool) (j : Nat) (hj : p j = false) (hq : ∀ i, i ≠ j → q i = p i) : ∀ is : List Nat, is.Nodup → (is.filter q).length = (is.filter p).length + (if j ∈ is then (if q j = true then 1 else 0) else 0)
 | [], _ => rfl
 | i :: is, h => by
  rw [List.nodup_cons] at h
  have ih := count_at p q j hj hq is h.2
  by_cases e : i = j
  ·subst e
   rw [if_neg h.1] at ih
   rw [if_pos (by simp), List.filter_cons, List.filter_cons, hj]
   cases q i <;> simp [ih]
  ·have hm : (j ∈ i :: is) ↔ j ∈ is := by simp [Ne.symm e]
   simp only [hm]
   rw [List.filter_cons, List.filter_cons, hq i e]
   cases p i <;> simp [ih] <;> omega
theorem unlocked (N : Nat) : ∀ l : List WS, LOK N l → ((List.range N).filter (fun i : Nat => !((gW l (i : Int)).1 == 9223372036854775807))).length = (l.filter (fun x => !(x.f1 == 9223372036854775807))).length
 | [], _ => by
  rw [List.filter_eq_nil_iff.2 (fun i _ => by show ¬ (!((9223372036854775807 : Int) == 9223372036854775807)) = true; decide)]
  rfl
 | b :: l, h => by
  have h1 := h.1
  rw [List.map_cons, List.nodup_cons] at h1
  have hb := h.2 b (by simp)
  obtain ⟨j, hj⟩ := Int.eq_ofNat_of_zero_le hb.1
  have ih := unlocked N l ⟨h1.2, fun x hx => h.2 x (by simp [hx])⟩
  have hf : gW l (j : Int) = (9223372036854775807, 0) := gW_far l (fun x hx e => h1.1 (by rw [hj, ← e]; exact List.mem_map.2 ⟨x, hx, rfl⟩))
  have := count_at (fun i : Nat => !((gW l (i : Int)).1 == 9223372036854775807)) (fun i : Nat => !((gW (b :: l) (i : Int)).1 == 9223372036854775807)) j (by simp [hf]) (fun i hi => by simp only [gW_cons]; rw [if_neg (by omega)]) (List.range N) List.nodup_range
  rw [this, ih, if_pos (List.mem_range.2 (by omega)), gW_cons, if_pos hj, List.filter_cons]
  by_cases e : b.f1 = 9223372036854775807
  ·simp [e]
  ·simp [e]
/-- How many places are locked. -/
theorem locked_W {N : Nat} {ws : Nat → Wd} {l : List WS} (hd : DWw N ws l) (hl : LOK N l) : lockX ws (List.range N) + (l.filter (fun x => !(x.f1 == 9223372036854775807))).length = N := by
 have h1 := unlocked N l hl
 have h2 : (List.range N).filter (fun i : Nat => !((gW l (i : Int)).1 == 9223372036854775807)) = (List.range N).filter (fun i => !((ws i).1 == BADW)) := List.filter_congr fun i hi => by
  rw [hd i (List.mem_range.1 hi)]
  show (!(((ws i).1 : Int) == 9223372036854775807)) = (!((ws i).1 == BADW))
  congr 1
  rw [Bool.eq_iff_iff, beq_iff_eq, beq_iff_eq]
  unfold BADW
  omega
 rw [h2] at h1
 rw [← h1]
 have h3 : ∀ (p : Nat → Bool) (is : List Nat), (is.filter p).length + (is.filter (fun i => !p i)).length = is.length := fun p is => by
  induction is with
  | nil => rfl
  | cons i is ih => rw [List.filter_cons, List.filter_cons]; cases p i <;> simp <;> omega
 have := h3 (fun i => (ws i).1 == BADW) (List.range N)
 rw [List.length_range] at this
 exact this
end
end Go.Proofs.Ytjnffegjpkbjmaa.Mem
-- halved
