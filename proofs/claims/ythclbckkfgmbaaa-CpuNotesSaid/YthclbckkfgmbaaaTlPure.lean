/- What the places of a TLB keep: entries that may be, that part; found once; locked ones stay; plain lists; no conditions. -/
import Derived.Test.YthclbckkfgmbaaaTl11
import Derived.Test.YthclbckkfgmbaaaTlPartsP
/- merged: Tl12 -/
namespace Go.Proofs.Ythclbckkfgmbaaa.QTlbPlays
open Go.RowKit Go.Proofs.YthclbckkfgmbaaaW.PrintWords Go.Proofs.YthclbckkfgmbaaaW.PrintLast Go.Proofs.YthclbckkfgmbaaaW.PrintMore
set_option linter.unusedSimpArgs false
set_option linter.unusedVariables false
section
set_option maxHeartbeats 1000000
set_option maxRecDepth 100000
/-- All entries of the first k places. -/
def listTo (es : List (Option Ent)) (k : Nat) : List Ent := (es.take k).filterMap id
abbrev listOf (es : List (Option Ent)) : List Ent := es.filterMap id
theorem listTo_none {es : List (Option Ent)} {k : Nat} (hk : k < es.length) (h : es.getD k none = none) : listTo es (k + 1) = listTo es k := by
  unfold listTo
  rw [List.take_succ_eq_append_getElem hk, List.filterMap_append]
  simp [List.getD, hk] at h
  simp [h]
theorem listTo_some {es : List (Option Ent)} {k : Nat} (hk : k < es.length) {e : Ent} (h : es.getD k none = some e) : listTo es (k + 1) = listTo es k ++ [e] := by
  unfold listTo
  rw [List.take_succ_eq_append_getElem hk, List.filterMap_append]
  simp [List.getD, hk] at h
  simp [h]
theorem listTo_len (es : List (Option Ent)) (k : Nat) : (listTo es k).length ≤ k := by
  unfold listTo
  exact Nat.le_trans (List.length_filterMap_le _ _) (by simp; omega)
theorem tl_list {B w0 p r es W} (h : Tl B w0 p r es W) : Calls Try.prog 22 #[.pointer (some ⟨p, 0, none⟩)] W fun x W' => (∃ v0 : Value, x = .returned v0 ∧ Kd.R k26 26 W' W.heap.size (fun _ => True) v0 (listOf es)) ∧ W.grownBy W' none := by
  have hu := Try.underlying26
  have hu2 := Try.underlying24
  have HM := Aside0.mk h
  have hlen := h.len
  have hcell := h.cell
  have HB0 := Aside0.mk (Below.refl W.heap.size W)
  clear h
  go_enter Try.func22, Try.ntmps22
  go_wp2
  clear hcell
  go_loopw [3, 11] (fun v3 v11 wr => ∃ (k : Nat) (v : Value), v11 = .int .i64 k ∧ v3 = v ∧ k ≤ es.length ∧ Aside0 (Kd.R k26 26 wr W.heap.size (fun _ => True) v (listTo es k)) ∧ Aside0 (Below W.heap.size W wr)) (fun _ v11 _ => es.length - (intOf v11).toNat)
  case atStart => exact ⟨0, _, rfl, rfl, by omega, ⟨Kd.R_nil _ _ _ _ _⟩, HB0⟩
  case round =>
    obtain ⟨k, u3, rfl, rfl, hk, HO, HB⟩ := hrel
    by_cases hk2 : k < es.length
    · have hk2' : (k : Int) < (es.length : Int) := by omega
      have hk0 : (0 : Int) ≤ (k : Int) := by omega
      have hp := (HM.out.same (below_grown HB.out)).at k hk2
      cases hx : es.getD k none with
      | none =>
        have HS := Aside0.mk (listTo_none hk2 hx)
        rw [hx] at hp
        cases hp
        rename_i hc
        clear hx
        go_wp2
        go_roundw
        case rel => exact ⟨k + 1, _, by go_num, rfl, by omega, ⟨by rw [HS.out]; exact HO.out⟩, HB⟩
        case measure => simp [intOf]; omega
      | some e =>
        have HS := Aside0.mk (listTo_some hk2 hx)
        have hll := listTo_len es k
        rw [hx] at hp
        cases hp
        rename_i b hc hb
        obtain ⟨q0, q1, q2, q3, q4, q5, q6, q7, q8, q9, q10⟩ := cz11 hb
        clear hx hb
        generalize listTo es k = l at HO HS hll
        go_wp2_with (first | ((with_reducible refine gate_builtin (b := .append) (xs := #[.tmp 17, .tmp 21]) rfl ?_); at_builtin; refine Kd.R_append k26 (w0 := W) W.heap.size rfl (.tmp 17) (.tmp 21) 33 26 (.agg #[(.int .i64 0), (.int .i64 0), (.int .u64 0), (.int .u64 0), (.bool false), (.bool false), (.bool false), (.bool false), (.bool false), (.bool false), (.bool false)]) 40 rfl Try.underlying33 info26 rfl (by decide) (by omega) u3 l e [.int .i64 e.f0, .int .i64 e.f1, .int .u64 e.f2, .int .u64 e.f3, .bool e.f4.f0, .bool e.f4.f1, .bool e.f4.f2, .bool e.f4.f3, .bool e.f4.f4, .bool e.f4.f5, .bool e.f5] (fun _ => True) (fun _ => False) rfl rfl ?aP (fun _ hk => hk.elim) ?aF ?aO ?aB ?aS ?aL ?_; (case aP => exact k26_mkM _ _ _ e); (case aB => exact HB.out); (case aF => exact (fun _ _ => trivial)); (case aO => first | exact HO.out | exact Kd.R_alloc HO.out _); (case aS => first | exact below_size HB.out | exact below_size (below_alloc HB.out _)); (case aL => omega); intro v245 w7 ho hb hg hat; rw [← HS.out] at ho; have HB7 := Aside0.mk hb; have HO7 := Aside0.mk ho; clear ho hb hg hat))
        go_roundw
        case rel => exact ⟨k + 1, _, by go_num, rfl, by omega, HO7, HB7⟩
        case measure => simp [intOf]; omega
    · obtain rfl : k = es.length := by omega
      have HO2 := Aside0.mk (show Kd.R k26 26 wr W.heap.size (fun _ => True) u3 (listOf es) by have := HO.out; unfold listTo at this; rwa [List.take_length] at this)
      go_wp2
      go_ret
      exact ⟨⟨u3, rfl, HO2.out⟩, below_grown HB.out⟩
end
end Go.Proofs.Ythclbckkfgmbaaa.QTlbPlays
namespace Go.Proofs.Ythclbckkfgmbaaa.QTlbPlays
open Go.RowKit Go.Proofs.YthclbckkfgmbaaaW.PrintWords Go.Proofs.YthclbckkfgmbaaaW.PrintLast Go.Proofs.YthclbckkfgmbaaaW.PrintMore
set_option linter.unusedSimpArgs false
structure Sub (a b : List (Option Ent)) : Prop where
  len : a.length = b.length
  at_ : ∀ i e, a.getD i none = some e → b.getD i none = some e
def Apart (es : List (Option Ent)) : Prop := ∀ i j a b, i ≠ j → es.getD i none = some a → es.getD j none = some b → partsB a b = true
structure Inv (es : List (Option Ent)) : Prop where
  ok : OkL es
  ap : Apart es
theorem ok_at {es : List (Option Ent)} (h : OkL es) {i : Nat} {e : Ent} (hx : es.getD i none = some e) : EntW e ∧ mayB e = true := h e (mem_of_getD hx)
theorem okl_of {es : List (Option Ent)} (h : ∀ i e, es.getD i none = some e → EntW e ∧ mayB e = true) : OkL es := fun e hm => by
  obtain ⟨i, hi, he⟩ := List.getElem_of_mem hm
  exact h i e (by simp [List.getD, hi, he])
theorem lt_of_getD {es : List (Option Ent)} {i : Nat} {e : Ent} (h : es.getD i none = some e) : i < es.length := by
  by_cases hi : i < es.length
  · exact hi
  · simp [List.getD, hi] at h
theorem Inv.sub {a b : List (Option Ent)} (h : Inv b) (hs : Sub a b) : Inv a := ⟨okl_of fun i e hx => ok_at h.ok (hs.at_ i e hx), fun i j x y n hx hy => h.ap i j x y n (hs.at_ i x hx) (hs.at_ j y hy)⟩
theorem clear_some {es : List (Option Ent)} {q : Ent → Bool} {i : Nat} {e : Ent} (h : (clearQ es q).getD i none = some e) : es.getD i none = some e ∧ q e = false := by
  rw [clearQ_at] at h
  cases hx : es.getD i none with
  | none => rw [hx] at h; cases h
  | some y =>
    rw [hx] at h
    cases hq : q y with
    | true => simp [hq] at h
    | false => simp [hq] at h; subst h; exact ⟨rfl, hq⟩
theorem clear_keeps {es : List (Option Ent)} {q : Ent → Bool} {i : Nat} {e : Ent} (h : es.getD i none = some e) (hq : q e = false) : (clearQ es q).getD i none = some e := by
  rw [clearQ_at, h]
  simp [hq]
theorem clear_sub (es : List (Option Ent)) (q : Ent → Bool) : Sub (clearQ es q) es := ⟨clearQ_len es q, fun _ _ h => (clear_some h).1⟩
theorem set_at {es : List (Option Ent)} {i : Nat} (x : Option Ent) (hi : i < es.length) (j : Nat) : (es.set i x).getD j none = if j = i then x else es.getD j none := by
  by_cases e : j = i
  · subst e; simp [List.getD, hi]
  · simp [List.getD, List.getElem?_set_ne (Ne.symm e), e]
theorem Inv.put {es : List (Option Ent)} (h : Inv es) {i : Nat} (hi : i < es.length) {e : Ent} (he : EntW e) (hm : mayB e = true) (hp : ∀ j b, j ≠ i → es.getD j none = some b → partsB e b = true) : Inv (es.set i (some e)) := by
  refine ⟨okl_of fun j x hx => ?_, fun j k x y n hx hy => ?_⟩
  · rw [set_at _ hi] at hx
    split at hx
    · cases hx; exact ⟨he, hm⟩
    · exact ok_at h.ok hx
  · rw [set_at _ hi] at hx hy
    split at hx
    · rename_i e1
      cases hx
      split at hy
      · rename_i e2; exact absurd (e1.trans e2.symm) n
      · rename_i e2; exact hp k y e2 hy
    · rename_i e1
      split at hy
      · cases hy
        have := hp j x e1 hx
        rw [parts_comm (may_okS (ok_at h.ok hx).2) (may_okS hm)]
        exact this
      · exact h.ap j k x y n hx hy
theorem Inv.drop {es : List (Option Ent)} (h : Inv es) (i : Nat) : Inv (es.set i none) := by
  refine h.sub ⟨by simp, fun j e hx => ?_⟩
  by_cases hi : i < es.length
  · rw [set_at _ hi] at hx
    split at hx
    · cases hx
    · exact hx
  · rwa [List.set_eq_of_length_le (by omega)] at hx
theorem rep_none (n i : Nat) : (List.replicate n (none : Option Ent)).getD i none = none := by
  by_cases h : i < n
  · simp [List.getD, h]
  · simp [List.getD, h]
theorem inv_new (n : Nat) : Inv (List.replicate n none) := by
  refine ⟨okl_of fun i e hx => ?_, fun i j a b _ hx _ => ?_⟩ <;> (rw [rep_none] at hx; cases hx)
theorem gone_parts {es : List (Option Ent)} {e : Ent} {j : Nat} {b : Ent} (h : (goneOf es e).getD j none = some b) : es.getD j none = some b ∧ partsB e b = true := by
  obtain ⟨h1, h2⟩ := clear_some h
  refine ⟨h1, ?_⟩
  unfold againstQ at h2
  simpa using h2
theorem mem_plL {es : List (Option Ent)} {q : Ent → Bool} {i : Nat} : i ∈ plL es q ↔ ∃ e, es.getD i none = some e ∧ q e = true := by
  constructor
  · intro h; exact (plL_spec h).2
  · rintro ⟨e, hx, hq⟩
    unfold plL plTo
    rw [List.mem_filter, List.mem_range]
    exact ⟨lt_of_getD hx, by simp only [hx]; exact hq⟩
theorem one_list {l : List Nat} {i : Nat} (hn : l.Nodup) (hm : i ∈ l) (ha : ∀ j ∈ l, j = i) : l = [i] := by
  match l, hn, hm, ha with
  | [a], _, _, ha => rw [ha a (by simp)]
  | a :: b :: t, hn, _, ha =>
    have e1 := ha a (by simp)
    have e2 := ha b (by simp)
    subst e1
    subst e2
    simp at hn
theorem plL_one {es : List (Option Ent)} {q : Ent → Bool} {i : Nat} {e : Ent} (hx : es.getD i none = some e) (hq : q e = true) (hu : ∀ j b, es.getD j none = some b → q b = true → j = i) : plL es q = [i] := by
  refine one_list ?_ (mem_plL.2 ⟨e, hx, hq⟩) (fun j hj => ?_)
  · unfold plL plTo
    exact List.Pairwise.filter _ List.nodup_range
  · obtain ⟨b, hb, hqb⟩ := mem_plL.1 hj
    exact hu j b hb hqb
theorem plL_none {es : List (Option Ent)} {q : Ent → Bool} (h : ∀ j b, es.getD j none = some b → q b = false) : plL es q = [] := by
  refine List.eq_nil_iff_forall_not_mem.2 (fun j hj => ?_)
  obtain ⟨b, hb, hqb⟩ := mem_plL.1 hj
  rw [h j b hb] at hqb
  cases hqb
/-- An address in a context is one entry's at most. -/
theorem Inv.uniq {es : List (Option Ent)} (h : Inv es) {i j : Nat} {a b : Ent} (hx : es.getD i none = some a) (hy : es.getD j none = some b) {va ctx : Int} (h1 : hitsB a va ctx = true) (h2 : hitsB b va ctx = true) : j = i := by
  by_cases c : j = i
  · exact c
  · have := h.ap i j a b (Ne.symm c) hx hy
    rw [parts_of_hits (may_okS (ok_at h.ok hx).2) (may_okS (ok_at h.ok hy).2) h1 h2] at this
    cases this
theorem Inv.one {es : List (Option Ent)} (h : Inv es) {i : Nat} {e : Ent} (hx : es.getD i none = some e) {va ctx : Int} (hh : hitsB e va ctx = true) : plL es (fun e => hitsB e va ctx) = [i] := plL_one hx hh fun _ _ hy hb => h.uniq hx hy hh hb
theorem Inv.find {es : List (Option Ent)} (h : Inv es) {i : Nat} {e : Ent} (hx : es.getD i none = some e) {va ctx : Int} (hh : hitsB e va ctx = true) : findOf es (fun e => hitsB e va ctx) = some i := by
  unfold findOf
  rw [h.one hx hh]
  rfl
theorem hits_self {e : Ent} (h : OkS e) : hitsB e e.f2 e.f1 = true := by
  rw [hitsB_eq h, decide_eq_true (show pg e.f0 e.f2.toNat e.f2.toNat from rfl)]
  simp
theorem ins_inv {es : List (Option Ent)} (h : Inv es) {e : Ent} (he : EntW e) (pick : Int) : Inv (insOf es e pick).2.2 := by
  unfold insOf
  split
  · exact h
  · rename_i hm
    split
    · exact h
    · split
      · exact h.sub (clear_sub es _)
      · rename_i i hp
        exact (h.sub (clear_sub es _)).put (placeN_lt hp) he (by simpa using hm) (fun j b _ hy => (gone_parts hy).2)
theorem gone_len (es : List (Option Ent)) (e : Ent) : (goneOf es e).length = es.length := clearQ_len es _
theorem ins_len (es : List (Option Ent)) (e : Ent) (pick : Int) : (insOf es e pick).2.2.length = es.length := by
  unfold insOf
  split
  · rfl
  · split
    · rfl
    · split
      · exact gone_len es e
      · simp [gone_len]
theorem none_all {es : List (Option Ent)} (h : noneAt es = none) {i : Nat} (hi : i < es.length) : ∃ e, es.getD i none = some e := by
  unfold noneAt at h
  rw [List.findIdx?_eq_none_iff] at h
  have := h _ (List.getElem_mem hi)
  cases hx : es[i] with
  | none => rw [hx] at this; cases this
  | some e => exact ⟨e, by simp [List.getD, hi, hx]⟩
theorem placeN_spec {es : List (Option Ent)} {pick : Int} {i : Nat} (h : placeN es pick = some i) : es.getD i none = none ∨ ∃ e, es.getD i none = some e ∧ openB e = true := by
  unfold placeN at h
  split at h
  · rename_i hn
    cases h
    obtain ⟨h1, h2, _⟩ := List.findIdx?_eq_some_iff_getElem.1 hn
    left
    simp [List.getD, h1]
    simpa using h2
  · split at h
    · cases h
    · rename_i h0
      have hm : (plL es openB).getD (pickN pick % (plL es openB).length) 0 ∈ plL es openB := by
        have hlt := Nat.mod_lt (pickN pick) (Nat.pos_of_ne_zero h0)
        simp [List.getD, hlt]
      cases h
      right
      exact mem_plL.1 hm
def NoLock (es : List (Option Ent)) : Prop := ∀ i e, es.getD i none = some e → lockB e = false
theorem nolock_new (n : Nat) : NoLock (List.replicate n none) := fun i e hx => by rw [rep_none] at hx; cases hx
theorem any_lock {es : List (Option Ent)} {q : Ent → Bool} (h : ∀ i e, es.getD i none = some e → q e = true → lockB e = false) : (plL es q).any (lockAt es) = false := by
  rw [List.any_eq_false]
  intro i hi
  obtain ⟨e, hx, hq⟩ := mem_plL.1 hi
  rw [lockAt_of hx, h i e hx hq]
  simp
theorem finds_step {es : List (Option Ent)} (hn : NoLock es) (h1 : 1 ≤ es.length) {g : Ent} (hm : mayB g = true) (pick : Int) : ∃ i : Nat, i < es.length ∧ insOf es g pick = ((i : Int), 0, (goneOf es g).set i (some g)) := by
  have e1 : (plL es (againstQ g)).any (lockAt es) = false := any_lock fun i e hx _ => hn i e hx
  have hp : ∃ i, placeN (goneOf es g) pick = some i := by
    unfold placeN
    cases hno : noneAt (goneOf es g) with
    | some i => exact ⟨i, rfl⟩
    | none =>
      obtain ⟨e, he⟩ := none_all hno (show 0 < (goneOf es g).length by rw [gone_len]; omega)
      have : 0 ∈ plL (goneOf es g) openB := mem_plL.2 ⟨e, he, by
        unfold openB
        have := hn 0 e (gone_parts he).1
        unfold lockB at this
        rw [this]; rfl⟩
      have h0 : (plL (goneOf es g) openB).length ≠ 0 := by
        have := List.length_pos_of_mem this
        omega
      simp only [if_neg h0]
      exact ⟨_, rfl⟩
  obtain ⟨i, hp⟩ := hp
  refine ⟨i, by have := placeN_lt hp; rwa [gone_len] at this, ?_⟩
  unfold insOf
  rw [if_neg (by simp [hm]), if_neg (by simp [e1]), hp]
theorem nolock_step {es : List (Option Ent)} (hn : NoLock es) {g : Ent} (hl : lockB g = false) {i : Nat} (hi : i < es.length) : NoLock ((goneOf es g).set i (some g)) := fun j e hx => by
  rw [set_at _ (by rw [gone_len]; exact hi)] at hx
  split at hx
  · cases hx; exact hl
  · exact hn j e (gone_parts hx).1
def lockE (e : Ent) (b : Bool) : Ent := ⟨e.f0, e.f1, e.f2, e.f3, ⟨e.f4.f0, e.f4.f1, e.f4.f2, b, e.f4.f4, e.f4.f5⟩, e.f5⟩
theorem lockE_W {e : Ent} (h : EntW e) (b : Bool) : EntW (lockE e b) := ⟨h.s, h.c, h.v, h.p⟩
theorem lockE_may (e : Ent) (b : Bool) : mayB (lockE e b) = mayB e := rfl
theorem may_mod {e : Ent} (h : mayB e = true) : e.f2.toNat % bytesOf e.f0 = 0 := by
  unfold mayB mayOf at h
  simp at h
  exact h.2.2.2.2.2.2.1
theorem off_size (s : Int) (hs : okSize s) (v o : Nat) (hv : v < 18446744073709551616) (hm : v % bytesOf s = 0) (ho : o < bytesOf s) : v + o < 18446744073709551616 ∧ pg s (v + o) v := by
  rcases ok_cases hs with rfl | rfl | rfl | rfl
  · rw [by0] at hm ho; rw [pg0]; omega
  · rw [by1] at hm ho; rw [pg1]; omega
  · rw [by2] at hm ho; rw [pg2]; omega
  · rw [by3] at hm ho; rw [pg3]; omega
theorem hits_off {g : Ent} (hg : EntW g) (hm : mayB g = true) (o : Nat) (ho : o < bytesOf g.f0) : IntKind.u64.wrap (g.f2 + (o : Int)) = ((g.f2.toNat + o : Nat) : Int) ∧ (Lit.int .u64 ((g.f2.toNat + o : Nat) : Int)).wf = true ∧ hitsB g ((g.f2.toNat + o : Nat) : Int) g.f1 = true := by
  have hs := may_okS hm
  obtain ⟨h1, h2⟩ := u64_nat hg.v
  obtain ⟨h3, h4⟩ := off_size g.f0 hs.1 g.f2.toNat o h2 (may_mod hm) ho
  refine ⟨?_, wf_natu h3, ?_⟩
  · rw [IntKind.wrap_u64]; omega
  · rw [hitsB_eq hs, Int.toNat_natCast, decide_eq_true h4]
    simp
/-- A locked entry stays. -/
theorem locks_step {es : List (Option Ent)} {i : Nat} {g : Ent} (hx : es.getD i none = some g) (hl : lockB g = true) (e : Ent) (pick : Int) : (insOf es e pick).2.2.getD i none = some g := by
  unfold insOf
  split
  · exact hx
  · split
    · exact hx
    · rename_i ha
      have hq : againstQ e g = false := by
        cases hq : againstQ e g with
        | false => rfl
        | true =>
          exact absurd (List.any_eq_true.2 ⟨i, mem_plL.2 ⟨g, hx, hq⟩, by rw [lockAt_of hx, hl]⟩) ha
      have hg : (goneOf es e).getD i none = some g := clear_keeps hx hq
      split
      · exact hg
      · rename_i j hp
        have hj : i ≠ j := by
          rintro rfl
          rcases placeN_spec hp with h | ⟨e', h, ho⟩
          · rw [hg] at h; cases h
          · rw [hg] at h
            cases h
            unfold openB at ho
            unfold lockB at hl
            rw [hl] at ho
            cases ho
        rw [show ((goneOf es e).set j (some e)).getD i none = _ from set_at _ (placeN_lt hp) i, if_neg hj]
        exact hg
theorem plTo_filter {es : List (Option Ent)} (q : Ent → Bool) : ∀ k, k ≤ es.length → (plTo es q k).length = ((listTo es k).filter q).length
  | 0, _ => by simp [plTo, listTo]
  | k + 1, hk => by
    rw [plTo_succ, List.length_append, plTo_filter q k (by omega)]
    cases hx : es.getD k none with
    | none => rw [listTo_none (by omega) hx]; rfl
    | some e =>
      rw [listTo_some (by omega) hx, List.filter_append, List.length_append]
      cases hq : q e <;> simp [hq]
theorem plL_filter (es : List (Option Ent)) (q : Ent → Bool) : (plL es q).length = ((listOf es).filter q).length := by
  have := plTo_filter (es := es) q es.length (Nat.le_refl _)
  unfold listTo at this
  rwa [List.take_length] at this
theorem mem_listOf {es : List (Option Ent)} {e : Ent} (h : e ∈ listOf es) : ∃ i, es.getD i none = some e := by
  simp only [listOf, List.mem_filterMap, id] at h
  obtain ⟨o, ho, rfl⟩ := h
  obtain ⟨i, hi, he⟩ := List.getElem_of_mem ho
  exact ⟨i, by simp [List.getD, hi, he]⟩
theorem all_locked {es : List (Option Ent)} : (plL (clearQ es openB) lockB).length = (listOf (clearQ es openB)).length := by
  rw [plL_filter, List.filter_eq_self.2]
  intro e he
  obtain ⟨i, hx⟩ := mem_listOf he
  have := (clear_some hx).2
  unfold openB at this
  unfold lockB
  simpa using this
theorem list_le (es : List (Option Ent)) : (listOf es).length ≤ es.length := List.length_filterMap_le _ _
end Go.Proofs.Ythclbckkfgmbaaa.QTlbPlays
