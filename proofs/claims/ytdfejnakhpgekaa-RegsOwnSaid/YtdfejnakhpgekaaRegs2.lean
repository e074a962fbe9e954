/- What Write, Miss, Fault and Clear do with registers, and answer; each with its own conditions. -/
import Derived.Test.YtdfejnakhpgekaaRegs1
namespace Go.Proofs.Ytdfejnakhpgekaa.QRegsPlays
open Go.RowKit Go.Maps Go.Proofs.YtdfejnakhpgekaaW.PrintWords Go.Proofs.YtdfejnakhpgekaaW.PrintLast Go.Proofs.YtdfejnakhpgekaaW.PrintMore
set_option linter.unusedSimpArgs false
set_option linter.unusedVariables false
theorem grown_but {W W1 : World} (h : W.grownBy W1 none) (row : Option Nat) : W.grownBy W1 row := ⟨h.os, h.tape, h.output, h.size, fun i hi _ => h.block i hi (by simp)⟩
theorem gate_insert {P : Program} {ops : Array Oper} {rest : List Oper} {o : Oper} {a : Act} {Q : Exit → Act → World → Prop} {W : World} {t : TypeId} {m x v : Operand} (_ho : o.op = .insert t m x v) (h : wpList P ops Q (o :: rest) a W) : wpList P ops Q (o :: rest) a W := h
theorem wpList_insert_own {H : Type} {P : Program} (w : World) {ops : Array Oper} {rest : List Oper} {o : Oper} {a : Act} {Q : Exit → Act → World → Prop}
    (hg : o.guard = none) (m x v : Operand) (t : TypeId) (hop : o.op = Op.insert t m x v)
    (k e : TypeId) (K : Keyed P k) (ht : P.underlying t = some (.map k e)) (R : Value → Option (DataW H × List MemPlace)) (b n : Nat) (D : DataW H)
    (hm : a.eval m = .map (some b)) (hown : w.ownsMap P k R b n D) (hn : n < maxLen) (key val : Value) (kl : Lit) (hx : a.eval x = key) (hv : a.eval v = val) (hkey : keyOf P k key = some kl)
    (d : DataW H) (ps : List MemPlace) (hval : R val = some (d, ps))
    (hK : ∀ w', w'.ownsMap P k R b (n + 1) (D.put kl d) → w.grownBy w' (some b) → wpList P ops Q rest (a.put o.dst undef) w') :
    wpList P ops Q (o :: rest) a w := by
  refine wpList_plain hg fun K' hK' => ?_
  obtain ⟨w', hrun, r1, r2⟩ := hown.update K ht hn hkey hval
  unfold Oper.wp
  simp [execOp, hop, hm, hx, hv, hrun, Result.andThen]
  exact hK' _ _ (hK w' r1 r2)
theorem wpList_lookup_ok_is {H : Type} {P : Program} (w : World) {ops : Array Oper} {rest : List Oper} {o : Oper} {a : Act} {Q : Exit → Act → World → Prop} (hg : o.guard = none) (m x : Operand) (t : TypeId) (hop : o.op = Op.lookup t m x true)
    (k e : TypeId) (q : IntKind) (K : Keyed P k) (ht : P.underlying t = some (.map k e)) (he : P.underlying e = some (.int q)) (hz : (zeroValue e).run P w = .ok (.int q 0) w) (b n : Nat) (D : DataW H)
    (hm : a.eval m = .map (some b)) (hown : w.ownsMap P k (plainElem P e) b n D) (key : Value) (kl : Lit) (hx : a.eval x = key) (hkey : keyOf P k key = some kl) (c : Int) (hc : D.atKey kl (.lit (.int q 0)) = .lit (.int q c)) (bo : Bool) (hb : Maps.has D kl = bo)
    (hK : wpList P ops Q rest (a.put o.dst (.tuple #[.int q c, .bool bo])) w) : wpList P ops Q (o :: rest) a w :=
  wpList_lookup_own_ok_int w hg m x t hop k e q K ht he hz b n D hm hown key kl hx hkey fun c' hat _ => by
    rw [hc] at hat; cases hat; rw [hb]; exact hK
section
set_option maxHeartbeats 1000000
set_option maxRecDepth 100000
theorem law22 : Keyed Try.prog 22 := int_keyed Try.underlying22
def lu (x : Int) : DataW Unit := .lit (.int .u64 x)
/-- What stays of what is put, by places. -/
def staysD : DataW Unit := (((((DataW.map []).put (.int .u64 8) (lu 8191)).put (.int .u64 16) (lu 8191)).put (.int .u64 24) (lu 16728063)).put (.int .u64 40) (lu 18446744073709547527)).put (.int .u64 48) (lu 18446744073709551615)
theorem mask0 : field_Mask.f 0 13 = some 8191 := fMask 0 13 (by omega) (by omega)
theorem mask1 : field_Mask.f 0 14 = some 16383 := fMask 0 14 (by omega) (by omega)
theorem mask2 : field_Mask.f 16 8 = some 16711680 := fMask 16 8 (by omega) (by omega)
theorem mask3 : field_Mask.f 12 52 = some 18446744073709547520 := fMask 12 52 (by omega) (by omega)
theorem mask4 : field_Mask.f 0 3 = some 7 := fMask 0 3 (by omega) (by omega)
theorem mask5 : field_Mask.f 0 64 = some 18446744073709551615 := fMask 0 64 (by omega) (by omega)
theorem or24 : bits .or .u64 16383 16711680 = 16728063 := u64_or_nat 16383 16711680 (by decide) (by decide)
theorem or40 : bits .or .u64 18446744073709547520 7 = 18446744073709547527 := u64_or_nat 18446744073709547520 7 (by decide) (by decide)
theorem stays_calls (W : World) : Calls Try.prog 55 #[] W fun e W' => ∃ sb, e = .returned (.map (some sb)) ∧ W'.ownsMap Try.prog 22 (plainElem Try.prog 22) sb 5 staysD ∧ W.grownBy W' none := by
  have hmm := @run_makeMap Try.prog
  have HK0 := Aside0.mk mask0
  have HK1 := Aside0.mk mask0
  have HK2 := Aside0.mk mask1
  have HK3 := Aside0.mk mask2
  have HK4 := Aside0.mk mask3
  have HK5 := Aside0.mk mask4
  have HK6 := Aside0.mk mask5
  have HO := Aside0.mk (World.ownsMap_made (H := Unit) W Try.prog 22 (plainElem Try.prog 22))
  have HC := Aside0.mk (World.grownBy_alloc W (.map #[] 0) none)
  have o1 := or24
  have o2 := or40
  go_enter Try.func55, Try.ntmps55
  go_wp2_with (first | (go_at_call 108; first | (refine (field_Mask.calls 0 13 _ _ HK0.out).mono ?_; rintro e x0 ⟨rfl, hd⟩; have HOx := Aside0.mk (HO.out.kept (drawn_grown hd) (by simp)); have HCx := Aside0.mk (grown_two HC.out (drawn_grown hd)); clear HO HC; have HO := HOx; have HC := HCx; clear HK0 HOx HCx hd) | (refine (field_Mask.calls 0 13 _ _ HK1.out).mono ?_; rintro e x1 ⟨rfl, hd⟩; have HOx := Aside0.mk (HO.out.kept (drawn_grown hd) (by simp)); have HCx := Aside0.mk (grown_two HC.out (drawn_grown hd)); clear HO HC; have HO := HOx; have HC := HCx; clear HK1 HOx HCx hd) | (refine (field_Mask.calls 0 14 _ _ HK2.out).mono ?_; rintro e x2 ⟨rfl, hd⟩; have HOx := Aside0.mk (HO.out.kept (drawn_grown hd) (by simp)); have HCx := Aside0.mk (grown_two HC.out (drawn_grown hd)); clear HO HC; have HO := HOx; have HC := HCx; clear HK2 HOx HCx hd) | (refine (field_Mask.calls 16 8 _ _ HK3.out).mono ?_; rintro e x3 ⟨rfl, hd⟩; have HOx := Aside0.mk (HO.out.kept (drawn_grown hd) (by simp)); have HCx := Aside0.mk (grown_two HC.out (drawn_grown hd)); clear HO HC; have HO := HOx; have HC := HCx; clear HK3 HOx HCx hd) | (refine (field_Mask.calls 12 52 _ _ HK4.out).mono ?_; rintro e x4 ⟨rfl, hd⟩; have HOx := Aside0.mk (HO.out.kept (drawn_grown hd) (by simp)); have HCx := Aside0.mk (grown_two HC.out (drawn_grown hd)); clear HO HC; have HO := HOx; have HC := HCx; clear HK4 HOx HCx hd) | (refine (field_Mask.calls 0 3 _ _ HK5.out).mono ?_; rintro e x5 ⟨rfl, hd⟩; have HOx := Aside0.mk (HO.out.kept (drawn_grown hd) (by simp)); have HCx := Aside0.mk (grown_two HC.out (drawn_grown hd)); clear HO HC; have HO := HOx; have HC := HCx; clear HK5 HOx HCx hd) | (refine (field_Mask.calls 0 64 _ _ HK6.out).mono ?_; rintro e x6 ⟨rfl, hd⟩; have HOx := Aside0.mk (HO.out.kept (drawn_grown hd) (by simp)); have HCx := Aside0.mk (grown_two HC.out (drawn_grown hd)); clear HO HC; have HO := HOx; have HC := HCx; clear HK6 HOx HCx hd)) | ((with_reducible refine gate_insert (t := 104) rfl ?_); refine wpList_insert_own _ rfl _ _ _ 104 rfl 22 22 law22 Try.underlying104 _ W.heap.size _ _ rfl HO.out (by decide) _ _ _ rfl rfl (keyOf_int_mk Try.underlying22 (by decide)) _ [] (plainElem_int Try.underlying22 (by decide)) ?_; intro wi hown hg; have HOx := Aside0.mk hown; have HCx := Aside0.mk (HC.out.andThen hg (fun j e => by cases e; exact .inl (Nat.le_refl _))); clear HO HC hown hg; have HO := HOx; have HC := HCx; clear HOx HCx) | go_in)
  go_ret
  exact ⟨_, rfl, HO.out, HC.out⟩
noncomputable def write7_T : Bool × List (List Nat × List Nat) := rtab .any (opsOf Try.f16 7)
theorem write7_tab : rtab .any (opsOf Try.f16 7) = write7_T := rfl
theorem write_put {B w0 p mb n D W} (h : Regs B w0 p mb n D W) (a q : Int) (ha : (Lit.int .i64 a).wf = true) (hq : (Lit.int .u64 q).wf = true) (v : Int) (ht : thereOf a q = true) (m : Int) (hs0 : staysD.atKey (.int .u64 q) (.lit (.int .u64 0)) = .lit (.int .u64 m)) (hb0 : Maps.has staysD (.int .u64 q) = true) (hn : n < 1000000) :
    Calls Try.prog 16 #[.pointer (some ⟨p, 0, none⟩), .int .i64 a, .int .u64 q, .int .u64 v] W fun e W' => e = .returned (.int .i64 0) ∧ Regs B w0 p mb (n + 1) (pk D a q (bits .and .u64 v m)) W' ∧ W.grownBy W' (some mb) := by
  have c0 := h.cell
  have HM := Aside0.mk h
  have HT := Aside0.mk ((there_f a q).trans (congrArg some ht))
  have hs := Aside0.mk hs0
  have hbb := Aside0.mk hb0
  clear h ht hs0 hb0
  have hu := Try.underlying102
  go_enter Try.func16, Try.ntmps16
  go_wp2_with (first | ((with_reducible refine gate_dst (N := 9) rfl ?_); refine box_event ?hg (N := 9) ?hd (cs := #[.int .i64 0, .int .u64 0]) (t := 102) ?hr ?_; (case hd => rfl); (case hg => rfl); (case hr => first | (go_simp; done) | (go_simp; rfl)); intro gk hgb w1 hbox hb; have HK := Aside0.mk hbox; have GHK := Aside0.mk (below_grown hb); have LHK := Aside0.mk (Nat.le_of_eq hgb.symm); clear hgb hbox hb) | ((with_reducible refine gate_store (t := 102) (p := 9) rfl ?_); refine wpList_store_row rfl 102 (.tmp 9) (.tmp 14) rfl gk #[.int .i64 a, .int .u64 q] rfl rfl 102 _ HK.out (by kernel_rfl) rfl (by kernel_rfl) ?_; have SHK := Aside0.mk (setRow_heap _ gk _ #[.int .i64 a, .int .u64 q] _ _ HK.out); have THK := Aside0.mk (grown_row w1 gk #[.int .i64 a, .int .u64 q]); have HKN := Aside0.mk (show gk ≠ mb ∧ gk ≠ p ∧ B ≤ gk from ⟨Nat.ne_of_gt (Nat.lt_of_lt_of_le HM.out.own.lt LHK.out), Nat.ne_of_gt (Nat.lt_of_lt_of_le HM.out.lt LHK.out), Nat.le_trans HM.out.hB LHK.out⟩); have HMk := Aside0.mk ((HM.out.same GHK.out).kept THK.out (fun e => HKN.out.1 (Option.some.inj e).symm) (fun e => HKN.out.2.1 (Option.some.inj e).symm) (fun j e => by cases e; exact HKN.out.2.2)); have HGK := Aside0.mk (grown_new GHK.out THK.out LHK.out); obtain ⟨k0, k1⟩ := cz2 SHK.out; clear HM HK GHK THK) | (go_at_call 55; refine (stays_calls _).mono ?_; rintro e w2 ⟨sb, rfl, ho, hg⟩; have HS := Aside0.mk ho; have HMs := Aside0.mk (HMk.out.same hg); have HGs := Aside0.mk (grown_two HGK.out hg); have HKs := Aside0.mk (show w2.heap[gk]? = some _ from (hg.block gk (blk_lt SHK.out) (by simp)).trans SHK.out); obtain ⟨j0, j1⟩ := cz2 HKs.out; clear ho hg HMk HGK SHK k0 k1) | (at_lookup; refine wpList_lookup_ok_is _ rfl _ _ 104 rfl 22 22 .u64 law22 Try.underlying104 Try.underlying22 (zeroU _) _ 5 staysD rfl HS.out _ _ rfl (keyOf_int_mk Try.underlying22 hq) m hs.out true hbb.out ?_) | (go_at_call 56; refine (regs_there.calls 20 a q _ _ HT.out).mono ?_; rintro e w3 ⟨rfl, hb0⟩; have HKt := Aside0.mk (blk_below HKs.out hb0); have HMt := Aside0.mk (HMs.out.same (below_grown hb0)); have HGt := Aside0.mk (grown_two HGs.out (below_grown hb0)); obtain ⟨i0, i1⟩ := cz2 HKt.out; have d0 := HMt.out.cell; clear hb0 HMs HGs HKs j0 j1) | go_in)
  have AHS := Aside0.mk (show w3.drew.cell? ⟨p, 0, none⟩ = some (.map (some mb)) ∧ w3.drew.cell? ⟨gk, 0, none⟩ = some (.int .i64 a) ∧ w3.drew.cell? ⟨gk, 1, none⟩ = some (.int .u64 q) ∧ w3.drew.ownsMap Try.prog 102 (plainElem Try.prog 22) mb n D from ⟨d0, i0, i1, HMt.out.own.drew⟩)
  have HMd := Aside0.mk (HMt.out.same (grown_drew w3 none))
  have HGd := Aside0.mk (grown_two HGt.out (grown_drew w3 none))
  refine start_ (n := 9) (S := fun w' => w'.cell? ⟨p, 0, none⟩ = some (.map (some mb)) ∧ w'.cell? ⟨gk, 0, none⟩ = some (.int .i64 a) ∧ w'.cell? ⟨gk, 1, none⟩ = some (.int .u64 q) ∧ w'.ownsMap Try.prog 102 (plainElem Try.prog 22) mb n D) (ds := [8]) #[false, false, false, false, false, false, false, false, false] (by kernel_rfl) rfl rfl AHS.out (fun hHeld => ?_)
  refine with_tab write7_tab (fun HT_ => ?_)
  generalize w3.drew = w4 at HMd HGd hHeld ⊢
  refine pure_ (i := 0) (N := some 28) (v := ?_) (a' := ?_) #[true, false, false, false, false, false, false, false, false] rfl rfl (any_of HT_.out (by kernel_rfl)) (fun _ _ _ h => h) (Or.inl ⟨by rfl, ?_⟩) ?_ ?_
  rotate_left
  · intro w'
    go_simp
    with_reducible rfl
  rotate_left
  · simp only [Act.put, List.setIfInBounds_toArray, List.set_cons_zero, List.set_cons_succ, i64_w, i32_w]
    rfl
  refine pure_ (i := 1) (N := some 29) (v := ?_) (a' := ?_) #[true, true, false, false, false, false, false, false, false] rfl rfl (any_of HT_.out (by kernel_rfl)) (fun _ _ _ h => h) (Or.inl ⟨by rfl, ?_⟩) ?_ ?_
  rotate_left
  · intro w'
    go_simp
    with_reducible rfl
  rotate_left
  · simp only [Act.put, List.setIfInBounds_toArray, List.set_cons_zero, List.set_cons_succ, i64_w, i32_w]
    rfl
  refine pure_ (i := 2) (N := some 30) (v := ?_) (a' := ?_) #[true, true, true, false, false, false, false, false, false] rfl rfl (any_of HT_.out (by kernel_rfl)) (fun _ _ _ h => h) (Or.inl ⟨by rfl, ?_⟩) ?_ ?_
  rotate_left
  · intro w'
    go_simp
    with_reducible rfl
  rotate_left
  · simp only [Act.put, List.setIfInBounds_toArray, List.set_cons_zero, List.set_cons_succ, i64_w, i32_w]
    rfl
  refine take_ (i := 3) (N := some 31) (v := ?_) (a' := ?_) #[true, true, true, true, false, false, false, false, false] rfl rfl (take_of HT_.out (by kernel_rfl)) (fun _ _ _ h => h) (Or.inl ⟨by rfl, ?_⟩) hHeld ?_ ?_
  rotate_left
  · rintro w' ⟨s0, s1, s2, s3⟩
    go_simp
    with_reducible rfl
  rotate_left
  · simp only [Act.put, List.setIfInBounds_toArray, List.set_cons_zero, List.set_cons_succ, i64_w, i32_w]
    rfl
  refine take_ (i := 4) (N := some 32) (v := ?_) (a' := ?_) #[true, true, true, true, true, false, false, false, false] rfl rfl (take_of HT_.out (by kernel_rfl)) (fun _ _ _ h => h) (Or.inl ⟨by rfl, ?_⟩) hHeld ?_ ?_
  rotate_left
  · rintro w' ⟨s0, s1, s2, s3⟩
    go_simp
    with_reducible rfl
  rotate_left
  · simp only [Act.put, List.setIfInBounds_toArray, List.set_cons_zero, List.set_cons_succ, i64_w, i32_w]
    rfl
  refine pure_ (i := 5) (N := some 33) (v := ?_) (a' := ?_) #[true, true, true, true, true, true, false, false, false] rfl rfl (any_of HT_.out (by kernel_rfl)) (fun _ _ _ h => h) (Or.inl ⟨by rfl, ?_⟩) ?_ ?_
  rotate_left
  · intro w'
    go_simp
    with_reducible rfl
  rotate_left
  · simp only [Act.put, List.setIfInBounds_toArray, List.set_cons_zero, List.set_cons_succ, i64_w, i32_w]
    rfl
  refine pure_ (i := 6) (N := some 34) (v := ?_) (a' := ?_) #[true, true, true, true, true, true, true, false, false] rfl rfl (any_of HT_.out (by kernel_rfl)) (fun _ _ _ h => h) (Or.inl ⟨by rfl, ?_⟩) ?_ ?_
  rotate_left
  · intro w'
    go_simp
    with_reducible rfl
  rotate_left
  · simp only [Act.put, List.setIfInBounds_toArray, List.set_cons_zero, List.set_cons_succ, i64_w, i32_w]
    rfl
  refine pure_ (i := 7) (N := some 35) (v := ?_) (a' := ?_) #[true, true, true, true, true, true, true, true, false] rfl rfl (any_of HT_.out (by kernel_rfl)) (fun _ _ _ h => h) (Or.inl ⟨by rfl, ?_⟩) ?_ ?_
  rotate_left
  · intro w'
    go_simp
    with_reducible rfl
  rotate_left
  · simp only [Act.put, List.setIfInBounds_toArray, List.set_cons_zero, List.set_cons_succ, i64_w, i32_w]
    rfl
  refine last_ (i := 8) (N := none) #[true, true, true, true, true, true, true, true, true] rfl rfl (one_of HT_.out (by kernel_rfl)) (by decide) (fun K hK => ?_)
  obtain ⟨wu, hrun, hown, hg⟩ := hHeld.2.2.2.update lawK Try.underlying98 (by unfold maxLen; omega) (keyAt a q ha hq) (plainElem_int Try.underlying22 (wf_bits .and .u64 v m))
  refine skip_ (w1 := wu) (by rfl) rfl ?_ ?_
  · go_simp
    first | done | (rw [hrun]; first | done | rfl)
  refine hK.out _ _ ?_
  clear hK K
  have HMu := Aside0.mk (HMd.out.step hg hown)
  have HGu := Aside0.mk (grown_two (grown_but HGd.out _) hg)
  clear hg hown hrun
  refine done_ (done_of HT_.out (by kernel_rfl)) ?_
  go_wp2
  go_ret
  exact ⟨rfl, HMu.out, HGu.out⟩
theorem write_state {B w0 p mb n D W} (h : Regs B w0 p mb n D W) (a q : Int) (ha : (Lit.int .i64 a).wf = true) (hq : (Lit.int .u64 q).wf = true) (v : Int) (ht : thereOf a q = true) (m : Int) (hs0 : staysD.atKey (.int .u64 q) (.lit (.int .u64 0)) = .lit (.int .u64 m)) (hb0 : Maps.has staysD (.int .u64 q) = false) :
    Calls Try.prog 16 #[.pointer (some ⟨p, 0, none⟩), .int .i64 a, .int .u64 q, .int .u64 v] W fun e W' => e = .returned (.int .i64 11) ∧ W.grownBy W' none := by
  have c0 := h.cell
  have HM := Aside0.mk h
  have HT := Aside0.mk ((there_f a q).trans (congrArg some ht))
  have hs := Aside0.mk hs0
  have hbb := Aside0.mk hb0
  clear h ht hs0 hb0
  have hu := Try.underlying102
  go_enter Try.func16, Try.ntmps16
  go_wp2_with (first | ((with_reducible refine gate_dst (N := 9) rfl ?_); refine box_event ?hg (N := 9) ?hd (cs := #[.int .i64 0, .int .u64 0]) (t := 102) ?hr ?_; (case hd => rfl); (case hg => rfl); (case hr => first | (go_simp; done) | (go_simp; rfl)); intro gk hgb w1 hbox hb; have HK := Aside0.mk hbox; have GHK := Aside0.mk (below_grown hb); have LHK := Aside0.mk (Nat.le_of_eq hgb.symm); clear hgb hbox hb) | ((with_reducible refine gate_store (t := 102) (p := 9) rfl ?_); refine wpList_store_row rfl 102 (.tmp 9) (.tmp 14) rfl gk #[.int .i64 a, .int .u64 q] rfl rfl 102 _ HK.out (by kernel_rfl) rfl (by kernel_rfl) ?_; have SHK := Aside0.mk (setRow_heap _ gk _ #[.int .i64 a, .int .u64 q] _ _ HK.out); have THK := Aside0.mk (grown_row w1 gk #[.int .i64 a, .int .u64 q]); have HKN := Aside0.mk (show gk ≠ mb ∧ gk ≠ p ∧ B ≤ gk from ⟨Nat.ne_of_gt (Nat.lt_of_lt_of_le HM.out.own.lt LHK.out), Nat.ne_of_gt (Nat.lt_of_lt_of_le HM.out.lt LHK.out), Nat.le_trans HM.out.hB LHK.out⟩); have HMk := Aside0.mk ((HM.out.same GHK.out).kept THK.out (fun e => HKN.out.1 (Option.some.inj e).symm) (fun e => HKN.out.2.1 (Option.some.inj e).symm) (fun j e => by cases e; exact HKN.out.2.2)); have HGK := Aside0.mk (grown_new GHK.out THK.out LHK.out); obtain ⟨k0, k1⟩ := cz2 SHK.out; clear HM HK GHK THK) | (go_at_call 55; refine (stays_calls _).mono ?_; rintro e w2 ⟨sb, rfl, ho, hg⟩; have HS := Aside0.mk ho; have HMs := Aside0.mk (HMk.out.same hg); have HGs := Aside0.mk (grown_two HGK.out hg); have HKs := Aside0.mk (show w2.heap[gk]? = some _ from (hg.block gk (blk_lt SHK.out) (by simp)).trans SHK.out); obtain ⟨j0, j1⟩ := cz2 HKs.out; clear ho hg HMk HGK SHK k0 k1) | (at_lookup; refine wpList_lookup_ok_is _ rfl _ _ 104 rfl 22 22 .u64 law22 Try.underlying104 Try.underlying22 (zeroU _) _ 5 staysD rfl HS.out _ _ rfl (keyOf_int_mk Try.underlying22 hq) m hs.out false hbb.out ?_) | (go_at_call 56; refine (regs_there.calls 20 a q _ _ HT.out).mono ?_; rintro e w3 ⟨rfl, hb0⟩; have HKt := Aside0.mk (blk_below HKs.out hb0); have HMt := Aside0.mk (HMs.out.same (below_grown hb0)); have HGt := Aside0.mk (grown_two HGs.out (below_grown hb0)); obtain ⟨i0, i1⟩ := cz2 HKt.out; have d0 := HMt.out.cell; clear hb0 HMs HGs HKs j0 j1) | go_in)
  go_ret
  exact ⟨rfl, HGt.out⟩
theorem write_none {B w0 p mb n D W} (h : Regs B w0 p mb n D W) (a q : Int) (ha : (Lit.int .i64 a).wf = true) (hq : (Lit.int .u64 q).wf = true) (v : Int) (ht : thereOf a q = false) :
    Calls Try.prog 16 #[.pointer (some ⟨p, 0, none⟩), .int .i64 a, .int .u64 q, .int .u64 v] W fun e W' => e = .returned (.int .i64 10) ∧ W.grownBy W' none := by
  have c0 := h.cell
  have HM := Aside0.mk h
  have HT := Aside0.mk ((there_f a q).trans (congrArg some ht))
  clear h ht
  have hu := Try.underlying102
  go_enter Try.func16, Try.ntmps16
  go_wp2_with (first | ((with_reducible refine gate_dst (N := 9) rfl ?_); refine box_event ?hg (N := 9) ?hd (cs := #[.int .i64 0, .int .u64 0]) (t := 102) ?hr ?_; (case hd => rfl); (case hg => rfl); (case hr => first | (go_simp; done) | (go_simp; rfl)); intro gk hgb w1 hbox hb; have HK := Aside0.mk hbox; have GHK := Aside0.mk (below_grown hb); have LHK := Aside0.mk (Nat.le_of_eq hgb.symm); clear hgb hbox hb) | ((with_reducible refine gate_store (t := 102) (p := 9) rfl ?_); refine wpList_store_row rfl 102 (.tmp 9) (.tmp 14) rfl gk #[.int .i64 a, .int .u64 q] rfl rfl 102 _ HK.out (by kernel_rfl) rfl (by kernel_rfl) ?_; have SHK := Aside0.mk (setRow_heap _ gk _ #[.int .i64 a, .int .u64 q] _ _ HK.out); have THK := Aside0.mk (grown_row w1 gk #[.int .i64 a, .int .u64 q]); have HKN := Aside0.mk (show gk ≠ mb ∧ gk ≠ p ∧ B ≤ gk from ⟨Nat.ne_of_gt (Nat.lt_of_lt_of_le HM.out.own.lt LHK.out), Nat.ne_of_gt (Nat.lt_of_lt_of_le HM.out.lt LHK.out), Nat.le_trans HM.out.hB LHK.out⟩); have HMk := Aside0.mk ((HM.out.same GHK.out).kept THK.out (fun e => HKN.out.1 (Option.some.inj e).symm) (fun e => HKN.out.2.1 (Option.some.inj e).symm) (fun j e => by cases e; exact HKN.out.2.2)); have HGK := Aside0.mk (grown_new GHK.out THK.out LHK.out); obtain ⟨k0, k1⟩ := cz2 SHK.out; clear HM HK GHK THK) | (go_at_call 55; refine (stays_calls _).mono ?_; rintro e w2 ⟨sb, rfl, ho, hg⟩; have HS := Aside0.mk ho; have HMs := Aside0.mk (HMk.out.same hg); have HGs := Aside0.mk (grown_two HGK.out hg); have HKs := Aside0.mk (show w2.heap[gk]? = some _ from (hg.block gk (blk_lt SHK.out) (by simp)).trans SHK.out); obtain ⟨j0, j1⟩ := cz2 HKs.out; clear ho hg HMk HGK SHK k0 k1) | (at_lookup; refine wpList_lookup_own_ok_int _ rfl _ _ 104 rfl 22 22 .u64 law22 Try.underlying104 Try.underlying22 (zeroU _) _ 5 staysD rfl HS.out _ _ rfl (keyOf_int_mk Try.underlying22 hq) ?_; intro c hat hwc; clear hat) | (go_at_call 56; refine (regs_there.calls 20 a q _ _ HT.out).mono ?_; rintro e w3 ⟨rfl, hb0⟩; have HKt := Aside0.mk (blk_below HKs.out hb0); have HMt := Aside0.mk (HMs.out.same (below_grown hb0)); have HGt := Aside0.mk (grown_two HGs.out (below_grown hb0)); obtain ⟨i0, i1⟩ := cz2 HKt.out; have d0 := HMt.out.cell; clear hb0 HMs HGs HKs j0 j1) | go_in)
  go_ret
  exact ⟨rfl, HGt.out⟩
end
end Go.Proofs.Ytdfejnakhpgekaa.QRegsPlays
