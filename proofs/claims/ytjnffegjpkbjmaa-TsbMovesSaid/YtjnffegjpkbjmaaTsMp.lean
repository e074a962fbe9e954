/- A TSB's entries in another one of its size; plainly. -/
import Derived.Test.YtjnffegjpkbjmaaTsO
import Derived.Test.YtjnffegjpkbjmaaTsMl
import Derived.Test.YtjnffegjpkbjmaaQTsbPlaysx28
import Derived.Test.YtjnffegjpkbjmaaQTsbPlaysx24
/- merged: TsM1 -/
namespace Go.Proofs.Ytjnffegjpkbjmaa.Mem
open Go.RowKit Go.Maps Go.Proofs.YtjnffegjpkbjmaaW.PrintWords Go.Proofs.YtjnffegjpkbjmaaW.PrintLast Go.Proofs.YtjnffegjpkbjmaaW.PrintMore Go.Proofs.Ytjnffegjpkbjmaa.QTsbPlays Go.Proofs.Ytjnffegjpkbjmaa.Pure
set_option linter.unusedSimpArgs false
set_option linter.unusedVariables false
section
set_option maxHeartbeats 2000000
set_option maxRecDepth 100000
theorem insL_snoc (N s : Nat) (xs : List GE) (g : GE) (os : Nat → Option GE) : insL N s (xs ++ [g]) os = setO (insL N s xs os) (plcOf N (s : Int) g.v) (some g) := by
  unfold insL
  rw [List.foldl_append]
  rfl
theorem mem_okO {N s : Nat} {os : Nat → Option GE} (h : OKO N s os) {g : GE} (hg : g ∈ listO N os) : g.ok ∧ g.s = s := by
  obtain ⟨i, hi, ho⟩ := List.mem_filterMap.1 hg
  obtain ⟨h1, h2, h3⟩ := h i (List.mem_range.1 hi) g ho
  exact ⟨h1, h2⟩
/-- Another memory is written. -/
theorem TQ.far {k : Nat} {B : Nat} {w0 W W' : World} {p mb pt : Nat} {sz : Int} {base N s n : Nat} {grade : Int} {os : Nat → Option GE} (h : TQ B w0 p mb pt sz base N s grade n os W) (hg : W.grownBy W' (some k)) (h1 : mb ≠ k) (h2 : p ≠ k) (h3 : pt ≠ k) (hB : B ≤ k) : TQ B w0 p mb pt sz base N s grade n os W' := by
  obtain ⟨D, hM, hD⟩ := h.mem
  exact ⟨⟨D, hM.kept hg (fun e => h1 (Option.some.inj e)) (fun e => h2 (Option.some.inj e)) (fun j e => by obtain rfl := Option.some.inj e; exact hB), hD⟩, (hg.block pt (blk_lt h.row) (fun e => h3 (Option.some.inj e))).trans h.row, h.ok⟩
section
variable {Bt Bo : Nat} {w0t w0o W : World} {qt qo mt mo ptt pto : Nat} {szt szo : Int} {baset baseo NT NO s nt no : Nat} {gradet gradeo : Int} {ost oso : Nat → Option GE}
theorem o_into (bt : TB baset NT s szt) (bo : TB baseo NO s szo) (ht : TQ Bt w0t qt mt ptt szt baset NT s gradet nt ost W) (ho : TQ Bo w0o qo mo pto szo baseo NO s gradeo (no) (oso) W) (h1 : mt ≠ mo) (hB : Bt ≤ mo) (hn : no ≤ 500000) :
    Calls Try.prog 32 #[.pointer (some ⟨ptt, 0, none⟩), .pointer (some ⟨pto, 0, none⟩)] W fun e W' => e = .returned (.int .i64 ((listO NT ost).length : Int)) ∧ TQ Bt w0t qt mt ptt szt baset NT s gradet nt ost W' ∧ TQ Bo w0o qo mo pto szo baseo NO s gradeo (no + 3 * (listO NT ost).length) (insL NO s (listO NT ost) oso) W' ∧ W.grownBy W' (some mo) := by
  have hu := Try.underlying50
  have HBT := Aside0.mk bt
  have HBO := Aside0.mk bo
  have HT := Aside0.mk ht
  have HO := Aside0.mk ho
  have HNE := Aside0.mk (And.intro h1 hB)
  have HG := Aside0.mk (grown_refl W (some mo))
  have hN := bt.hN
  have hle := list_le NT ost
  have HXF := Aside0.mk (fun g (h : g ∈ listO NT ost) => mem_okO ht.ok h)
  obtain ⟨xs, hxs⟩ : ∃ xs, xs = listO NT ost := ⟨_, rfl⟩
  rw [← hxs] at HXF hle
  rw [← hxs]
  have HXS := Aside0.mk hxs
  clear ht ho h1 hB bt bo hxs
  go_enter Try.func32, Try.ntmps32
  go_wp2_with fail
  refine (o_list HBT.out HT.out).mono ?_
  rintro x0 w1 ⟨v, rfl, hR, hg⟩
  rw [← HXS.out] at hR
  obtain ⟨A1, c1, rfl⟩ := Kd.R_slice hR
  rw [List.length_map] at hR ⊢
  have HL := Aside0.mk hR
  have HLM := Aside0.mk (show mo < W.heap.size from HO.out.lt.2.1)
  replace HT := Aside0.mk (HT.out.same hg)
  replace HO := Aside0.mk (HO.out.same hg)
  replace HG := Aside0.mk (grown_two HG.out (grown_but hg _))
  clear hR hg
  go_wp2_with fail
  go_loopw [5, 11] (fun v5 v11 wr => ∃ (i : Nat), v5 = .int .i64 i ∧ v11 = .int .i64 i ∧ i ≤ xs.length ∧ Aside0 (TQ Bt w0t qt mt ptt szt baset NT s gradet nt ost wr) ∧ Aside0 (TQ Bo w0o qo mo pto szo baseo NO s gradeo (no + 3 * i) (insL NO s (xs.take i) oso) wr) ∧ Aside0 (Kd.R k50 50 wr W.heap.size (fun _ => True) (.slice A1 xs.length c1) (xs.map geS)) ∧ Aside0 (W.grownBy wr (some mo))) (fun _ v11 _ => xs.length - (intOf v11).toNat)
  case atStart => exact ⟨0, rfl, rfl, by omega, HT, ⟨by simpa [insL] using HO.out⟩, HL, HG⟩
  case round =>
    clear HT HO HL HG
    obtain ⟨i, rfl, rfl, hi, HT, HO, HL, HG⟩ := hrel
    by_cases hix : i < xs.length
    · have hi1 : (i : Int) < (xs.length : Int) := by omega
      have hi0 : (0 : Int) ≤ (i : Int) := by omega
      obtain ⟨ad, hA, hgi⟩ := own_ge HL.out (fun g hg => (HXF.out g hg).1) i hix
      have HKI := Aside0.mk (HXF.out _ (List.getElem_mem hix))
      first | subst hA | cases hA
      generalize hg2 : xs[i] = gi at hgi HKI
      have HXI := Aside0.mk hg2
      clear hg2
      obtain ⟨c0, c1, c2, c3, c4, c5, c6, c7, c8, c9, c10⟩ := hgi
      have hga := World.grownBy_alloc wr (.cells (geA gi) 50) none
      have HB := Aside0.mk (heap_alloc_new wr (.cells (geA gi) 50))
      replace HT := Aside0.mk (HT.out.same hga)
      replace HO := Aside0.mk (HO.out.same hga)
      replace HL := Aside0.mk (Kd.R_grown HL.out hga (by simp))
      replace HG := Aside0.mk (grown_two HG.out (grown_but hga _))
      clear hga
      obtain ⟨z0, z1, z2, z3, z4, z5, z6, z7, z8, z9, z10⟩ := tte_Read.cz11 HB.out
      go_wp2_with fail
      refine (o_insert HBO.out HO.out gi HKI.out.1 HKI.out.2 (by omega)).mono ?_
      rintro x0 w3 ⟨rfl, hM, hg⟩
      have hq : qt ≠ mo := by
        obtain ⟨D, hM2, _⟩ := HT.out.mem
        exact HO.out.nb _ _ _ hM2.row
      replace HT := Aside0.mk (HT.out.far hg HNE.out.1 hq (HO.out.nb _ _ _ HT.out.row) HNE.out.2)
      replace HL := Aside0.mk (Kd.R_mono (ok' := fun _ => True) (Kd.R_grown (Kd.R_bound HL.out) hg (fun k hk e => by obtain ⟨_, _, _, q, _, cs, hc⟩ := hk; exact HO.out.nb k cs q hc (Option.some.inj e))) (fun _ _ => trivial))
      replace HG := Aside0.mk (grown_two HG.out hg)
      have hi2 : insL NO s (xs.take (i + 1)) oso = setO (insL NO s (xs.take i) oso) (plcOf NO (s : Int) gi.v) (some gi) := by
        rw [List.take_succ_eq_append_getElem hix, insL_snoc, HXI.out]
      rw [← hi2, show no + 3 * i + 3 = no + 3 * (i + 1) by omega] at hM
      replace HO := Aside0.mk hM
      clear hM hg hq hi2 HB c0 c1 c2 c3 c4 c5 c6 c7 c8 c9 c10 z0 z1 z2 z3 z4 z5 z6 z7 z8 z9 z10
      go_wp2_with fail
      go_roundw
      case rel => exact ⟨i + 1, by go_num, by go_num, by omega, HT, HO, HL, HG⟩
      case measure => simp [intOf]; omega
    · obtain rfl : i = xs.length := by omega
      go_wp2
      go_ret
      have := HO.out
      rw [List.take_length] at this
      exact ⟨rfl, HT.out, this, HG.out⟩
end
end
end Go.Proofs.Ytjnffegjpkbjmaa.Mem
/- merged: TsMi -/
namespace Go.Proofs.Ytjnffegjpkbjmaa.Mem
open Go.RowKit Go.Maps Go.Proofs.YtjnffegjpkbjmaaW.PrintWords Go.Proofs.YtjnffegjpkbjmaaW.PrintLast Go.Proofs.YtjnffegjpkbjmaaW.PrintMore Go.Proofs.Ytjnffegjpkbjmaa.QTsbPlays Go.Proofs.Ytjnffegjpkbjmaa.Pure
set_option linter.unusedSimpArgs false
set_option linter.unusedVariables false
section
set_option maxHeartbeats 2000000
set_option maxRecDepth 100000
theorem rmay10 {g : GE} (h : g.ok) {s : Nat} (hs : g.s = s) (N : Int) (l : List WS) : lookasideref10_May.f 500 (s : Int) N l (g.s : Int) (g.c : Int) (g.v : Int) (g.p : Int) g.w g.pr g.x g.l g.g g.q true = some true := by
  subst hs
  unfold lookasideref10_May.f
  rw [rTMay _ _ _ _ _ _ _ _ _ _ _ h.hv 500 (by decide), h.mayN, Option.bind_some, if_pos rfl]
  simp
noncomputable def rinto6_T : Bool × List (List Nat × List Nat) := rtab .any (opsOf Try.f31 6)
theorem rinto6_tab : rtab .any (opsOf Try.f31 6) = rinto6_T := rfl
noncomputable def rinto8_T : Bool × List (List Nat × List Nat) := rtab .any (opsOf Try.f31 8)
theorem rinto8_tab : rtab .any (opsOf Try.f31 8) = rinto8_T := rfl
theorem rinto_calls {NT NO s baset baseo B : Nat} {szt szo : Int} (bt : TB baset NT s szt) (bo : TB baseo NO s szo) {ost oso : Nat → Option GE} (okt : OKO NT s ost) {At Ao : Option Addr} {ct co : Nat} {lt lo : List WS} (dwt : DW NT ost lt) (dwo : DW NO oso lo) {W : World} (hCt : Kd.C k122 W At lt.length lt) (hct : lt.length ≤ ct) (hlt : lt.length ≤ 1000000) (hRo : Kd.R k122 122 W B (fun _ => True) (.slice Ao lo.length co) lo) (hB : B ≤ W.heap.size) (hlo : lo.length ≤ 500000) :
    Calls Try.prog 31 #[.agg #[.int .i64 (s : Int), .int .i64 (NT : Int), .slice At lt.length ct], .agg #[.int .i64 (s : Int), .int .i64 (NO : Int), .slice Ao lo.length co]] W fun e W' => ∃ A l c, e = .returned (.tuple #[.agg #[.int .i64 (s : Int), .int .i64 (NO : Int), .slice A l.length c], .int .i64 ((listO NT ost).length : Int)]) ∧ Kd.R k122 122 W' B (fun _ => True) (.slice A l.length c) l ∧ DW NO (insL NO s (listO NT ost) oso) l ∧ l.length ≤ lo.length + 3 * (listO NT ost).length ∧ W.grownBy W' none := by
  have hu := Try.underlying44
  have hu3 := Try.underlying50
  have HCT := Aside0.mk (And.intro hCt (And.intro hct hlt))
  have HRO := Aside0.mk hRo
  have HBB := Aside0.mk hB
  have HLO := Aside0.mk hlo
  have HBT := Aside0.mk bt
  have HBO := Aside0.mk bo
  have HOT := Aside0.mk okt
  have HDT := Aside0.mk dwt
  have HDO := Aside0.mk dwo
  have hN := bt.hN
  have hle := list_le NT ost
  have hok := fun g (h : g ∈ listO NT ost) => mem_okO okt h
  obtain ⟨xs, hxs⟩ : ∃ xs, xs = listO NT ost := ⟨_, rfl⟩
  rw [← hxs] at hok hle
  rw [← hxs]
  have hxl : xs.length ≤ 4096 := Nat.le_trans hle hN
  have HXS := Aside0.mk hxs
  have HXF := Aside0.mk (And.intro hok hxl)
  clear hCt hct hlt hRo hB hlo bt bo okt dwt dwo hN hle hok hxs
  have hga := World.grownBy_alloc W (.cells #[.int .i64 (s : Int), .int .i64 (NT : Int), .slice At lt.length ct] 44) none
  have hb2 := heap_alloc_new W (.cells #[.int .i64 (s : Int), .int .i64 (NT : Int), .slice At lt.length ct] 44)
  have hgb := World.grownBy_alloc (W.alloc (.cells #[.int .i64 (s : Int), .int .i64 (NT : Int), .slice At lt.length ct] 44)) (.cells #[.int .i64 (s : Int), .int .i64 (NO : Int), .slice Ao lo.length co] 44) none
  have hb3 := heap_alloc_new (W.alloc (.cells #[.int .i64 (s : Int), .int .i64 (NT : Int), .slice At lt.length ct] 44)) (.cells #[.int .i64 (s : Int), .int .i64 (NO : Int), .slice Ao lo.length co] 44)
  have hgc := World.grownBy_alloc ((W.alloc (.cells #[.int .i64 (s : Int), .int .i64 (NT : Int), .slice At lt.length ct] 44)).alloc (.cells #[.int .i64 (s : Int), .int .i64 (NO : Int), .slice Ao lo.length co] 44)) (.cells #[.int .i64 0, .int .i64 0, .slice none 0 0] 44) none
  have hb4 := heap_alloc_new ((W.alloc (.cells #[.int .i64 (s : Int), .int .i64 (NT : Int), .slice At lt.length ct] 44)).alloc (.cells #[.int .i64 (s : Int), .int .i64 (NO : Int), .slice Ao lo.length co] 44)) (.cells #[.int .i64 0, .int .i64 0, .slice none 0 0] 44)
  have hz3 : (W.alloc (.cells #[.int .i64 (s : Int), .int .i64 (NT : Int), .slice At lt.length ct] 44)).heap.size = W.heap.size + 1 := by simp only [World.size_alloc]
  have hz4 : ((W.alloc (.cells #[.int .i64 (s : Int), .int .i64 (NT : Int), .slice At lt.length ct] 44)).alloc (.cells #[.int .i64 (s : Int), .int .i64 (NO : Int), .slice Ao lo.length co] 44)).heap.size = W.heap.size + 2 := by simp only [World.size_alloc]
  rw [hz3] at hb3
  rw [hz4] at hb4
  have HG := Aside0.mk (grown_two (grown_two hga hgb) hgc)
  have HB2 := Aside0.mk (blk_grown (blk_grown hb2 hgb) hgc)
  have HB3 := Aside0.mk (blk_grown hb3 hgc)
  have HB4 := Aside0.mk hb4
  have HC := Aside0.mk (Kd.C_below HCT.out.1 (below_of_grown HG.out))
  have HR := Aside0.mk (Kd.R_grown HRO.out HG.out (by simp))
  clear hga hb2 hgb hb3 hgc hb4 hz3 hz4 HRO
  obtain ⟨q0, q1, q2⟩ := cz3q HB2.out
  go_enter Try.func31, Try.ntmps31
  go_wp2_with fail
  obtain ⟨h3, hh3⟩ : ∃ z, z = W.heap.size + 1 := ⟨_, rfl⟩
  obtain ⟨h4, hh4⟩ : ∃ z, z = W.heap.size + 2 := ⟨_, rfl⟩
  have hh4' : W.heap.size + 1 + 1 = h4 := by omega
  rw [← hh3] at HB3
  rw [← hh4] at HB4
  try rw [hh4']
  rw [← hh3]
  try rw [← hh4]
  have HH := Aside0.mk (And.intro hh3 hh4)
  clear hh3 hh4 hh4' HB2
  refine (rlist_calls HBT.out HOT.out HDT.out HC.out HCT.out.2.1 HCT.out.2.2).mono ?_
  rintro x0 w1 ⟨v, rfl, hR, hg⟩
  rw [← HXS.out] at hR
  obtain ⟨A1, c1, rfl⟩ := Kd.R_slice hR
  rw [List.length_map] at hR ⊢
  have HL := Aside0.mk (Kd.R_lower hR HG.out.size)
  replace HR := Aside0.mk (Kd.R_grown HR.out hg (by simp))
  replace HB3 := Aside0.mk (blk_grown HB3.out hg)
  replace HB4 := Aside0.mk (blk_grown HB4.out hg)
  replace HG := Aside0.mk (grown_two HG.out hg)
  clear hR hg q0 q1 q2
  go_wp2_with fail
  go_loopw [7, 8] (fun v7 v8 wr => ∃ (i : Nat) (l : List WS) (A : Option Addr) (c : Nat), v7 = .int .i64 i ∧ v8 = .int .i64 i ∧ i ≤ xs.length ∧ l.length ≤ lo.length + 3 * i ∧ Aside0 (DW NO (insL NO s (xs.take i) oso) l) ∧ Aside0 (Kd.R k122 122 wr B (fun _ => True) (.slice A l.length c) l) ∧ Aside0 (Kd.R k50 50 wr W.heap.size (fun _ => True) (.slice A1 xs.length c1) (xs.map geS)) ∧ Aside0 (wr.heap[h3]? = some (.cells #[.int .i64 (s : Int), .int .i64 (NO : Int), .slice A l.length c] 44 (0, 0))) ∧ Aside0 (wr.heap[h4]? = some (.cells #[.int .i64 0, .int .i64 0, .slice none 0 0] 44 (0, 0))) ∧ Aside0 (W.grownBy wr none)) (fun _ v8 _ => xs.length - (intOf v8).toNat)
  case atStart => exact ⟨0, lo, Ao, co, rfl, rfl, by omega, by omega, ⟨by simpa [insL] using HDO.out⟩, HR, HL, HB3, HB4, HG⟩
  case round =>
    clear HR HL HB3 HB4 HG
    obtain ⟨i, l, A, c, rfl, rfl, hi, hll, HDW, HR, HL, HB3, HB4, HG⟩ := hrel
    by_cases hix : i < xs.length
    · have hi1 : (i : Int) < (xs.length : Int) := by omega
      have hi0 : (0 : Int) ≤ (i : Int) := by omega
      obtain ⟨ad, hA, hgi⟩ := own_ge HL.out (fun g hg => (HXF.out.1 g hg).1) i hix
      have HKI := Aside0.mk (HXF.out.1 _ (List.getElem_mem hix))
      first | subst hA | cases hA
      have hi2 : insL NO s (xs.take (i + 1)) oso = setO (insL NO s (xs.take i) oso) (plcOf NO (s : Int) xs[i].v) (some xs[i]) := by
        rw [List.take_succ_eq_append_getElem hix, insL_snoc]
      generalize hg2 : xs[i] = gi at hgi HKI hi2
      have HI2 := Aside0.mk hi2
      have HGI := Aside0.mk hgi
      clear hg2 hgi hi2
      have HLL0 := Aside0.mk hll
      go_upto_region 6 with fail
      have hg := grown_drew wr none
      replace HR := Aside0.mk (Kd.R_grown HR.out hg (by simp))
      replace HL := Aside0.mk (Kd.R_grown HL.out hg (by simp))
      replace HB3 := Aside0.mk (blk_grown HB3.out hg)
      replace HB4 := Aside0.mk (blk_grown HB4.out hg)
      replace HGI := Aside0.mk (HGI.out.grown hg)
      replace HG := Aside0.mk (grown_two HG.out hg)
      clear hg
      refine start_ (n := 7) (S := fun w' => GEAt w' (ad.add (i * 11)) gi ∧ w'.heap[h3]? = some (.cells #[.int .i64 (s : Int), .int .i64 (NO : Int), .slice A l.length c] 44 (0, 0))) (ds := []) #[false, false, false, false, false, false, false] (by kernel_rfl) rfl rfl ⟨HGI.out, HB3.out⟩ (fun hHeld => ?_)
      refine with_tab rinto6_tab (fun HT_ => ?_)
      refine pure_ (i := 1) (N := some 19) (v := ?_) (a' := ?_) #[false, true, false, false, false, false, false] rfl rfl (any_of HT_.out (by kernel_rfl)) (fun _ _ _ h => h) (Or.inl ⟨by rfl, ?_⟩) ?_ ?_
      rotate_left
      · intro w'
        go_simp
        with_reducible rfl
      rotate_left
      · simp only [Act.put, List.setIfInBounds_toArray, List.set_cons_zero, List.set_cons_succ, i64_w, i32_w]
        rfl
      refine pure_ (i := 2) (N := some 20) (v := ?_) (a' := ?_) #[false, true, true, false, false, false, false] rfl rfl (any_of HT_.out (by kernel_rfl)) (fun _ _ _ h => h) (Or.inl ⟨by rfl, ?_⟩) ?_ ?_
      rotate_left
      · intro w'
        go_simp
        with_reducible rfl
      rotate_left
      · simp only [Act.put, List.setIfInBounds_toArray, List.set_cons_zero, List.set_cons_succ, i64_w, i32_w]
        rfl
      refine pure_ (i := 3) (N := some 21) (v := ?_) (a' := ?_) #[false, true, true, true, false, false, false] rfl rfl (any_of HT_.out (by kernel_rfl)) (fun _ _ _ h => h) (Or.inl ⟨by rfl, ?_⟩) ?_ ?_
      rotate_left
      · intro w'
        go_simp
        with_reducible rfl
      rotate_left
      · simp only [Act.put, List.setIfInBounds_toArray, List.set_cons_zero, List.set_cons_succ, i64_w, i32_w]
        rfl
      refine take_ (i := 0) (N := some 18) (v := .agg #[.int .i64 (s : Int), .int .i64 (NO : Int), .slice A l.length c]) (a' := ?_) #[true, true, true, true, false, false, false] rfl rfl (take_of HT_.out (by kernel_rfl)) (fun _ _ _ h => h) (Or.inl ⟨by rfl, ?_⟩) hHeld ?_ ?_
      · rintro w' ⟨s1, s2⟩
        obtain ⟨q0, q1, q2⟩ := cz3q s2
        go_simp
      rotate_left
      · simp only [Act.put, List.setIfInBounds_toArray, List.set_cons_zero, List.set_cons_succ, i64_w, i32_w]
        rfl
      refine take_ (i := 4) (N := some 22) (v := .agg (geA gi)) (a' := ?_) #[true, true, true, true, true, false, false] rfl rfl (take_of HT_.out (by kernel_rfl)) (fun _ _ _ h => h) (Or.inl ⟨by rfl, ?_⟩) hHeld ?_ ?_
      · rintro w' ⟨s1, s2⟩
        obtain ⟨c0, c1, c2, c3, c4, c5, c6, c7, c8, c9, c10⟩ := s1
        go_simp
      rotate_left
      · simp only [Act.put, List.setIfInBounds_toArray, List.set_cons_zero, List.set_cons_succ, i64_w, i32_w]
        rfl
      refine one_ (i := 5) (N := some 23) #[true, true, true, true, true, true, false] rfl rfl (one_of HT_.out (by kernel_rfl)) (by decide) (fun K hK => ?_)
      refine goes_ Try.func70 (by kernel_rfl) rfl #[.agg #[.int .i64 (s : Int), .int .i64 (NO : Int), .slice A l.length c], .agg (geA gi)] (by rfl) rfl rfl (by (try simp only [List.map_toArray, List.map_cons, List.map_nil]); first | done | rfl) ?_
      refine (lookasideref10_May.calls 500 _ _ A c l _ _ _ _ _ _ _ _ _ _ _ _ _ (Kd.R_reads' HR.out).2.2 (Kd.R_reads' HR.out).2.1 (rmay10 HKI.out.1 HKI.out.2 _ l)).mono ?_
      rintro x0 wn ⟨rfl, hb⟩
      have hg := below_grown hb
      replace HGI := Aside0.mk (HGI.out.grown hg)
      replace HR := Aside0.mk (Kd.R_grown HR.out hg (by simp))
      replace HL := Aside0.mk (Kd.R_grown HL.out hg (by simp))
      replace HB3 := Aside0.mk (blk_grown HB3.out hg)
      replace HB4 := Aside0.mk (blk_grown HB4.out hg)
      replace HG := Aside0.mk (grown_two HG.out hg)
      have hs : GEAt wn (ad.add (i * 11)) gi ∧ wn.heap[h3]? = some (.cells #[.int .i64 (s : Int), .int .i64 (NO : Int), .slice A l.length c] 44 (0, 0)) := ⟨hHeld.1.grown hg, blk_grown hHeld.2 hg⟩
      clear hg hb
      refine ⟨_, rfl, ?_⟩
      refine hK.out _ _ hs (fun hHeld => ?_)
      clear hK K
      refine norm_ (a' := ?_) ?_ ?_
      rotate_left
      · show Act.put _ (some 23) _ = _
        simp only [Act.put, List.setIfInBounds_toArray, List.set_cons_zero, List.set_cons_succ, i64_w, i32_w]
        rfl
      refine pure_ (i := 6) (N := some 9) (v := ?_) (a' := ?_) #[true, true, true, true, true, true, true] rfl rfl (any_of HT_.out (by kernel_rfl)) (fun _ _ _ h => h) (Or.inl ⟨by rfl, ?_⟩) ?_ ?_
      rotate_left
      · intro w'
        go_simp
        with_reducible rfl
      rotate_left
      · simp only [Act.put, List.setIfInBounds_toArray, List.set_cons_zero, List.set_cons_succ, i64_w, i32_w]
        rfl
      refine done_ (done_of HT_.out (by kernel_rfl)) ?_
      clear hHeld
      go_upto_region 8 with fail
      have hg := grown_drew wn none
      replace HR := Aside0.mk (Kd.R_grown HR.out hg (by simp))
      replace HL := Aside0.mk (Kd.R_grown HL.out hg (by simp))
      replace HB3 := Aside0.mk (blk_grown HB3.out hg)
      replace HB4 := Aside0.mk (blk_grown HB4.out hg)
      replace HGI := Aside0.mk (HGI.out.grown hg)
      replace HG := Aside0.mk (grown_two HG.out hg)
      clear hg
      refine start_ (n := 7) (S := fun w' => GEAt w' (ad.add (i * 11)) gi ∧ w'.heap[h3]? = some (.cells #[.int .i64 (s : Int), .int .i64 (NO : Int), .slice A l.length c] 44 (0, 0))) (ds := [6]) #[false, false, false, false, false, false, false] (by kernel_rfl) rfl rfl ⟨HGI.out, HB3.out⟩ (fun hHeld => ?_)
      refine with_tab rinto8_tab (fun HT_ => ?_)
      refine pure_ (i := 1) (N := some 26) (v := ?_) (a' := ?_) #[false, true, false, false, false, false, false] rfl rfl (any_of HT_.out (by kernel_rfl)) (fun _ _ _ h => h) (Or.inl ⟨by rfl, ?_⟩) ?_ ?_
      rotate_left
      · intro w'
        go_simp
        with_reducible rfl
      rotate_left
      · simp only [Act.put, List.setIfInBounds_toArray, List.set_cons_zero, List.set_cons_succ, i64_w, i32_w]
        rfl
      refine pure_ (i := 2) (N := some 27) (v := ?_) (a' := ?_) #[false, true, true, false, false, false, false] rfl rfl (any_of HT_.out (by kernel_rfl)) (fun _ _ _ h => h) (Or.inl ⟨by rfl, ?_⟩) ?_ ?_
      rotate_left
      · intro w'
        go_simp
        with_reducible rfl
      rotate_left
      · simp only [Act.put, List.setIfInBounds_toArray, List.set_cons_zero, List.set_cons_succ, i64_w, i32_w]
        rfl
      refine pure_ (i := 3) (N := some 28) (v := ?_) (a' := ?_) #[false, true, true, true, false, false, false] rfl rfl (any_of HT_.out (by kernel_rfl)) (fun _ _ _ h => h) (Or.inl ⟨by rfl, ?_⟩) ?_ ?_
      rotate_left
      · intro w'
        go_simp
        with_reducible rfl
      rotate_left
      · simp only [Act.put, List.setIfInBounds_toArray, List.set_cons_zero, List.set_cons_succ, i64_w, i32_w]
        rfl
      refine take_ (i := 0) (N := some 25) (v := .agg #[.int .i64 (s : Int), .int .i64 (NO : Int), .slice A l.length c]) (a' := ?_) #[true, true, true, true, false, false, false] rfl rfl (take_of HT_.out (by kernel_rfl)) (fun _ _ _ h => h) (Or.inl ⟨by rfl, ?_⟩) hHeld ?_ ?_
      · rintro w' ⟨s1, s2⟩
        obtain ⟨q0, q1, q2⟩ := cz3q s2
        go_simp
      rotate_left
      · simp only [Act.put, List.setIfInBounds_toArray, List.set_cons_zero, List.set_cons_succ, i64_w, i32_w]
        rfl
      refine take_ (i := 4) (N := some 29) (v := .agg (geA gi)) (a' := ?_) #[true, true, true, true, true, false, false] rfl rfl (take_of HT_.out (by kernel_rfl)) (fun _ _ _ h => h) (Or.inl ⟨by rfl, ?_⟩) hHeld ?_ ?_
      · rintro w' ⟨s1, s2⟩
        obtain ⟨c0, c1, c2, c3, c4, c5, c6, c7, c8, c9, c10⟩ := s1
        go_simp
      rotate_left
      · simp only [Act.put, List.setIfInBounds_toArray, List.set_cons_zero, List.set_cons_succ, i64_w, i32_w]
        rfl
      refine one_ (i := 5) (N := some 30) #[true, true, true, true, true, true, false] rfl rfl (one_of HT_.out (by kernel_rfl)) (by decide) (fun K hK => ?_)
      refine goes_ Try.func30 (by kernel_rfl) rfl #[.agg #[.int .i64 (s : Int), .int .i64 (NO : Int), .slice A l.length c], .agg (geA gi)] (by rfl) rfl rfl (by (try simp only [List.map_toArray, List.map_cons, List.map_nil]); first | done | rfl) ?_
      refine (rinsert_calls HBO.out.hs HBO.out.h1 HBO.out.hN gi HKI.out.1 HKI.out.2 (Kd.R_reads' HR.out).2.2 (Kd.R_reads' HR.out).2.1 (by have := HLO.out; have := HXF.out.2; omega)).mono ?_
      rintro x0 wn ⟨v2, rfl, hR, hg⟩
      have HDW2 := Aside0.mk (DW.ins (s := s) HDW.out gi (plcOf NO (s : Int) gi.v))
      have HLL := Aside0.mk (insW_len l (plcOf NO (s : Int) gi.v : Int) (gi.tag : Int) (gi.data : Int))
      generalize insW l (plcOf NO (s : Int) gi.v : Int) (gi.tag : Int) (gi.data : Int) = l2 at hR HLL HDW2
      obtain ⟨A2, c2, rfl⟩ := Kd.R_slice hR
      have HR2 := Aside0.mk (Kd.R_lower hR (Nat.le_trans HBB.out HG.out.size))
      replace HL := Aside0.mk (Kd.R_grown HL.out hg (by simp))
      replace HB3 := Aside0.mk (blk_grown HB3.out hg)
      replace HB4 := Aside0.mk (blk_grown HB4.out hg)
      replace HG := Aside0.mk (grown_two HG.out hg)
      have hs : GEAt wn (ad.add (i * 11)) gi ∧ wn.heap[h3]? = some (.cells #[.int .i64 (s : Int), .int .i64 (NO : Int), .slice A l.length c] 44 (0, 0)) := ⟨hHeld.1.grown hg, blk_grown hHeld.2 hg⟩
      clear hR hg HR
      refine ⟨_, rfl, ?_⟩
      refine hK.out _ _ hs (fun hHeld => ?_)
      clear hK K
      refine norm_ (a' := ?_) ?_ ?_
      rotate_left
      · show Act.put _ (some 30) _ = _
        simp only [Act.put, List.setIfInBounds_toArray, List.set_cons_zero, List.set_cons_succ, i64_w, i32_w]
        rfl
      refine last_ (i := 6) (N := none) #[true, true, true, true, true, true, true] rfl rfl (one_of HT_.out (by kernel_rfl)) (by decide) (fun K hK => ?_)
      rw [if_pos (by rfl)]
      refine wp_store_row 44 (.tmp 3) (.tmp 30) rfl h3 #[.int .i64 (s : Int), .int .i64 (NO : Int), .slice A2 l2.length c2] rfl rfl 44 #[.int .i64 (s : Int), .int .i64 (NO : Int), .slice A l.length c] HB3.out (by kernel_rfl) rfl (by kernel_rfl) ?_
      have hb2 := setRow_heap wn h3 _ #[.int .i64 (s : Int), .int .i64 (NO : Int), .slice A2 l2.length c2] _ _ HB3.out
      have hgr := grown_row wn h3 #[.int .i64 (s : Int), .int .i64 (NO : Int), .slice A2 l2.length c2]
      replace HB4 := Aside0.mk ((hgr.block h4 (blk_lt HB4.out) (fun e => by have := Option.some.inj e; have := HH.out; omega)).trans HB4.out)
      replace HL := Aside0.mk (Kd.R_mono (ok' := fun _ => True) (Kd.R_grown (Kd.R_types HL.out HB3.out (by decide)) hgr (fun k hk e => hk.2 (Option.some.inj e))) (fun _ _ => trivial))
      have HR := Aside0.mk (Kd.R_mono (ok' := fun _ => True) (Kd.R_grown (Kd.R_types HR2.out HB3.out (by decide)) hgr (fun k hk e => hk.2 (Option.some.inj e))) (fun _ _ => trivial))
      replace HG := Aside0.mk (grown_loc HG.out hgr (by have := HH.out; omega))
      replace HB3 := Aside0.mk hb2
      have hs : True := trivial
      clear hgr hb2 HR2
      generalize (World.setRow wn h3 #[.int .i64 (s : Int), .int .i64 (NO : Int), .slice A2 l2.length c2]) = wb at HB3 HB4 HL HR HG ⊢
      refine hK.out _ _ ?_
      clear hK K
      refine norm_ (a' := ?_) ?_ ?_
      rotate_left
      · show Act.put _ none _ = _
        rfl
      refine done_ (done_of HT_.out (by kernel_rfl)) ?_
      clear hHeld
      have HLE := Aside0.mk (show i < xs.length ∧ l2.length ≤ lo.length + 3 * (i + 1) from ⟨hix, by have := HLL.out; have := HLL0.out; omega⟩)
      have HDW3 := Aside0.mk (show DW NO (insL NO s (xs.take (i + 1)) oso) l2 by rw [HI2.out]; exact HDW2.out)
      go_wp2_with fail
      go_roundw
      case rel => exact ⟨i + 1, l2, A2, c2, by go_num, by go_num, by omega, HLE.out.2, HDW3, HR, HL, HB3, HB4, HG⟩
      case measure => simp [intOf]; omega
    · obtain rfl : i = xs.length := by omega
      obtain ⟨q0, q1, q2⟩ := cz3q HB3.out
      go_wp2_with (first | ((with_reducible refine gate_store (t := 44) (p := 4) rfl ?_); refine wpList_store_row rfl 44 (.tmp 4) (.tmp 33) rfl h4 #[.int .i64 (s : Int), .int .i64 (NO : Int), .slice A l.length c] rfl rfl 44 _ HB4.out (by kernel_rfl) rfl (by kernel_rfl) ?_; have SHB4 := Aside0.mk (setRow_heap _ h4 _ #[.int .i64 (s : Int), .int .i64 (NO : Int), .slice A l.length c] _ _ HB4.out); have THB4 := Aside0.mk (grown_row wr h4 #[.int .i64 (s : Int), .int .i64 (NO : Int), .slice A l.length c])))
      obtain ⟨q0, q1, q2⟩ := cz3q SHB4.out
      exact bodyPost_ret (v := .tuple #[.agg #[.int .i64 (s : Int), .int .i64 (NO : Int), .slice A l.length c], .int .i64 (xs.length : Int)]) (by simp [results, Try.f31, go_sem, q0, q1, q2]) rfl ⟨A, l, c, rfl, Kd.R_mono (ok' := fun _ => True) (Kd.R_grown (Kd.R_types HR.out HB4.out (by decide)) THB4.out (fun k hk e => hk.2 (Option.some.inj e))) (fun _ _ => trivial), by have := HDW.out; rw [List.take_length] at this; exact this, hll, grown_loc HG.out THB4.out (by have := HH.out; omega)⟩
end
end Go.Proofs.Ytjnffegjpkbjmaa.Mem
namespace Go.Proofs.Ytjnffegjpkbjmaa.Mem
open Go.RowKit Go.Maps Go.Proofs.YtjnffegjpkbjmaaW.PrintWords Go.Proofs.YtjnffegjpkbjmaaW.PrintLast Go.Proofs.YtjnffegjpkbjmaaW.PrintMore Go.Proofs.Ytjnffegjpkbjmaa.QTsbPlays Go.Proofs.Ytjnffegjpkbjmaa.Pure
set_option linter.unusedSimpArgs false
set_option linter.unusedVariables false
section
set_option maxRecDepth 100000
theorem same_l (l : List Ent) (hl : l.length ≤ 1000000) : ∀ m i k, i + m = l.length → m + 1 ≤ k → lookasideref06_Same.l0 k l l (i : Int) = some true
  | 0, i, k, h, hk => by
    obtain ⟨k, rfl⟩ : ∃ m, k = m + 1 := ⟨k - 1, by omega⟩
    rw [lookasideref06_Same.l0, if_neg (by omega)]
  | m + 1, i, k, h, hk => by
    obtain ⟨k, rfl⟩ : ∃ m, k = m + 1 := ⟨k - 1, by omega⟩
    have ih := same_l l hl m (i + 1) k (by omega) (by omega)
    rw [lookasideref06_Same.l0, if_pos (by omega), if_pos (by omega), if_pos (by omega), if_neg (by simp), wiW i (by omega)]
    exact ih
theorem same_f (l : List Ent) (hl : l.length ≤ 1000000) : lookasideref06_Same.f (l.length + 1) l l = some true := by
  unfold lookasideref06_Same.f
  rw [if_pos rfl]
  exact same_l l hl l.length 0 _ (by omega) (Nat.le_refl _)
theorem plcs_dvd {s a b : Nat} (hs : s < 4) (ha : a < 4) (hb : b < 4) : plcs s a ≤ plcs s b → plcs s b % plcs s a = 0 := by
  have h1 : s = 0 ∨ s = 1 ∨ s = 2 ∨ s = 3 := by omega
  have h2 : a = 0 ∨ a = 1 ∨ a = 2 ∨ a = 3 := by omega
  have h3 : b = 0 ∨ b = 1 ∨ b = 2 ∨ b = 3 := by omega
  rcases h1 with rfl | rfl | rfl | rfl <;> rcases h2 with rfl | rfl | rfl | rfl <;> rcases h3 with rfl | rfl | rfl | rfl <;> decide
theorem list_some {N : Nat} {os : Nat → Option GE} {i : Nat} (hi : i < N) (h : os i = none) (g : GE) : (listO N (setO os i (some g))).length = (listO N os).length + 1 := by
  have e := list_none (os := setO os i (some g)) (i := i) (List.range N) List.nodup_range
  have e2 : setO (setO os i (some g)) i none = os := by
    funext j
    by_cases hj : j = i
    · subst hj; rw [setO_at, h]
    · rw [setO_ne hj, setO_ne hj]
  rw [e2, if_pos (List.mem_range.2 hi), setO_at, if_pos (show (some g).isSome = true from rfl)] at e
  exact e.symm
theorem list_ins (N s : Nat) (h1 : 1 ≤ N) : ∀ (xs : List GE) (os : Nat → Option GE), (xs.map (fun g => plcOf N (s : Int) g.v)).Nodup → (∀ g ∈ xs, os (plcOf N (s : Int) g.v) = none) → (listO N (insL N s xs os)).length = (listO N os).length + xs.length
  | [], os, _, _ => rfl
  | g :: xs, os, hn, h => by
    rw [List.map_cons, List.nodup_cons] at hn
    have ih := list_ins N s h1 xs (setO os (plcOf N (s : Int) g.v) (some g)) hn.2 (fun x hx => by
      rw [setO_ne (fun e => hn.1 (by rw [← e]; exact List.mem_map.2 ⟨x, hx, rfl⟩))]
      exact h x (by simp [hx]))
    show (listO N (insL N s xs (setO os (plcOf N (s : Int) g.v) (some g)))).length = _
    rw [ih, list_some (plcOf_lt h1 _ _) (h g (by simp)) g, List.length_cons]
    omega
theorem moves_len {N NO s : Nat} {os : Nat → Option GE} (h : OKO N s os) (h2 : 1 ≤ NO) (hd : NO % N = 0) : (listO NO (insL NO s (listO N os) (fun _ => none))).length = (listO N os).length := by
  have hn : ((listO N os).map (fun g => plcOf NO (s : Int) g.v)).Nodup := by
    unfold List.Nodup listO
    rw [List.pairwise_map, List.pairwise_filterMap]
    refine List.Pairwise.imp_of_mem ?_ (List.nodup_range (n := N))
    intro a b ha hb hab g hg g' hg' e
    obtain ⟨_, _, e1⟩ := h a (List.mem_range.1 ha) g hg
    obtain ⟨_, _, e2⟩ := h b (List.mem_range.1 hb) g' hg'
    refine hab ?_
    rw [← e1, ← e2]
    unfold plcOf at e ⊢
    have hdv : N ∣ NO := Nat.dvd_of_mod_eq_zero hd
    rw [← Nat.mod_mod_of_dvd _ hdv, e, Nat.mod_mod_of_dvd _ hdv]
  rw [list_ins NO s h2 _ _ hn (fun _ _ => rfl)]
  have : listO NO (fun _ => (none : Option GE)) = [] := filterMap_none _ (fun _ _ => rfl)
  rw [this]
  simp
end
end Go.Proofs.Ytjnffegjpkbjmaa.Mem
