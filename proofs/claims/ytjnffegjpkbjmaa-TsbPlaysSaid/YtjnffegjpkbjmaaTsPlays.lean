/- TsbPlays: whatever is done to a TSB, it answers, and has, what the document says. -/
import Derived.Test.YtjnffegjpkbjmaaTpQ
/- merged: YtjnffegjpkbjmaaQTsbPlaysx24 -/
namespace Go.Proofs.Ytjnffegjpkbjmaa.QTsbPlays
open Go.RowKit Go.Proofs.YtjnffegjpkbjmaaW.PrintWords Go.Proofs.YtjnffegjpkbjmaaW.PrintLast Go.Proofs.YtjnffegjpkbjmaaW.PrintMore
attribute [local go_sem] max2_int min2_int max_two min_two max_three min_three max_four min_four   -- for this text's walks alone
set_option linter.unusedVariables false
set_option linter.unusedSimpArgs false
attribute [local go_sem high] eqA50
/-! ### lookasideref06_Same: function 33 -/
def lookasideref06_Same.l0 : Nat → List (S50) → List (S50) → Int → Option (Bool)
 | 0, _, _, _ => none
 | k + 1, x0, x1, x5 => if x5 < (x0.length : Int) then (if 0 ≤ x5 then (if x5 < (x1.length : Int) then (if (!(((rd_T50 x0 x5).f0) == ((rd_T50 x1 x5).f0)) || (!(((rd_T50 x0 x5).f1) == ((rd_T50 x1 x5).f1)) || (!(((rd_T50 x0 x5).f2) == ((rd_T50 x1 x5).f2)) || (!(((rd_T50 x0 x5).f3) == ((rd_T50 x1 x5).f3)) || ((!(((rd_T50 x0 x5).f4.f0) == ((rd_T50 x1 x5).f4.f0)) || (!(((rd_T50 x0 x5).f4.f1) == ((rd_T50 x1 x5).f4.f1)) || (!(((rd_T50 x0 x5).f4.f2) == ((rd_T50 x1 x5).f4.f2)) || (!(((rd_T50 x0 x5).f4.f3) == ((rd_T50 x1 x5).f4.f3)) || (!(((rd_T50 x0 x5).f4.f4) == ((rd_T50 x1 x5).f4.f4)) || (!(((rd_T50 x0 x5).f4.f5) == ((rd_T50 x1 x5).f4.f5)))))))) || (!(((rd_T50 x0 x5).f5) == ((rd_T50 x1 x5).f5)))))))) = true then (some false) else (lookasideref06_Same.l0 k x0 x1 (wrap64 (x5 + 1)))) else (none)) else (none)) else (some true)
def lookasideref06_Same.f (k : Nat) (l0 : List (S50)) (l1 : List (S50)) : Option (Bool) := if (l0.length : Int) = (l1.length : Int) then (lookasideref06_Same.l0 k l0 l1 0) else (some false)
set_option maxHeartbeats 8000000 in
set_option maxRecDepth 100000 in
theorem lookasideref06_Same.calls (k : Nat) (A0 : Option Addr) (c0 : Nat) (l0 : List (S50)) (A1 : Option Addr) (c1 : Nat) (l1 : List (S50)) (r : Bool) (w : World) (hr0 : Kd.C k50 w A0 l0.length l0) (hc0 : l0.length ≤ c0) (hr1 : Kd.C k50 w A1 l1.length l1) (hc1 : l1.length ≤ c1) (h : lookasideref06_Same.f k l0 l1 = some r) :
  Calls Try.prog 33 #[.slice A0 l0.length c0, .slice A1 l1.length c1] w fun e w' => e = .returned (.bool r) ∧ Drawn0 w w' := by
 have hu50 := Try.underlying50
 have HR0 := Aside0.mk hr0
 have HC0 := Aside0.mk hc0
 clear hr0 hc0
 have HR1 := Aside0.mk hr1
 have HC1 := Aside0.mk hc1
 clear hr1 hc1
 have H : (if (l0.length : Int) = (l1.length : Int) then (lookasideref06_Same.l0 k l0 l1 0) else (some false)) = some r := h
 clear h
 by_cases c3 : (l0.length : Int) = (l1.length : Int)
 ·rw [if_pos c3] at H
  have c3b0 : ((l0.length : Int) == (l1.length : Int)) = true := beq_iff_eq.mpr c3
  have c3b1 : ((l0.length : Int) != (l1.length : Int)) = false := bne_eq_false_iff_eq.mpr c3
  have c3b2 : (l0.length == l1.length) = true := by first | simpa using c3 | (simp at c3 ⊢; omega)
  clear c3
  have H' := Aside0.mk H
  clear H
  go_enter Try.func33, Try.ntmps33
  go_wp2
  repeat (go_quiet (fail); try go_wp2)
  go_loopg [5] k (fun kq v5 w' => ∃ (x5_1 : Int), v5 = .int .i64 x5_1 ∧ Aside0 (lookasideref06_Same.l0 kq l0 l1 x5_1 = some r) ∧ Aside0 (kq ≤ k) ∧ Drawn0 w w')
  case atStart => exact ⟨(0), (by first | rfl | (simp; done) | (simp [*]; done)), H', ⟨Nat.le_refl _⟩, by repeat (first | exact Drawn0.refl _ | apply Drawn0.step)⟩
  case round =>
   clear H'
   try clear c1
   try clear p2
   try clear c3
   try clear c3b0
   try clear c3b1
   try clear c3b2
   obtain ⟨x5_1, rfl, HA, HK1, ⟨m1, rfl⟩⟩ := hrel
   cases gk with
   | zero => exact absurd HA.out (by simp [lookasideref06_Same.l0])
   | succ k1 =>
    have H := HA.out
    clear HA
    simp only [lookasideref06_Same.l0] at H
    by_cases c4 : x5_1 < (l0.length : Int)
    ·rw [if_pos c4] at H
     have c4b0 : decide (x5_1 < (l0.length : Int)) = true := decide_eq_true c4
     clear c4
     by_cases c5 : 0 ≤ x5_1
     ·rw [if_pos c5] at H
      have c5b0 : decide (0 ≤ x5_1) = true := decide_eq_true c5
      clear c5
      by_cases c6 : x5_1 < (l1.length : Int)
      ·rw [if_pos c6] at H
       have c6b0 : decide (x5_1 < (l1.length : Int)) = true := decide_eq_true c6
       clear c6
       by_cases c7 : (!(((rd_T50 l0 x5_1).f0) == ((rd_T50 l1 x5_1).f0)) || (!(((rd_T50 l0 x5_1).f1) == ((rd_T50 l1 x5_1).f1)) || (!(((rd_T50 l0 x5_1).f2) == ((rd_T50 l1 x5_1).f2)) || (!(((rd_T50 l0 x5_1).f3) == ((rd_T50 l1 x5_1).f3)) || ((!(((rd_T50 l0 x5_1).f4.f0) == ((rd_T50 l1 x5_1).f4.f0)) || (!(((rd_T50 l0 x5_1).f4.f1) == ((rd_T50 l1 x5_1).f4.f1)) || (!(((rd_T50 l0 x5_1).f4.f2) == ((rd_T50 l1 x5_1).f4.f2)) || (!(((rd_T50 l0 x5_1).f4.f3) == ((rd_T50 l1 x5_1).f4.f3)) || (!(((rd_T50 l0 x5_1).f4.f4) == ((rd_T50 l1 x5_1).f4.f4)) || (!(((rd_T50 l0 x5_1).f4.f5) == ((rd_T50 l1 x5_1).f4.f5)))))))) || (!(((rd_T50 l0 x5_1).f5) == ((rd_T50 l1 x5_1).f5)))))))) = true
       ·rw [if_pos c7] at H
        have c7b0 : (!(((rd_T50 l0 x5_1).f0) == ((rd_T50 l1 x5_1).f0)) || (!(((rd_T50 l0 x5_1).f1) == ((rd_T50 l1 x5_1).f1)) || (!(((rd_T50 l0 x5_1).f2) == ((rd_T50 l1 x5_1).f2)) || (!(((rd_T50 l0 x5_1).f3) == ((rd_T50 l1 x5_1).f3)) || ((!(((rd_T50 l0 x5_1).f4.f0) == ((rd_T50 l1 x5_1).f4.f0)) || (!(((rd_T50 l0 x5_1).f4.f1) == ((rd_T50 l1 x5_1).f4.f1)) || (!(((rd_T50 l0 x5_1).f4.f2) == ((rd_T50 l1 x5_1).f4.f2)) || (!(((rd_T50 l0 x5_1).f4.f3) == ((rd_T50 l1 x5_1).f4.f3)) || (!(((rd_T50 l0 x5_1).f4.f4) == ((rd_T50 l1 x5_1).f4.f4)) || (!(((rd_T50 l0 x5_1).f4.f5) == ((rd_T50 l1 x5_1).f4.f5)))))))) || (!(((rd_T50 l0 x5_1).f5) == ((rd_T50 l1 x5_1).f5)))))))) = true := c7
        clear c7
        obtain rfl := Option.some.inj H
        have p331 : 0 ≤ (x5_1 : Int) := of_decide_eq_true (by first | (with_reducible assumption) | assumption)
        have q331 : x5_1 < (l0.length : Int) := of_decide_eq_true (by first | (with_reducible assumption) | assumption)
        obtain ⟨ad331, e331, hx331_0, hx331_1, hx331_2, hx331_3, hx331_4, hx331_5, hx331_6, hx331_7, hx331_8, hx331_9, hx331_10⟩ := at_T50 HR0.out x5_1 p331 q331
        cases e331
        replace p331 := eq_true p331
        replace q331 := eq_true q331
        have p332 : 0 ≤ (x5_1 : Int) := of_decide_eq_true (by first | (with_reducible assumption) | assumption)
        have q332 : x5_1 < (l1.length : Int) := of_decide_eq_true (by first | (with_reducible assumption) | assumption)
        obtain ⟨ad332, e332, hx332_0, hx332_1, hx332_2, hx332_3, hx332_4, hx332_5, hx332_6, hx332_7, hx332_8, hx332_9, hx332_10⟩ := at_T50 HR1.out x5_1 p332 q332
        cases e332
        replace p332 := eq_true p332
        replace q332 := eq_true q332
        go_wp2
        repeat (go_quiet (fail); try go_wp2)
        go_ret
        exact ⟨by first | rfl | (simp; done) | (simp [*]; done), by repeat (first | exact Drawn0.refl _ | apply Drawn0.step)⟩
       ·rw [if_neg c7] at H
        have c7b0 : (!(((rd_T50 l0 x5_1).f0) == ((rd_T50 l1 x5_1).f0)) || (!(((rd_T50 l0 x5_1).f1) == ((rd_T50 l1 x5_1).f1)) || (!(((rd_T50 l0 x5_1).f2) == ((rd_T50 l1 x5_1).f2)) || (!(((rd_T50 l0 x5_1).f3) == ((rd_T50 l1 x5_1).f3)) || ((!(((rd_T50 l0 x5_1).f4.f0) == ((rd_T50 l1 x5_1).f4.f0)) || (!(((rd_T50 l0 x5_1).f4.f1) == ((rd_T50 l1 x5_1).f4.f1)) || (!(((rd_T50 l0 x5_1).f4.f2) == ((rd_T50 l1 x5_1).f4.f2)) || (!(((rd_T50 l0 x5_1).f4.f3) == ((rd_T50 l1 x5_1).f4.f3)) || (!(((rd_T50 l0 x5_1).f4.f4) == ((rd_T50 l1 x5_1).f4.f4)) || (!(((rd_T50 l0 x5_1).f4.f5) == ((rd_T50 l1 x5_1).f4.f5)))))))) || (!(((rd_T50 l0 x5_1).f5) == ((rd_T50 l1 x5_1).f5)))))))) = false := by simpa using c7
        clear c7
        have H' := Aside0.mk H
        clear H
        have p331 : 0 ≤ (x5_1 : Int) := of_decide_eq_true (by first | (with_reducible assumption) | assumption)
        have q331 : x5_1 < (l0.length : Int) := of_decide_eq_true (by first | (with_reducible assumption) | assumption)
        obtain ⟨ad331, e331, hx331_0, hx331_1, hx331_2, hx331_3, hx331_4, hx331_5, hx331_6, hx331_7, hx331_8, hx331_9, hx331_10⟩ := at_T50 HR0.out x5_1 p331 q331
        cases e331
        replace p331 := eq_true p331
        replace q331 := eq_true q331
        have p332 : 0 ≤ (x5_1 : Int) := of_decide_eq_true (by first | (with_reducible assumption) | assumption)
        have q332 : x5_1 < (l1.length : Int) := of_decide_eq_true (by first | (with_reducible assumption) | assumption)
        obtain ⟨ad332, e332, hx332_0, hx332_1, hx332_2, hx332_3, hx332_4, hx332_5, hx332_6, hx332_7, hx332_8, hx332_9, hx332_10⟩ := at_T50 HR1.out x5_1 p332 q332
        cases e332
        replace p332 := eq_true p332
        replace q332 := eq_true q332
        go_wp2
        repeat (go_quiet (fail); try go_wp2)
        go_roundg k1
        case measure => have := HK1.out; omega
        case rel => exact ⟨(wrap64 (x5_1 + 1)), (by first | rfl | (simp; done) | (simp [*]; done)), H', ⟨by have := HK1.out; omega⟩, by repeat (first | exact Drawn0.refl _ | apply Drawn0.step)⟩
      ·rw [if_neg c6] at H
       exact absurd H (by simp)
     ·rw [if_neg c5] at H
      exact absurd H (by simp)
    ·rw [if_neg c4] at H
     have c4b0 : decide (x5_1 < (l0.length : Int)) = false := decide_eq_false c4
     clear c4
     obtain rfl := Option.some.inj H
     go_wp2
     repeat (go_quiet (fail); try go_wp2)
     go_ret
     exact ⟨by first | rfl | (simp; done) | (simp [*]; done), by repeat (first | exact Drawn0.refl _ | apply Drawn0.step)⟩
 ·rw [if_neg c3] at H
  have c3b0 : ((l0.length : Int) == (l1.length : Int)) = false := beq_eq_false_iff_ne.mpr c3
  have c3b1 : ((l0.length : Int) != (l1.length : Int)) = true := bne_iff_ne.mpr c3
  have c3b2 : (l0.length == l1.length) = false := by first | simpa using c3 | (simp at c3 ⊢; omega)
  obtain rfl := Option.some.inj H
  go_enter Try.func33, Try.ntmps33
  go_wp2
  repeat (go_quiet (fail); try go_wp2)
  go_ret
  exact ⟨by first | rfl | (simp; done) | (simp [*]; done), by repeat (first | exact Drawn0.refl _ | apply Drawn0.step)⟩

-- NOT PRINTED: function 72 (tsb_Tsb_own)

-- NOT PRINTED: function 34 (tsb_Tsb_List)

-- NOT PRINTED: function 77 (memory_Memory_Word)

-- NOT PRINTED: function 42 (tsb_Tsb_Locked)

-- NOT PRINTED: function 43 (tsb_Tsb_Drop)

-- NOT PRINTED: function 44 (tsb_Tsb_DropContext)
end Go.Proofs.Ytjnffegjpkbjmaa.QTsbPlays
namespace Go.Proofs.Ytjnffegjpkbjmaa.Mem
open Go.RowKit Go.Maps Go.Proofs.YtjnffegjpkbjmaaW.PrintWords Go.Proofs.YtjnffegjpkbjmaaW.PrintLast Go.Proofs.YtjnffegjpkbjmaaW.PrintMore Go.Proofs.Ytjnffegjpkbjmaa.QTsbPlays Go.Proofs.Ytjnffegjpkbjmaa.Pure
set_option linter.unusedSimpArgs false
set_option linter.unusedVariables false
section
set_option maxHeartbeats 2000000
set_option maxRecDepth 100000
theorem same_l (l : List Ent) (hl : l.length ≤ 1000000) : ∀ m i k, i + m = l.length → m + 1 ≤ k → lookasideref06_Same.l0 k l l (i : Int) = some true
 | 0, i, k, h, hk => by
  obtain ⟨k, rfl⟩ : ∃ m, k = m + 1 := ⟨k - 1, by omega⟩
  rw [lookasideref06_Same.l0, if_neg (by omega)]
 | m + 1, i, k, h, hk => by
  obtain ⟨k, rfl⟩ : ∃ m, k = m + 1 := ⟨k - 1, by omega⟩
  have ih := same_l l hl m (i + 1) k (by omega) (by omega)
  have hw : wrap64 ((i : Int) + 1) = ((i + 1 : Nat) : Int) := by unfold wrap64; omega
  rw [lookasideref06_Same.l0, if_pos (by omega), if_pos (by omega), if_pos (by omega), if_neg (by simp), hw]
  exact ih
theorem same_f (l : List Ent) (hl : l.length ≤ 1000000) : lookasideref06_Same.f (l.length + 1) l l = some true := by
 unfold lookasideref06_Same.f
 rw [if_pos rfl]
 exact same_l l hl l.length 0 _ (by omega) (Nat.le_refl _)
theorem list_len (N : Nat) (os : Nat → Option GE) : (listO N os).length ≤ N := by
 unfold listO
 exact Nat.le_trans (List.length_filterMap_le _ _) (by simp)
noncomputable def tplays7_T : Bool × List (List Nat × List Nat) := rtab .any (opsOf Try.f10 7)
theorem tplays7_tab : rtab .any (opsOf Try.f10 7) = tplays7_T := rfl
noncomputable def tplays11_T : Bool × List (List Nat × List Nat) := rtab .any (opsOf Try.f10 11)
theorem tplays11_tab : rtab .any (opsOf Try.f10 11) = tplays11_T := rfl
theorem tsbPlays_calls (size grade : Int) (a : Option Addr) (len cap : Nat) (W : World) (hs : (Lit.int .i64 size).wf = true) (hgr : (Lit.int .i64 grade).wf = true) (hl : Deeds W a len ∧ len ≤ maxLen) :
  Calls Try.prog 10 #[.int .i64 size, .int .i64 grade, .slice a len cap] W fun e W' => e = .returned (.bool true) ∧ Below W.heap.size W W' := by
 have hu := Try.underlying50
 have hu2 := Try.underlying44
 have hu3 := Try.underlying52
 have HDS := Aside0.mk hl.1
 have hlm : len ≤ 9223372036854775807 := hl.2
 have HG := Aside0.mk (grown_refl W none)
 clear hl hs hgr
 go_enter Try.func10, Try.ntmps10
 go_wp2_with fail
 refine (begin_calls (below_of_grown HG.out) HG.out.size size grade).mono ?_
 rintro x0 w1 ⟨p, mb, pt, A, c, rfl, hR, ⟨D, hM, hD, _⟩, hT, hpt, hp, hmb, hg⟩
 have HTB := Aside0.mk (tb_begin _ _ (ar4_lt size) (ar4_lt grade))
 have HQ := Aside0.mk (show QW W.heap.size W p mb pt 1048576 65536 (plcs (ar4 size) (ar4 grade)) (ar4 size) (ar4 grade) (2 * plcs (ar4 size) (ar4 grade)) (fun _ => (BADW, 0)) w1 from ⟨⟨D, hM, hD⟩, hT⟩)
 have HRL := Aside0.mk hR
 have HMB := Aside0.mk (Nat.le_trans HG.out.size hmb)
 replace HG := Aside0.mk (grown_two HG.out hg)
 clear hR hM hD hT hpt hp hmb hg
 generalize plcs (ar4 size) (ar4 grade) = N at HQ HTB ⊢
 generalize ar4 size = s at HQ HTB ⊢
 generalize (ar4 grade : Int) = gr at HQ ⊢
 have hg := World.grownBy_alloc w1 (.cells #[.int .i64 s, .int .i64 N, .slice A 0 c] 44) none
 have HB8 := Aside0.mk (heap_alloc_new w1 (.cells #[.int .i64 s, .int .i64 N, .slice A 0 c] 44))
 have HH8 := Aside0.mk (show W.heap.size ≤ w1.heap.size from HG.out.size)
 replace HG := Aside0.mk (grown_two HG.out hg)
 replace HQ := Aside0.mk (HQ.out.same hg)
 replace HRL := Aside0.mk (Kd.R_grown HRL.out hg (by simp))
 clear hg
 go_wp2_with fail
 generalize w1.heap.size = h8 at HB8 HH8 ⊢
 generalize w1.alloc (.cells #[.int .i64 s, .int .i64 N, .slice A 0 c] 44) = w2 at HB8 HG HQ HRL ⊢
 go_loopw [9] (fun v9 wr => ∃ (k n : Nat) (ws : Nat → Wd) (l : List WS) (A : Option Addr) (c : Nat), v9 = .int .i64 k ∧ k ≤ len ∧ k ≤ 20 ∧ n ≤ 8192 + 8195 * k ∧ l.length ≤ 3 * k ∧ Aside0 (QW W.heap.size W p mb pt 1048576 65536 N s gr (n) ws wr) ∧ Aside0 (DWw N ws l) ∧ Aside0 (LOK N l) ∧ Aside0 (Kd.R k122 122 wr W.heap.size (fun _ => True) (.slice A l.length c) l) ∧ Aside0 (W.grownBy wr none) ∧ Aside0 (wr.heap[h8]? = some (.cells #[.int .i64 (s : Int), .int .i64 (N : Int), .slice A l.length c] 44 (0, 0)))) (fun v9 _ => 20 - (intOf v9).toNat)
 case atStart => exact ⟨0, 2 * N, fun _ => (BADW, 0), [], A, c, rfl, by omega, by omega, by have := HTB.out.hN; omega, by simp, HQ, ⟨dww_nil N⟩, ⟨lok_nil N⟩, HRL, HG, HB8⟩
 case round =>
  clear HQ HRL HG HB8
  obtain ⟨k, n, ws, l, A, c, rfl, hk, hkm, hnk, hll, HQ, HDW, HLK, HRL, HG, HB8⟩ := hrel
  by_cases hlk : k < len ∧ k < 20
  ·have h1' : (k : Int) < (len : Int) := by omega
   have h2' : (k : Int) < 20 := by omega
   have h0' : (0 : Int) ≤ (k : Int) := by omega
   obtain ⟨y, kd, cx, va, e, raw, rfl, hd⟩ := HDS.out.at k hlk.1
   have HDA := Aside0.mk hd
   have HNN := Aside0.mk (show n ≤ 300000 ∧ l.length ≤ 1000 by omega)
   clear hd
   go_upto_region 7 with fail
   have hg := grown_drew wr none
   replace HB8 := Aside0.mk (blk_grown HB8.out hg)
   replace HG := Aside0.mk (grown_two HG.out hg)
   replace HQ := Aside0.mk (HQ.out.same hg)
   replace HRL := Aside0.mk (Kd.R_grown HRL.out hg (by simp))
   clear hg
   refine start_ (n := 13) (S := fun w' => DeedAt w' (y.add (k * 15)) kd cx va e raw ∧ w'.heap[h8]? = some (.cells #[.int .i64 (s : Int), .int .i64 (N : Int), .slice A l.length c] 44 (0, 0))) (ds := [11]) #[false, false, false, false, false, false, false, false, false, false, false, false, false] (by kernel_rfl) rfl rfl ⟨HDA.out.grown HG.out, HB8.out⟩ (fun hHeld => ?_)
   refine with_tab tplays7_tab (fun HT_ => ?_)
   refine pure_ (i := 0) (N := some 31) (v := ?_) (a' := ?_) #[true, false, false, false, false, false, false, false, false, false, false, false, false] rfl rfl (any_of HT_.out (by kernel_rfl)) (fun _ _ _ h => h) (Or.inl ⟨by rfl, ?_⟩) ?_ ?_
   rotate_left
   ·intro w'
    go_simp
    with_reducible rfl
   rotate_left
   ·simp only [ap_]
    rfl
   refine pure_ (i := 2) (N := some 33) (v := ?_) (a' := ?_) #[true, false, true, false, false, false, false, false, false, false, false, false, false] rfl rfl (any_of HT_.out (by kernel_rfl)) (fun _ _ _ h => h) (Or.inl ⟨by rfl, ?_⟩) ?_ ?_
   rotate_left
   ·intro w'
    go_simp
    with_reducible rfl
   rotate_left
   ·simp only [ap_]
    rfl
   refine pure_ (i := 3) (N := some 34) (v := ?_) (a' := ?_) #[true, false, true, true, false, false, false, false, false, false, false, false, false] rfl rfl (any_of HT_.out (by kernel_rfl)) (fun _ _ _ h => h) (Or.inl ⟨by rfl, ?_⟩) ?_ ?_
   rotate_left
   ·intro w'
    go_simp
    with_reducible rfl
   rotate_left
   ·simp only [ap_]
    rfl
   refine pure_ (i := 4) (N := some 35) (v := ?_) (a' := ?_) #[true, false, true, true, true, false, false, false, false, false, false, false, false] rfl rfl (any_of HT_.out (by kernel_rfl)) (fun _ _ _ h => h) (Or.inl ⟨by rfl, ?_⟩) ?_ ?_
   rotate_left
   ·intro w'
    go_simp
    with_reducible rfl
   rotate_left
   ·simp only [ap_]
    rfl
   refine take_ (i := 1) (N := some 32) (v := .agg #[.int .i64 (s : Int), .int .i64 (N : Int), .slice A l.length c]) (a' := ?_) #[true, true, true, true, true, false, false, false, false, false, false, false, false] rfl rfl (take_of HT_.out (by kernel_rfl)) (fun _ _ _ h => h) (Or.inl ⟨by rfl, ?_⟩) hHeld ?_ ?_
   ·rintro w' ⟨s1, s2⟩
    obtain ⟨q0, q1, q2⟩ := cz3q s2
    go_simp
   rotate_left
   ·simp only [ap_]
    rfl
   refine take_ (i := 5) (N := some 36) (v := .agg #[.int .i64 kd, .int .i64 cx, .int .u64 va, .int .i64 e.f0, .int .i64 e.f1, .int .u64 e.f2, .int .u64 e.f3, .bool e.f4.f0, .bool e.f4.f1, .bool e.f4.f2, .bool e.f4.f3, .bool e.f4.f4, .bool e.f4.f5, .bool e.f5, .bool raw]) (a' := ?_) #[true, true, true, true, true, true, false, false, false, false, false, false, false] rfl rfl (take_of HT_.out (by kernel_rfl)) (fun _ _ _ h => h) (Or.inl ⟨by rfl, ?_⟩) hHeld ?_ ?_
   ·rintro w' ⟨s1, s2⟩
    obtain ⟨_, _, d0, d1, d2, d3, d4, d5, d6, d7, d8, d9, d10, d11, d12, d13, d14⟩ := s1
    go_simp
   rotate_left
   ·simp only [ap_]
    rfl
   refine two_ (i := 6) (j := 10) (Ni := some 37) (Nj := some 10) #[true, true, true, true, true, true, true, false, false, false, false, false, false] #[true, true, true, true, true, true, false, false, false, false, true, false, false] rfl rfl rfl rfl (two_of HT_.out (by kernel_rfl)) (by decide) (by decide) (fun K hK => ?_) (fun K hK => ?_)
   ·refine goes_ Try.func46 (by kernel_rfl) rfl #[.pointer (some ⟨pt, 0, none⟩), .agg #[.int .i64 (s : Int), .int .i64 (N : Int), .slice A l.length c], .agg #[.int .i64 kd, .int .i64 cx, .int .u64 va, .int .i64 e.f0, .int .i64 e.f1, .int .u64 e.f2, .int .u64 e.f3, .bool e.f4.f0, .bool e.f4.f1, .bool e.f4.f2, .bool e.f4.f3, .bool e.f4.f4, .bool e.f4.f5, .bool e.f5, .bool raw]] (by rfl) rfl rfl (by (try simp only [List.map_toArray, List.map_cons, List.map_nil]); first | done | rfl) ?_
    refine (does_any HTB.out HQ.out HDW.out HLK.out HRL.out HG.out.size HMB.out (by have := HNN.out; omega) (by have := HNN.out; omega) kd cx va raw e HDA.out.he HDA.out.hva).mono ?_
    rintro x0 wn ⟨ws2, l2, A2, c2, rfl, hM, hdw, hlk, hR, hll, hg⟩
    have ht := ((hg.block h8 (blk_lt hHeld.2) (fun e => HQ.out.nb _ _ _ hHeld.2 (Option.some.inj e))).trans hHeld.2)
    replace HG := Aside0.mk (grown_loc HG.out hg HMB.out)
    have hs : DeedAt wn (y.add (k * 15)) kd cx va e raw ∧ wn.heap[h8]? = some (.cells #[.int .i64 (s : Int), .int .i64 (N : Int), .slice A l.length c] 44 (0, 0)) := ⟨HDA.out.grown HG.out, ht⟩
    replace HQ := Aside0.mk hM
    have HDX := Aside0.mk (And.intro hdw (And.intro hlk hll))
    have HR2 := Aside0.mk hR
    clear hM hdw hlk hll hR hg ht HRL HDW HLK
    refine ⟨_, rfl, ?_⟩
    refine hK.out _ _ hs (fun hHeld => ?_)
    clear hK K
    refine norm_ (a' := ?_) ?_ ?_
    rotate_left
    ·show Act.put _ (some 37) _ = _
     simp only [ap_]
     rfl
    refine pure_ (i := 7) (N := some 30) (v := ?_) (a' := ?_) #[true, true, true, true, true, true, true, true, false, false, false, false, false] rfl rfl (any_of HT_.out (by kernel_rfl)) (fun _ _ _ h => h) (Or.inl ⟨by rfl, ?_⟩) ?_ ?_
    rotate_left
    ·intro w'
     go_simp
     with_reducible rfl
    rotate_left
    ·simp only [ap_]
     rfl
    refine pure_ (i := 8) (N := some 38) (v := ?_) (a' := ?_) #[true, true, true, true, true, true, true, true, true, false, false, false, false] rfl rfl (any_of HT_.out (by kernel_rfl)) (fun _ _ _ h => h) (Or.inl ⟨by rfl, ?_⟩) ?_ ?_
    rotate_left
    ·intro w'
     go_simp
     with_reducible rfl
    rotate_left
    ·simp only [ap_]
     rfl
    refine pure_ (i := 9) (N := some 39) (v := ?_) (a' := ?_) #[true, true, true, true, true, true, true, true, true, true, false, false, false] rfl rfl (any_of HT_.out (by kernel_rfl)) (fun _ _ _ h => h) (Or.inl ⟨by rfl, ?_⟩) ?_ ?_
    rotate_left
    ·intro w'
     go_simp
     with_reducible rfl
    rotate_left
    ·simp only [ap_]
     rfl
    refine one_ (i := 10) (N := some 10) #[true, true, true, true, true, true, true, true, true, true, true, false, false] rfl rfl (one_of HT_.out (by kernel_rfl)) (by decide) (fun K hK => ?_)
    refine box_step ?hg (N := 10) ?hd (cs := #[.int .i64 0, .int .i64 0, .slice none 0 0]) (t := 44) ?hr ?_; (case hd => rfl); (case hg => rfl); (case hr => first | (go_simp; done) | (go_simp; rfl))
    intro h10 hg10 wn hbox hb
    have HB10 := Aside0.mk hbox
    have HN10 := Aside0.mk (show W.heap.size ≤ h10 ∧ h8 ≠ h10 from ⟨by rw [hg10]; exact HG.out.size, fun e => by have := blk_lt hHeld.2; omega⟩)
    have hg := below_grown hb
    replace HG := Aside0.mk (grown_two HG.out hg)
    replace HQ := Aside0.mk (HQ.out.same hg)
    replace HR2 := Aside0.mk (Kd.R_grown HR2.out hg (by simp))
    have hs : DeedAt wn (y.add (k * 15)) kd cx va e raw ∧ wn.heap[h8]? = some (.cells #[.int .i64 (s : Int), .int .i64 (N : Int), .slice A l.length c] 44 (0, 0)) := ⟨HDA.out.grown HG.out, blk_grown hHeld.2 hg⟩
    clear hg hg10 hbox hb
    refine hK.out _ _ hs (fun hHeld => ?_)
    clear hK K
    refine norm_ (a' := ?_) ?_ ?_
    rotate_left
    ·show Act.put _ (some 10) _ = _
     simp only [ap_]
     rfl
    refine last_ (i := 11) (N := none) #[true, true, true, true, true, true, true, true, true, true, true, true, false] rfl rfl (one_of HT_.out (by kernel_rfl)) (by decide) (fun K hK => ?_)
    rw [if_pos (by rfl)]
    refine wp_store_row 44 (.tmp 10) (.tmp 38) rfl h10 #[.int .i64 (s : Int), .int .i64 (N : Int), .slice A2 l2.length c2] rfl rfl 44 #[.int .i64 0, .int .i64 0, .slice none 0 0] HB10.out (by kernel_rfl) rfl (by kernel_rfl) ?_
    have hb2 := setRow_heap wn h10 _ #[.int .i64 (s : Int), .int .i64 (N : Int), .slice A2 l2.length c2] _ _ HB10.out
    have hgr := grown_row wn h10 #[.int .i64 (s : Int), .int .i64 (N : Int), .slice A2 l2.length c2]
    have ht := (hgr.block h8 (blk_lt hHeld.2) (fun e => HN10.out.2 (Option.some.inj e))).trans hHeld.2
    replace HQ := Aside0.mk (HQ.out.kept hgr HB10.out (by decide) (by decide) HN10.out.1)
    replace HR2 := Aside0.mk (Kd.R_mono (ok' := fun _ => True) (Kd.R_grown (Kd.R_types HR2.out HB10.out (by decide)) hgr (fun k hk e => hk.2 (Option.some.inj e))) (fun _ _ => trivial))
    replace HG := Aside0.mk (grown_loc HG.out hgr HN10.out.1)
    generalize World.setRow wn h10 #[.int .i64 (s : Int), .int .i64 (N : Int), .slice A2 l2.length c2] = wb at hb2 ht HQ HR2 HG ⊢
    replace HB10 := Aside0.mk hb2
    replace HB8 := Aside0.mk ht
    clear hgr hb2 ht
    refine hK.out _ _ ?_
    clear hK K
    refine norm_ (a' := ?_) ?_ ?_
    rotate_left
    ·show Act.put _ none _ = _
     rfl
    refine pure_ (i := 12) (N := some 11) (v := ?_) (a' := ?_) #[true, true, true, true, true, true, true, true, true, true, true, true, true] rfl rfl (any_of HT_.out (by kernel_rfl)) (fun _ _ _ h => h) (Or.inl ⟨by rfl, ?_⟩) ?_ ?_
    rotate_left
    ·intro w'
     go_simp
     with_reducible rfl
    rotate_left
    ·simp only [ap_]
     rfl
    refine done_ (done_of HT_.out (by kernel_rfl)) ?_
    clear hHeld
    obtain ⟨q0, q1, q2⟩ := cz3q HB10.out
    go_wp2_with (((with_reducible refine gate_store (t := 44) (p := 8) rfl ?_); refine wpList_store_row rfl 44 (.tmp 8) (.tmp 40) rfl h8 #[.int .i64 (s : Int), .int .i64 (N : Int), .slice A2 l2.length c2] rfl rfl 44 _ HB8.out (by kernel_rfl) rfl (by kernel_rfl) ?_; have SHB8 := Aside0.mk (setRow_heap _ h8 _ #[.int .i64 (s : Int), .int .i64 (N : Int), .slice A2 l2.length c2] _ _ HB8.out); have THB8 := Aside0.mk (grown_row wb h8 #[.int .i64 (s : Int), .int .i64 (N : Int), .slice A2 l2.length c2])))
    replace HQ := Aside0.mk (HQ.out.kept THB8.out HB8.out (by decide) (by decide) HH8.out)
    have HRL := Aside0.mk (Kd.R_mono (ok' := fun _ => True) (Kd.R_grown (Kd.R_types HR2.out HB8.out (by decide)) THB8.out (fun k hk e => hk.2 (Option.some.inj e))) (fun _ _ => trivial))
    replace HG := Aside0.mk (grown_loc HG.out THB8.out HH8.out)
    replace HB8 := Aside0.mk SHB8.out
    generalize World.setRow wb h8 #[.int .i64 (s : Int), .int .i64 (N : Int), .slice A2 l2.length c2] = w10 at HQ HRL HG HB8 ⊢
    clear SHB8 THB8 HR2
    go_wp2_with fail
    go_roundw
    case rel => exact ⟨k + 1, n + 2 * N + 3, ws2, l2, A2, c2, by go_num, by omega, by omega, by have := HTB.out.hN; omega, by have := HDX.out.2.2; omega, HQ, ⟨HDX.out.1⟩, ⟨HDX.out.2.1⟩, HRL, HG, HB8⟩
    case measure => simp [intOf]; omega
   ·refine box_step ?hg (N := 10) ?hd (cs := #[.int .i64 0, .int .i64 0, .slice none 0 0]) (t := 44) ?hr ?_; (case hd => rfl); (case hg => rfl); (case hr => first | (go_simp; done) | (go_simp; rfl))
    intro h10 hg10 wn hbox hb
    have HB10 := Aside0.mk hbox
    have HN10 := Aside0.mk (show W.heap.size ≤ h10 ∧ h8 ≠ h10 from ⟨by rw [hg10]; exact HG.out.size, fun e => by have := blk_lt hHeld.2; omega⟩)
    have hg := below_grown hb
    replace HG := Aside0.mk (grown_two HG.out hg)
    replace HQ := Aside0.mk (HQ.out.same hg)
    replace HRL := Aside0.mk (Kd.R_grown HRL.out hg (by simp))
    have hs : DeedAt wn (y.add (k * 15)) kd cx va e raw ∧ wn.heap[h8]? = some (.cells #[.int .i64 (s : Int), .int .i64 (N : Int), .slice A l.length c] 44 (0, 0)) := ⟨HDA.out.grown HG.out, blk_grown hHeld.2 hg⟩
    clear hg hg10 hbox hb
    refine hK.out _ _ hs (fun hHeld => ?_)
    clear hK K
    refine norm_ (a' := ?_) ?_ ?_
    rotate_left
    ·show Act.put _ (some 10) _ = _
     simp only [ap_]
     rfl
    refine one_ (i := 6) (N := some 37) #[true, true, true, true, true, true, true, false, false, false, true, false, false] rfl rfl (one_of HT_.out (by kernel_rfl)) (by decide) (fun K hK => ?_)
    refine goes_ Try.func46 (by kernel_rfl) rfl #[.pointer (some ⟨pt, 0, none⟩), .agg #[.int .i64 (s : Int), .int .i64 (N : Int), .slice A l.length c], .agg #[.int .i64 kd, .int .i64 cx, .int .u64 va, .int .i64 e.f0, .int .i64 e.f1, .int .u64 e.f2, .int .u64 e.f3, .bool e.f4.f0, .bool e.f4.f1, .bool e.f4.f2, .bool e.f4.f3, .bool e.f4.f4, .bool e.f4.f5, .bool e.f5, .bool raw]] (by rfl) rfl rfl (by (try simp only [List.map_toArray, List.map_cons, List.map_nil]); first | done | rfl) ?_
    refine (does_any HTB.out HQ.out HDW.out HLK.out HRL.out HG.out.size HMB.out (by have := HNN.out; omega) (by have := HNN.out; omega) kd cx va raw e HDA.out.he HDA.out.hva).mono ?_
    rintro x0 wn ⟨ws2, l2, A2, c2, rfl, hM, hdw, hlk, hR, hll, hg⟩
    replace HB10 := Aside0.mk ((hg.block h10 (blk_lt HB10.out) (fun e => HQ.out.nb _ _ _ HB10.out (Option.some.inj e))).trans HB10.out)
    have ht := ((hg.block h8 (blk_lt hHeld.2) (fun e => HQ.out.nb _ _ _ hHeld.2 (Option.some.inj e))).trans hHeld.2)
    replace HG := Aside0.mk (grown_loc HG.out hg HMB.out)
    have hs : DeedAt wn (y.add (k * 15)) kd cx va e raw ∧ wn.heap[h8]? = some (.cells #[.int .i64 (s : Int), .int .i64 (N : Int), .slice A l.length c] 44 (0, 0)) := ⟨HDA.out.grown HG.out, ht⟩
    replace HQ := Aside0.mk hM
    have HDX := Aside0.mk (And.intro hdw (And.intro hlk hll))
    have HR2 := Aside0.mk hR
    clear hM hdw hlk hll hR hg ht HRL HDW HLK
    refine ⟨_, rfl, ?_⟩
    refine hK.out _ _ hs (fun hHeld => ?_)
    clear hK K
    refine norm_ (a' := ?_) ?_ ?_
    rotate_left
    ·show Act.put _ (some 37) _ = _
     simp only [ap_]
     rfl
    refine pure_ (i := 7) (N := some 30) (v := ?_) (a' := ?_) #[true, true, true, true, true, true, true, true, false, false, true, false, false] rfl rfl (any_of HT_.out (by kernel_rfl)) (fun _ _ _ h => h) (Or.inl ⟨by rfl, ?_⟩) ?_ ?_
    rotate_left
    ·intro w'
     go_simp
     with_reducible rfl
    rotate_left
    ·simp only [ap_]
     rfl
    refine pure_ (i := 8) (N := some 38) (v := ?_) (a' := ?_) #[true, true, true, true, true, true, true, true, true, false, true, false, false] rfl rfl (any_of HT_.out (by kernel_rfl)) (fun _ _ _ h => h) (Or.inl ⟨by rfl, ?_⟩) ?_ ?_
    rotate_left
    ·intro w'
     go_simp
     with_reducible rfl
    rotate_left
    ·simp only [ap_]
     rfl
    refine pure_ (i := 9) (N := some 39) (v := ?_) (a' := ?_) #[true, true, true, true, true, true, true, true, true, true, true, false, false] rfl rfl (any_of HT_.out (by kernel_rfl)) (fun _ _ _ h => h) (Or.inl ⟨by rfl, ?_⟩) ?_ ?_
    rotate_left
    ·intro w'
     go_simp
     with_reducible rfl
    rotate_left
    ·simp only [ap_]
     rfl
    refine last_ (i := 11) (N := none) #[true, true, true, true, true, true, true, true, true, true, true, true, false] rfl rfl (one_of HT_.out (by kernel_rfl)) (by decide) (fun K hK => ?_)
    rw [if_pos (by rfl)]
    refine wp_store_row 44 (.tmp 10) (.tmp 38) rfl h10 #[.int .i64 (s : Int), .int .i64 (N : Int), .slice A2 l2.length c2] rfl rfl 44 #[.int .i64 0, .int .i64 0, .slice none 0 0] HB10.out (by kernel_rfl) rfl (by kernel_rfl) ?_
    have hb2 := setRow_heap wn h10 _ #[.int .i64 (s : Int), .int .i64 (N : Int), .slice A2 l2.length c2] _ _ HB10.out
    have hgr := grown_row wn h10 #[.int .i64 (s : Int), .int .i64 (N : Int), .slice A2 l2.length c2]
    have ht := (hgr.block h8 (blk_lt hHeld.2) (fun e => HN10.out.2 (Option.some.inj e))).trans hHeld.2
    replace HQ := Aside0.mk (HQ.out.kept hgr HB10.out (by decide) (by decide) HN10.out.1)
    replace HR2 := Aside0.mk (Kd.R_mono (ok' := fun _ => True) (Kd.R_grown (Kd.R_types HR2.out HB10.out (by decide)) hgr (fun k hk e => hk.2 (Option.some.inj e))) (fun _ _ => trivial))
    replace HG := Aside0.mk (grown_loc HG.out hgr HN10.out.1)
    generalize World.setRow wn h10 #[.int .i64 (s : Int), .int .i64 (N : Int), .slice A2 l2.length c2] = wb at hb2 ht HQ HR2 HG ⊢
    replace HB10 := Aside0.mk hb2
    replace HB8 := Aside0.mk ht
    clear hgr hb2 ht
    refine hK.out _ _ ?_
    clear hK K
    refine norm_ (a' := ?_) ?_ ?_
    rotate_left
    ·show Act.put _ none _ = _
     rfl
    refine pure_ (i := 12) (N := some 11) (v := ?_) (a' := ?_) #[true, true, true, true, true, true, true, true, true, true, true, true, true] rfl rfl (any_of HT_.out (by kernel_rfl)) (fun _ _ _ h => h) (Or.inl ⟨by rfl, ?_⟩) ?_ ?_
    rotate_left
    ·intro w'
     go_simp
     with_reducible rfl
    rotate_left
    ·simp only [ap_]
     rfl
    refine done_ (done_of HT_.out (by kernel_rfl)) ?_
    clear hHeld
    obtain ⟨q0, q1, q2⟩ := cz3q HB10.out
    go_wp2_with (((with_reducible refine gate_store (t := 44) (p := 8) rfl ?_); refine wpList_store_row rfl 44 (.tmp 8) (.tmp 40) rfl h8 #[.int .i64 (s : Int), .int .i64 (N : Int), .slice A2 l2.length c2] rfl rfl 44 _ HB8.out (by kernel_rfl) rfl (by kernel_rfl) ?_; have SHB8 := Aside0.mk (setRow_heap _ h8 _ #[.int .i64 (s : Int), .int .i64 (N : Int), .slice A2 l2.length c2] _ _ HB8.out); have THB8 := Aside0.mk (grown_row wb h8 #[.int .i64 (s : Int), .int .i64 (N : Int), .slice A2 l2.length c2])))
    replace HQ := Aside0.mk (HQ.out.kept THB8.out HB8.out (by decide) (by decide) HH8.out)
    have HRL := Aside0.mk (Kd.R_mono (ok' := fun _ => True) (Kd.R_grown (Kd.R_types HR2.out HB8.out (by decide)) THB8.out (fun k hk e => hk.2 (Option.some.inj e))) (fun _ _ => trivial))
    replace HG := Aside0.mk (grown_loc HG.out THB8.out HH8.out)
    replace HB8 := Aside0.mk SHB8.out
    generalize World.setRow wb h8 #[.int .i64 (s : Int), .int .i64 (N : Int), .slice A2 l2.length c2] = w10 at HQ HRL HG HB8 ⊢
    clear SHB8 THB8 HR2
    go_wp2_with fail
    go_roundw
    case rel => exact ⟨k + 1, n + 2 * N + 3, ws2, l2, A2, c2, by go_num, by omega, by omega, by have := HTB.out.hN; omega, by have := HDX.out.2.2; omega, HQ, ⟨HDX.out.1⟩, ⟨HDX.out.2.1⟩, HRL, HG, HB8⟩
    case measure => simp [intOf]; omega
  ·have hkk : ((k : Int) < (len : Int) ∧ ¬ (k : Int) < 20) ∨ ¬ (k : Int) < (len : Int) := by omega
   have HNN := Aside0.mk (show n ≤ 300000 ∧ l.length ≤ 1000 by omega)
   clear hk hkm hnk hll hlk
   rcases hkk with ⟨h1', h2'⟩ | h1'
   all_goals
    obtain ⟨ls, hls⟩ : ∃ z, z = (listO N (owO N s ws)).map geS := ⟨_, rfl⟩
    have HLB := Aside0.mk (show ls.length ≤ 1000000 by rw [hls, List.length_map]; have := list_len N (owO N s ws); have := HTB.out.hN; omega)
    have HLS := Aside0.mk hls.symm
    clear hls
    go_upto_region 11 with fail
    have hg := grown_drew wr none
    replace HB8 := Aside0.mk (blk_grown HB8.out hg)
    replace HG := Aside0.mk (grown_two HG.out hg)
    replace HQ := Aside0.mk (HQ.out.same hg)
    replace HRL := Aside0.mk (Kd.R_grown HRL.out hg (by simp))
    clear hg
    refine start_ (n := 23) (S := fun w' => w'.heap[h8]? = some (.cells #[.int .i64 (s : Int), .int .i64 (N : Int), .slice A l.length c] 44 (0, 0))) (ds := []) #[false, false, false, false, false, false, false, false, false, false, false, false, false, false, false, false, false, false, false, false, false, false, false] (by kernel_rfl) rfl rfl HB8.out (fun hHeld => ?_)
    refine with_tab tplays11_tab (fun HT_ => ?_)
    refine pure_ (i := 0) (N := some 43) (v := ?_) (a' := ?_) #[true, false, false, false, false, false, false, false, false, false, false, false, false, false, false, false, false, false, false, false, false, false, false] rfl rfl (any_of HT_.out (by kernel_rfl)) (fun _ _ _ h => h) (Or.inl ⟨by rfl, ?_⟩) ?_ ?_
    rotate_left
    ·intro w'
     go_simp
     with_reducible rfl
    rotate_left
    ·simp only [ap_]
     rfl
    refine pure_ (i := 2) (N := some 45) (v := ?_) (a' := ?_) #[true, false, true, false, false, false, false, false, false, false, false, false, false, false, false, false, false, false, false, false, false, false, false] rfl rfl (any_of HT_.out (by kernel_rfl)) (fun _ _ _ h => h) (Or.inl ⟨by rfl, ?_⟩) ?_ ?_
    rotate_left
    ·intro w'
     go_simp
     with_reducible rfl
    rotate_left
    ·simp only [ap_]
     rfl
    refine take_ (i := 3) (N := some 46) (v := .int .i64 (N : Int)) (a' := ?_) #[true, false, true, true, false, false, false, false, false, false, false, false, false, false, false, false, false, false, false, false, false, false, false] rfl rfl (take_of HT_.out (by kernel_rfl)) (fun _ _ _ h => h) (Or.inl ⟨by rfl, ?_⟩) hHeld ?_ ?_
    ·rintro w' s1
     obtain ⟨q0, q1, q2⟩ := cz3q s1
     go_simp
    rotate_left
    ·simp only [ap_]
     rfl
    refine one_ (i := 1) (N := some 44) #[true, true, true, true, false, false, false, false, false, false, false, false, false, false, false, false, false, false, false, false, false, false, false] rfl rfl (one_of HT_.out (by kernel_rfl)) (by decide) (fun K hK => ?_)
    refine goes_ Try.func17 (by kernel_rfl) rfl #[.pointer (some ⟨pt, 0, none⟩)] (by rfl) rfl rfl (by (try simp only [List.map_toArray, List.map_cons, List.map_nil]); first | done | rfl) ?_
    refine (tlen_calls HQ.out.row).mono ?_
    rintro x0 wn ⟨rfl, hg⟩
    replace HQ := Aside0.mk (HQ.out.same hg)
    replace HRL := Aside0.mk (Kd.R_grown HRL.out hg (by simp))
    replace HG := Aside0.mk (grown_two HG.out hg)
    have hs : wn.heap[h8]? = some (.cells #[.int .i64 (s : Int), .int .i64 (N : Int), .slice A l.length c] 44 (0, 0)) := blk_grown hHeld hg
    clear hg
    refine ⟨_, rfl, ?_⟩
    refine hK.out _ _ hs (fun hHeld => ?_)
    clear hK K
    refine norm_ (a' := ?_) ?_ ?_
    rotate_left
    ·show Act.put _ (some 44) _ = _
     simp only [ap_]
     rfl
    refine pure_ (i := 4) (N := some 47) (v := ?_) (a' := ?_) #[true, true, true, true, true, false, false, false, false, false, false, false, false, false, false, false, false, false, false, false, false, false, false] rfl rfl (any_of HT_.out (by kernel_rfl)) (fun _ _ _ h => h) (Or.inl ⟨by rfl, ?_⟩) ?_ ?_
    rotate_left
    ·intro w'
     go_simp
     with_reducible rfl
    rotate_left
    ·simp only [ap_]
     rfl
    refine pure_ (i := 5) (N := some 48) (v := ?_) (a' := ?_) #[true, true, true, true, true, true, false, false, false, false, false, false, false, false, false, false, false, false, false, false, false, false, false] rfl rfl (any_of HT_.out (by kernel_rfl)) (fun _ _ _ h => h) (Or.inl ⟨by rfl, ?_⟩) ?_ ?_
    rotate_left
    ·intro w'
     go_simp
     with_reducible rfl
    rotate_left
    ·simp only [ap_]
     rfl
    refine pure_ (i := 6) (N := some 49) (v := ?_) (a' := ?_) #[true, true, true, true, true, true, true, false, false, false, false, false, false, false, false, false, false, false, false, false, false, false, false] rfl rfl (any_of HT_.out (by kernel_rfl)) (fun _ _ _ h => h) (Or.inl ⟨by rfl, ?_⟩) ?_ ?_
    rotate_left
    ·intro w'
     go_simp
     with_reducible rfl
    rotate_left
    ·simp only [ap_]
     rfl
    refine take_ (i := 8) (N := some 51) (v := .agg #[.int .i64 (s : Int), .int .i64 (N : Int), .slice A l.length c]) (a' := ?_) #[true, true, true, true, true, true, true, false, true, false, false, false, false, false, false, false, false, false, false, false, false, false, false] rfl rfl (take_of HT_.out (by kernel_rfl)) (fun _ _ _ h => h) (Or.inl ⟨by rfl, ?_⟩) hHeld ?_ ?_
    ·rintro w' s1
     obtain ⟨q0, q1, q2⟩ := cz3q s1
     go_simp
    rotate_left
    ·simp only [ap_]
     rfl
    refine one_ (i := 7) (N := some 50) #[true, true, true, true, true, true, true, true, true, false, false, false, false, false, false, false, false, false, false, false, false, false, false] rfl rfl (one_of HT_.out (by kernel_rfl)) (by decide) (fun K hK => ?_)
    refine goes_ Try.func42 (by kernel_rfl) rfl #[.pointer (some ⟨pt, 0, none⟩)] (by rfl) rfl rfl (by (try simp only [List.map_toArray, List.map_cons, List.map_nil]); first | done | rfl) ?_
    refine (w_locked HTB.out HQ.out).mono ?_
    rintro x0 wn ⟨rfl, hg⟩
    replace HQ := Aside0.mk (HQ.out.same hg)
    replace HRL := Aside0.mk (Kd.R_grown HRL.out hg (by simp))
    replace HG := Aside0.mk (grown_two HG.out hg)
    have hs : wn.heap[h8]? = some (.cells #[.int .i64 (s : Int), .int .i64 (N : Int), .slice A l.length c] 44 (0, 0)) := blk_grown hHeld hg
    clear hg
    refine ⟨_, rfl, ?_⟩
    refine hK.out _ _ hs (fun hHeld => ?_)
    clear hK K
    refine norm_ (a' := ?_) ?_ ?_
    rotate_left
    ·show Act.put _ (some 50) _ = _
     simp only [ap_]
     rfl
    refine one_ (i := 9) (N := some 52) #[true, true, true, true, true, true, true, true, true, true, false, false, false, false, false, false, false, false, false, false, false, false, false] rfl rfl (one_of HT_.out (by kernel_rfl)) (by decide) (fun K hK => ?_)
    refine goes_ Try.func47 (by kernel_rfl) rfl #[.agg #[.int .i64 (s : Int), .int .i64 (N : Int), .slice A l.length c]] (by rfl) rfl rfl (by (try simp only [List.map_toArray, List.map_cons, List.map_nil]); first | done | rfl) ?_
    refine (rlocked_W HTB.out HQ.out.wok HDW.out HLK.out (Kd.R_reads' HRL.out).2.2 (Kd.R_reads' HRL.out).2.1 (by have := HNN.out; omega)).mono ?_
    rintro x0 wn ⟨rfl, hg⟩
    replace HQ := Aside0.mk (HQ.out.same hg)
    replace HRL := Aside0.mk (Kd.R_grown HRL.out hg (by simp))
    replace HG := Aside0.mk (grown_two HG.out hg)
    have hs : wn.heap[h8]? = some (.cells #[.int .i64 (s : Int), .int .i64 (N : Int), .slice A l.length c] 44 (0, 0)) := blk_grown hHeld hg
    clear hg
    refine ⟨_, rfl, ?_⟩
    refine hK.out _ _ hs (fun hHeld => ?_)
    clear hK K
    refine norm_ (a' := ?_) ?_ ?_
    rotate_left
    ·show Act.put _ (some 52) _ = _
     simp only [ap_]
     rfl
    refine pure_ (i := 10) (N := some 53) (v := ?_) (a' := ?_) #[true, true, true, true, true, true, true, true, true, true, true, false, false, false, false, false, false, false, false, false, false, false, false] rfl rfl (any_of HT_.out (by kernel_rfl)) (fun _ _ _ h => h) (Or.inl ⟨by rfl, ?_⟩) ?_ ?_
    rotate_left
    ·intro w'
     go_simp
     with_reducible rfl
    rotate_left
    ·simp only [ap_]
     rfl
    refine pure_ (i := 11) (N := some 54) (v := ?_) (a' := ?_) #[true, true, true, true, true, true, true, true, true, true, true, true, false, false, false, false, false, false, false, false, false, false, false] rfl rfl (any_of HT_.out (by kernel_rfl)) (fun _ _ _ h => h) (Or.inl ⟨by rfl, ?_⟩) ?_ ?_
    rotate_left
    ·intro w'
     go_simp
     with_reducible rfl
    rotate_left
    ·simp only [ap_]
     rfl
    refine pure_ (i := 12) (N := some 55) (v := ?_) (a' := ?_) #[true, true, true, true, true, true, true, true, true, true, true, true, true, false, false, false, false, false, false, false, false, false, false] rfl rfl (any_of HT_.out (by kernel_rfl)) (fun _ _ _ h => h) (Or.inl ⟨by rfl, ?_⟩) ?_ ?_
    rotate_left
    ·intro w'
     go_simp
     with_reducible rfl
    rotate_left
    ·simp only [ap_]
     rfl
    refine pure_ (i := 13) (N := some 56) (v := ?_) (a' := ?_) #[true, true, true, true, true, true, true, true, true, true, true, true, true, true, false, false, false, false, false, false, false, false, false] rfl rfl (any_of HT_.out (by kernel_rfl)) (fun _ _ _ h => h) (Or.inl ⟨by rfl, ?_⟩) ?_ ?_
    rotate_left
    ·intro w'
     go_simp
     with_reducible rfl
    rotate_left
    ·simp only [ap_]
     rfl
    refine take_ (i := 15) (N := some 58) (v := .agg #[.int .i64 (s : Int), .int .i64 (N : Int), .slice A l.length c]) (a' := ?_) #[true, true, true, true, true, true, true, true, true, true, true, true, true, true, false, true, false, false, false, false, false, false, false] rfl rfl (take_of HT_.out (by kernel_rfl)) (fun _ _ _ h => h) (Or.inl ⟨by rfl, ?_⟩) hHeld ?_ ?_
    ·rintro w' s1
     obtain ⟨q0, q1, q2⟩ := cz3q s1
     go_simp
    rotate_left
    ·simp only [ap_]
     rfl
    refine one_ (i := 14) (N := some 57) #[true, true, true, true, true, true, true, true, true, true, true, true, true, true, true, true, false, false, false, false, false, false, false] rfl rfl (one_of HT_.out (by kernel_rfl)) (by decide) (fun K hK => ?_)
    refine goes_ Try.func34 (by kernel_rfl) rfl #[.pointer (some ⟨pt, 0, none⟩)] (by rfl) rfl rfl (by (try simp only [List.map_toArray, List.map_cons, List.map_nil]); first | done | rfl) ?_
    refine (w_list HTB.out HQ.out).mono ?_
    rintro x0 wn ⟨v, rfl, hR, hg⟩
    rw [HLS.out] at hR
    obtain ⟨A5, c5, rfl⟩ := Kd.R_slice hR
    have HV5 := Aside0.mk (Kd.R_lower hR HG.out.size)
    replace HQ := Aside0.mk (HQ.out.same hg)
    replace HRL := Aside0.mk (Kd.R_grown HRL.out hg (by simp))
    replace HG := Aside0.mk (grown_two HG.out hg)
    have hs : wn.heap[h8]? = some (.cells #[.int .i64 (s : Int), .int .i64 (N : Int), .slice A l.length c] 44 (0, 0)) := blk_grown hHeld hg
    clear hR hg
    refine ⟨_, rfl, ?_⟩
    refine hK.out _ _ hs (fun hHeld => ?_)
    clear hK K
    refine norm_ (a' := ?_) ?_ ?_
    rotate_left
    ·show Act.put _ (some 57) _ = _
     simp only [ap_]
     rfl
    refine one_ (i := 16) (N := some 59) #[true, true, true, true, true, true, true, true, true, true, true, true, true, true, true, true, true, false, false, false, false, false, false] rfl rfl (one_of HT_.out (by kernel_rfl)) (by decide) (fun K hK => ?_)
    refine goes_ Try.func35 (by kernel_rfl) rfl #[.agg #[.int .i64 (s : Int), .int .i64 (N : Int), .slice A l.length c]] (by rfl) rfl rfl (by (try simp only [List.map_toArray, List.map_cons, List.map_nil]); first | done | rfl) ?_
    refine (rlist_W HTB.out HQ.out.wok HDW.out (Kd.R_reads' HRL.out).2.2 (Kd.R_reads' HRL.out).2.1 (by have := HNN.out; omega)).mono ?_
    rintro x0 wn ⟨v, rfl, hR, hg⟩
    rw [HLS.out] at hR
    obtain ⟨A6, c6, rfl⟩ := Kd.R_slice hR
    have HV6 := Aside0.mk (Kd.R_lower hR HG.out.size)
    replace HV5 := Aside0.mk (Kd.R_grown HV5.out hg (by simp))
    replace HQ := Aside0.mk (HQ.out.same hg)
    replace HRL := Aside0.mk (Kd.R_grown HRL.out hg (by simp))
    replace HG := Aside0.mk (grown_two HG.out hg)
    have hs : wn.heap[h8]? = some (.cells #[.int .i64 (s : Int), .int .i64 (N : Int), .slice A l.length c] 44 (0, 0)) := blk_grown hHeld hg
    clear hR hg
    refine ⟨_, rfl, ?_⟩
    refine hK.out _ _ hs (fun hHeld => ?_)
    clear hK K
    refine norm_ (a' := ?_) ?_ ?_
    rotate_left
    ·show Act.put _ (some 59) _ = _
     simp only [ap_]
     rfl
    refine one_ (i := 17) (N := some 60) #[true, true, true, true, true, true, true, true, true, true, true, true, true, true, true, true, true, true, false, false, false, false, false] rfl rfl (one_of HT_.out (by kernel_rfl)) (by decide) (fun K hK => ?_)
    refine goes_ Try.func33 (by kernel_rfl) rfl #[.slice A5 ls.length c5, .slice A6 ls.length c6] (by rfl) rfl rfl (by (try simp only [List.map_toArray, List.map_cons, List.map_nil]); first | done | rfl) ?_
    refine (lookasideref06_Same.calls (ls.length + 1) A5 c5 ls A6 c6 ls true _ (Kd.R_reads' HV5.out).2.2 (Kd.R_reads' HV5.out).2.1 (Kd.R_reads' HV6.out).2.2 (Kd.R_reads' HV6.out).2.1 (same_f ls HLB.out)).mono ?_
    rintro x0 wn ⟨rfl, hd⟩
    have hg := drawn_grown hd
    clear HV5 HV6
    replace HQ := Aside0.mk (HQ.out.same hg)
    replace HRL := Aside0.mk (Kd.R_grown HRL.out hg (by simp))
    replace HG := Aside0.mk (grown_two HG.out hg)
    have hs : wn.heap[h8]? = some (.cells #[.int .i64 (s : Int), .int .i64 (N : Int), .slice A l.length c] 44 (0, 0)) := blk_grown hHeld hg
    clear hd hg
    refine ⟨_, rfl, ?_⟩
    refine hK.out _ _ hs (fun hHeld => ?_)
    clear hK K
    refine norm_ (a' := ?_) ?_ ?_
    rotate_left
    ·show Act.put _ (some 60) _ = _
     simp only [ap_]
     rfl
    refine pure_ (i := 18) (N := some 61) (v := ?_) (a' := ?_) #[true, true, true, true, true, true, true, true, true, true, true, true, true, true, true, true, true, true, true, false, false, false, false] rfl rfl (any_of HT_.out (by kernel_rfl)) (fun _ _ _ h => h) (Or.inl ⟨by rfl, ?_⟩) ?_ ?_
    rotate_left
    ·intro w'
     go_simp
     with_reducible rfl
    rotate_left
    ·simp only [ap_]
     rfl
    refine pure_ (i := 19) (N := some 62) (v := ?_) (a' := ?_) #[true, true, true, true, true, true, true, true, true, true, true, true, true, true, true, true, true, true, true, true, false, false, false] rfl rfl (any_of HT_.out (by kernel_rfl)) (fun _ _ _ h => h) (Or.inl ⟨by rfl, ?_⟩) ?_ ?_
    rotate_left
    ·intro w'
     go_simp
     with_reducible rfl
    rotate_left
    ·simp only [ap_]
     rfl
    refine one_ (i := 20) (N := some 63) #[true, true, true, true, true, true, true, true, true, true, true, true, true, true, true, true, true, true, true, true, true, false, false] rfl rfl (one_of HT_.out (by kernel_rfl)) (by decide) (fun K hK => ?_)
    refine goes_ Try.func26 (by kernel_rfl) rfl #[] (by rfl) rfl rfl (by (try simp only [List.map_toArray, List.map_cons, List.map_nil]); first | done | rfl) ?_
    refine (lives10 _).mono ?_
    rintro x0 wn ⟨rfl, hg⟩
    replace HQ := Aside0.mk (HQ.out.same hg)
    replace HRL := Aside0.mk (Kd.R_grown HRL.out hg (by simp))
    replace HG := Aside0.mk (grown_two HG.out hg)
    have hs : wn.heap[h8]? = some (.cells #[.int .i64 (s : Int), .int .i64 (N : Int), .slice A l.length c] 44 (0, 0)) := blk_grown hHeld hg
    clear hg
    refine ⟨_, rfl, ?_⟩
    refine hK.out _ _ hs (fun hHeld => ?_)
    clear hK K
    refine norm_ (a' := ?_) ?_ ?_
    rotate_left
    ·show Act.put _ (some 63) _ = _
     simp only [ap_]
     rfl
    refine pure_ (i := 21) (N := some 64) (v := ?_) (a' := ?_) #[true, true, true, true, true, true, true, true, true, true, true, true, true, true, true, true, true, true, true, true, true, true, false] rfl rfl (any_of HT_.out (by kernel_rfl)) (fun _ _ _ h => h) (Or.inl ⟨by rfl, ?_⟩) ?_ ?_
    rotate_left
    ·intro w'
     go_simp
     with_reducible rfl
    rotate_left
    ·simp only [ap_]
     rfl
    refine pure_ (i := 22) (N := some 6) (v := ?_) (a' := ?_) #[true, true, true, true, true, true, true, true, true, true, true, true, true, true, true, true, true, true, true, true, true, true, true] rfl rfl (any_of HT_.out (by kernel_rfl)) (fun _ _ _ h => h) (Or.inl ⟨by rfl, ?_⟩) ?_ ?_
    rotate_left
    ·intro w'
     go_simp
     with_reducible rfl
    rotate_left
    ·simp only [ap_]
     rfl
    refine done_ (done_of HT_.out (by kernel_rfl)) ?_
    clear hHeld
    go_wp2
    go_ret
    exact ⟨rfl, below_of_grown HG.out⟩
end
end Go.Proofs.Ytjnffegjpkbjmaa.Mem
-- halved
