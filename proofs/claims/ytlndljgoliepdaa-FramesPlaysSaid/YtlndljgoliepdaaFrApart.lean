/- FramesApart, walked. -/
import Derived.Test.YtlndljgoliepdaaFrApartP
namespace Go.Proofs.Ytlndljgoliepdaa.QFramesPlays
open Go.RowKit Go.Proofs.YtlndljgoliepdaaW.PrintWords Go.Proofs.YtlndljgoliepdaaW.PrintLast Go.Proofs.YtlndljgoliepdaaW.PrintMore
set_option linter.unusedSimpArgs false
set_option linter.unusedVariables false
section
set_option maxHeartbeats 1000000
set_option maxRecDepth 100000
noncomputable def apart29_T : Bool × List (List Nat × List Nat) := rtab .any (opsOf Try.f11 29)
theorem apart29_tab : rtab .any (opsOf Try.f11 29) = apart29_T := rfl
noncomputable def apart23_T : Bool × List (List Nat × List Nat) := rtab .any (opsOf Try.f11 23)
theorem apart23_tab : rtab .any (opsOf Try.f11 23) = apart23_T := rfl
theorem infoTaken : (Try.prog.info? 70).map (fun i => (i.zero, i.size, i.bytes)) = some (some (.agg #[.int .i64 0, .int .i64 0]), 2, 16) := by kernel_rfl
/-- A row of runs that were taken, that a law holds. -/
structure TRow (base : Nat) (A : Option Addr) (c : Nat) (tl : List (Nat × Nat)) (W : World) : Prop where
  own : W.ownsRow base 70 2 (.slice A tl.length c) tl.length (vals tl)
theorem TRow.same {base A c tl W W'} (h : TRow base A c tl W) (hg : W.grownBy W' none) : TRow base A c tl W' := ⟨h.own.kept hg (by cases hv : (Value.slice A tl.length c).ownBlock <;> simp)⟩
theorem TRow.at {base A c tl W} (h : TRow base A c tl W) (k : Nat) (hk : k < tl.length) : ∃ g, A = some ⟨g, 0, none⟩ ∧ W.cell? ⟨g, k * 2, none⟩ = some (.int .i64 ((tl.getD k (0, 0)).1 : Nat)) ∧ W.cell? ⟨g, k * 2 + 1, none⟩ = some (.int .i64 ((tl.getD k (0, 0)).2 : Nat)) := by
  have hs := h.own.2
  rcases hs with ⟨_, h0⟩ | ⟨g, cap, _, hv, _⟩
  · omega
  · injection hv with h1 h2 h3
    subst h1
    have hv := vals_at tl k hk
    have ha : ∀ j, (⟨g, 0, none⟩ : Addr).add j = ⟨g, j, none⟩ := fun j => by unfold Addr.add; split <;> simp_all
    have c1 := h.own.cells (g := g) rfl (k * 2) _ hv.1
    have c2 := h.own.cells (g := g) rfl (k * 2 + 1) _ hv.2
    rw [ha] at c1 c2
    exact ⟨g, rfl, c1, c2⟩
theorem TRow.frk {base A c tl W W' B w0 p r ts free} (h : TRow base A c tl W) (hf : Fr B w0 p r ts free W) (hk : FrK W p r W') : TRow base A c tl W' := by
  refine ⟨h.own.1, ?_⟩
  rcases h.own.2 with hn | ⟨g, cap, cur, hv, hb, hgg, rest⟩
  · exact .inl hn
  · refine .inr ⟨g, cap, cur, hv, hb, (hk.block g (blk_lt hgg) ?_ ?_).trans hgg, rest⟩
    · rintro rfl
      have := hf.row.symm.trans hgg
      injection this with this
      injection this with _ h2
      exact absurd h2 (by decide)
    · rintro rfl
      have := hf.bits.symm.trans hgg
      injection this with this
      injection this with _ h2
      exact absurd h2 (by decide)
theorem TRow.ne {base A c tl W B w0 p r ts free} (h : TRow base A c tl W) (hf : Fr B w0 p r ts free W) : some p ≠ (Value.slice A tl.length c).ownBlock ∧ some r ≠ (Value.slice A tl.length c).ownBlock := by
  rcases h.own.2 with ⟨hv, _⟩ | ⟨g, cap, cur, hv, hb, hgg, rest⟩
  · rw [hv]
    simp [Value.ownBlock]
  · rw [hv]
    simp only [Value.ownBlock]
    constructor
    · intro e
      obtain rfl := Option.some.inj e
      have := hf.row.symm.trans hgg
      injection this with this
      injection this with _ h2
      exact absurd h2 (by decide)
    · intro e
      obtain rfl := Option.some.inj e
      have := hf.bits.symm.trans hgg
      injection this with this
      injection this with _ h2
      exact absurd h2 (by decide)
theorem TRow.fs {A c tl W W' w0 p r ts} (h : TRow w0.heap.size A c tl W) (hf : Fs w0.heap.size w0 p r ts W) (hg : W.grownBy W' (Value.slice A tl.length c).ownBlock) : Fs w0.heap.size w0 p r ts W' := by
  obtain ⟨h1, h2⟩ := h.ne hf
  exact hf.kept hg h1 h2 (fun k e => (h.own.lt k e).1)
theorem TRow.nes {base A c tl W B w0 p r ts free} (h : TRow base A c tl W) (hf : Fr B w0 p r ts free W) : ∀ g, A = some ⟨g, 0, none⟩ → g ≠ p ∧ g ≠ r := by
  rintro g rfl
  have := h.ne hf
  simp only [Value.ownBlock] at this
  exact ⟨fun e => this.1 (by rw [e]), fun e => this.2 (by rw [e])⟩
theorem cell_frk {W W' : World} {p r g j : Nat} {v : Value} (hk : FrK W p r W') (h : W.cell? ⟨g, j, none⟩ = some v) (hn : g ≠ p ∧ g ≠ r) : W'.cell? ⟨g, j, none⟩ = some v := (World.cell?_of_block (w := W) (hk.block g (cell_lt h) hn.1 hn.2)).trans h
theorem two_new (W : World) (x y : Value) (t : TypeId) : ∀ (j : Nat) (u : Value), [x, y][j]? = some u → (W.alloc (.cells #[x, y] t)).cell? ((⟨W.heap.size, 0, none⟩ : Addr).add j) = some u := by
  intro j u h
  have ha : (⟨W.heap.size, 0, none⟩ : Addr).add j = ⟨W.heap.size, j, none⟩ := by unfold Addr.add; split <;> simp_all
  rw [ha, blk_cell (heap_alloc_new W _)]
  simpa using h
theorem apart_walk (a0 : Int) (a1 : Option Addr) (len cap : Nat) (zs : List Int) (w : World) (w0_ : (Lit.int .i64 a0).wf = true) (h1 : (a1 = none ∧ len = 0 ∧ cap = 0 ∧ zs = []) ∨ ∃ x, a1 = some x ∧ len ≤ cap ∧ cap ≤ maxLen ∧ zs.length = cap ∧ (∀ i, i < zs.length → w.cell? (x.add i) = some (.int .i64 (zs.getD i 0))) ∧ ∀ n ∈ zs, (Lit.int .i64 n).wf = true) (y1 : len * 8 ≤ 140737488351232) :
    Calls Try.prog 11 #[.int .i64 a0, .slice a1 len cap] w fun e w' => e = .returned (.bool true) ∧ Below w.heap.size w w' := by
  obtain ⟨i0, hi0, hz0, hz1, hz2⟩ := info_parts infoTaken
  have HI0 := Aside0.mk (And.intro hi0 (And.intro hz0 (And.intro hz1 hz2)))
  clear hi0 hz0 hz1 hz2
  have HBa := i64_b w0_
  obtain ⟨z, rfl, hr, hm, hz, hc⟩ := ReadsInt.ofRowC h1
  have HRd := Aside0.mk hr
  have HZ := Aside0.mk hz
  have hml : z.length ≤ 140737488351232 := by omega
  clear h1 hr hz y1 hm
  have HB := Aside0.mk (Below.refl w.heap.size w)
  go_enter Try.func11, Try.ntmps11
  go_wp2_with (go_at_call 36; refine (place_any _ _ (by first | assumption | exact HWF.out) (by omega) _).mono ?_; rintro e wn ⟨N, rfl, hre, hN, hg⟩; replace HB := Aside0.mk (HB.out.trans (below_of_grown hg)); have HRE := Aside0.mk hre; clear hg hre HRE)
  have hN' : N ≤ 2000 := by omega
  go_wp2_with (go_at_call 27; refine (fs_new HB.out HB.out.size _ N (by unfold mn mx; split <;> split <;> omega)).mono ?_; rintro e w1 ⟨p, r, rfl, hM, hr, hg⟩; have HM := Aside0.mk hM; clear hM hr hg)
  go_loopw [6, 7] (fun v6 v7 wr => ∃ (i : Nat) (A : Option Addr) (c : Nat) (ts : List Bool) (tl : List (Nat × Nat)), v7 = .int .i64 i ∧ v6 = .slice A tl.length c ∧ i ≤ z.length ∧ i ≤ 20 ∧ tl.length ≤ i ∧ Aside0 (AP N ts tl) ∧ Aside0 (TRow w.heap.size A c tl wr) ∧ Aside0 (Fs w.heap.size w p r ts wr)) (fun _ v7 _ => z.length - (intOf v7).toNat)
  case atStart => exact ⟨0, none, 0, _, [], rfl, rfl, by omega, by omega, by simp, ⟨AP.start N⟩, ⟨⟨World.ownsRow_nil _ _ _ _⟩⟩, HM⟩
  case round =>
    clear HM
    obtain ⟨i, A, c, ts, tl, rfl, rfl, hi, hi2, htl, HA, HTR, HM⟩ := hrel
    by_cases h2 : i < z.length ∧ i < 20
    · obtain ⟨h2, h3⟩ := h2
      have h2' : (i : Int) < (z.length : Int) := by omega
      have h3' : (i : Int) < 20 := by omega
      obtain ⟨ad, rfl, hcell⟩ := HRd.out.at_ i (by omega) (by omega)
      rw [Int.toNat_natCast] at hcell
      have hcr := pw_cell_below HM.out.below hcell
      have HWF := Aside0.mk (HZ.out _ (rd_mem (z := z) (i := i) h2))
      generalize Go.Proofs.YtlndljgoliepdaaW.PrintWords.rd z i = b at hcr hcell HWF
      clear hcell
      obtain ⟨cc, hce⟩ : ∃ c, cnt ts = c := ⟨_, rfl⟩
      have hcl := cnt_le ts
      rw [hce, HA.out.len] at hcl
      obtain ⟨hc0, hc1⟩ := hcl
      have HCe := Aside0.mk hce
      clear hce
      go_wp2_with (first | (go_at_call 36; refine (place_any _ _ (by first | assumption | exact HWF.out) (by omega) _).mono ?_; rintro e wn ⟨rr, rfl, hre, hrl, hg⟩; replace HTR := Aside0.mk (HTR.out.same hg); replace HM := Aside0.mk (fs_same HM.out hg); clear hg hre) | (go_at_call 32; ((with_reducible refine (fs_free (ts := ts) HM.out _ HCe.out).mono ?_); rintro e wn ⟨rfl, hM, hg⟩; replace HTR := Aside0.mk (HTR.out.same hg); replace HM := Aside0.mk hM; clear hM hg)))
      obtain ⟨R, hR, hR1, hR2⟩ := runOf_size rr (by omega)
      have HR := Aside0.mk hR
      have hR1' : 1 ≤ (R : Int) := by omega
      have hR2' : (R : Int) ≤ 512 := by omega
      clear hR
      refine (fs_Take HM.out _ R HR.out hR1 hR2).mono ?_
      rintro e wn ⟨hk, (⟨rfl, hf, hx⟩ | ⟨x, rfl, hf, hx⟩)⟩
      · replace HTR := Aside0.mk (HTR.out.frk HM.out hk)
        replace HM := Aside0.mk hf
        clear hk hf hx
        go_wp2_with (first | (go_at_call 28; refine (frames_Run.calls _ (R : Int) _ (by rw [prog_run, HR.out])).mono ?_; rintro e wn ⟨rfl, hd⟩; have hg := drawn_grown hd; replace HTR := Aside0.mk (HTR.out.same hg); replace HM := Aside0.mk (fs_same HM.out hg); clear hd hg) | (go_at_call 32; ((with_reducible refine (fs_free (ts := ts) HM.out _ HCe.out).mono ?_); rintro e wn ⟨rfl, hM, hg⟩; replace HTR := Aside0.mk (HTR.out.same hg); replace HM := Aside0.mk hM; clear hM hg)))
        go_roundw
        case rel => exact ⟨i + 1, A, c, ts, tl, by go_num, rfl, by omega, by omega, by omega, HA, HTR, HM⟩
        case measure => simp [intOf]; omega
      · replace HTR := Aside0.mk (HTR.out.frk HM.out hk)
        replace HM := Aside0.mk hf
        obtain ⟨jj, hxe, hxl, hxf, _⟩ := hx
        have hxl' := hxl
        rw [HA.out.len] at hxl
        have hmod : ((x : Int) % (R : Int) != 0) = false := by
          have : (x : Int) % (R : Int) = ((x % R : Nat) : Int) := by simp
          rw [this, hxe, Nat.mul_mod_left]
          rfl
        have HCn := Aside0.mk (show cnt (setN ts x true R) = cc - R from by rw [← HCe.out]; exact cnt_take hxl' hxf)
        have HFX := Aside0.mk hxf
        clear hk hf hxe hxl' hxf
        go_wp2_with (first | (go_at_call 28; refine (frames_Run.calls _ (R : Int) _ (by rw [prog_run, HR.out])).mono ?_; rintro e wn ⟨rfl, hd⟩; have hg := drawn_grown hd; replace HTR := Aside0.mk (HTR.out.same hg); replace HM := Aside0.mk (fs_same HM.out hg); clear hd hg) | (go_at_call 32; ((with_reducible refine (fs_free (ts := setN ts x true R) HM.out _ HCn.out).mono ?_); rintro e wn ⟨rfl, hM, hg⟩; replace HTR := Aside0.mk (HTR.out.same hg); replace HM := Aside0.mk hM; clear hM hg)))
        go_loopw [13] (fun v13 wq => ∃ k : Nat, v13 = .int .i64 k ∧ k ≤ tl.length ∧ Aside0 (TRow w.heap.size A c tl wq) ∧ Aside0 (Fs w.heap.size w p r (setN ts x true R) wq)) (fun v13 _ => tl.length - (intOf v13).toNat)
        case atStart => exact ⟨0, rfl, by omega, HTR, HM⟩
        case round =>
          clear HTR HM
          obtain ⟨k, rfl, hk, HTR, HM⟩ := hrel
          by_cases hk2 : k < tl.length
          · have hk2' : (k : Int) < (tl.length : Int) := by omega
            have hk0 : (0 : Int) ≤ (k : Int) := by omega
            obtain ⟨g, rfl, c1, c2⟩ := HTR.out.at k hk2
            have hmem : tl.getD k (0, 0) ∈ tl := by simp [List.getD, hk2]
            generalize tl.getD k (0, 0) = y at hmem c1 c2
            obtain ⟨f, n⟩ := y
            simp only at c1 c2
            have hfar := HA.out.far hxl HFX.out (f, n) hmem hR1
            have hea := HA.out.each (f, n) hmem
            simp only at hfar hea
            clear hmem
            obtain ⟨he1, he2, he3⟩ := hea
            have hw1 : IntKind.i64.wrap ((f : Int) + (n : Int)) = (f : Int) + (n : Int) := IntWalk.i64_in _ (by omega)
            have hw2 : IntKind.i64.wrap ((x : Int) + (R : Int)) = (x : Int) + (R : Int) := IntWalk.i64_in _ (by omega)
            go_wp2
            refine start_ (n := 24) (S := fun w' => w'.cell? ⟨g, k * 2, none⟩ = some (.int .i64 (f : Nat)) ∧ w'.cell? ⟨g, k * 2 + 1, none⟩ = some (.int .i64 (n : Nat))) (ds := []) #[false, false, false, false, false, false, false, false, false, false, false, false, false, false, false, false, false, false, false, false, false, false, false, false] (by kernel_rfl) rfl rfl ⟨(World.cell?_of_block (w := wr) rfl).trans c1, (World.cell?_of_block (w := wr) rfl).trans c2⟩ (fun hHeld => ?_)
            refine with_tab apart23_tab (fun HT_ => ?_)
            refine pure_ (i := 0) (N := some 87) (v := ?_) (a' := ?_) #[true, false, false, false, false, false, false, false, false, false, false, false, false, false, false, false, false, false, false, false, false, false, false, false] rfl rfl (any_of HT_.out (by kernel_rfl)) (fun _ _ _ h => h) (Or.inl ⟨by rfl, ?_⟩) ?_ ?_
            rotate_left
            · intro w'
              go_simp
              with_reducible rfl
            rotate_left
            · simp only [Act.put, List.setIfInBounds_toArray, List.set_cons_zero, List.set_cons_succ, i64_w, i32_w]
              rfl
            refine pure_ (i := 1) (N := some 88) (v := ?_) (a' := ?_) #[true, true, false, false, false, false, false, false, false, false, false, false, false, false, false, false, false, false, false, false, false, false, false, false] rfl rfl (any_of HT_.out (by kernel_rfl)) (fun _ _ _ h => h) (Or.inl ⟨by rfl, ?_⟩) ?_ ?_
            rotate_left
            · intro w'
              go_simp
              with_reducible rfl
            rotate_left
            · simp only [Act.put, List.setIfInBounds_toArray, List.set_cons_zero, List.set_cons_succ, i64_w, i32_w]
              rfl
            refine pure_ (i := 2) (N := some 89) (v := ?_) (a' := ?_) #[true, true, true, false, false, false, false, false, false, false, false, false, false, false, false, false, false, false, false, false, false, false, false, false] rfl rfl (any_of HT_.out (by kernel_rfl)) (fun _ _ _ h => h) (Or.inl ⟨by rfl, ?_⟩) ?_ ?_
            rotate_left
            · intro w'
              go_simp
              with_reducible rfl
            rotate_left
            · simp only [Act.put, List.setIfInBounds_toArray, List.set_cons_zero, List.set_cons_succ, i64_w, i32_w]
              rfl
            refine pure_ (i := 3) (N := some 90) (v := ?_) (a' := ?_) #[true, true, true, true, false, false, false, false, false, false, false, false, false, false, false, false, false, false, false, false, false, false, false, false] rfl rfl (any_of HT_.out (by kernel_rfl)) (fun _ _ _ h => h) (Or.inl ⟨by rfl, ?_⟩) ?_ ?_
            rotate_left
            · intro w'
              go_simp
              with_reducible rfl
            rotate_left
            · simp only [Act.put, List.setIfInBounds_toArray, List.set_cons_zero, List.set_cons_succ, i64_w, i32_w]
              rfl
            refine pure_ (i := 4) (N := some 91) (v := ?_) (a' := ?_) #[true, true, true, true, true, false, false, false, false, false, false, false, false, false, false, false, false, false, false, false, false, false, false, false] rfl rfl (any_of HT_.out (by kernel_rfl)) (fun _ _ _ h => h) (Or.inl ⟨by rfl, ?_⟩) ?_ ?_
            rotate_left
            · intro w'
              go_simp
              with_reducible rfl
            rotate_left
            · simp only [Act.put, List.setIfInBounds_toArray, List.set_cons_zero, List.set_cons_succ, i64_w, i32_w]
              rfl
            refine pure_ (i := 6) (N := some 93) (v := ?_) (a' := ?_) #[true, true, true, true, true, false, true, false, false, false, false, false, false, false, false, false, false, false, false, false, false, false, false, false] rfl rfl (any_of HT_.out (by kernel_rfl)) (fun _ _ _ h => h) (Or.inl ⟨by rfl, ?_⟩) ?_ ?_
            rotate_left
            · intro w'
              go_simp
              with_reducible rfl
            rotate_left
            · simp only [Act.put, List.setIfInBounds_toArray, List.set_cons_zero, List.set_cons_succ, i64_w, i32_w]
              rfl
            refine pure_ (i := 7) (N := some 94) (v := ?_) (a' := ?_) #[true, true, true, true, true, false, true, true, false, false, false, false, false, false, false, false, false, false, false, false, false, false, false, false] rfl rfl (any_of HT_.out (by kernel_rfl)) (fun _ _ _ h => h) (Or.inl ⟨by rfl, ?_⟩) ?_ ?_
            rotate_left
            · intro w'
              go_simp
              with_reducible rfl
            rotate_left
            · simp only [Act.put, List.setIfInBounds_toArray, List.set_cons_zero, List.set_cons_succ, i64_w, i32_w]
              rfl
            refine pure_ (i := 8) (N := some 95) (v := ?_) (a' := ?_) #[true, true, true, true, true, false, true, true, true, false, false, false, false, false, false, false, false, false, false, false, false, false, false, false] rfl rfl (any_of HT_.out (by kernel_rfl)) (fun _ _ _ h => h) (Or.inl ⟨by rfl, ?_⟩) ?_ ?_
            rotate_left
            · intro w'
              go_simp
              with_reducible rfl
            rotate_left
            · simp only [Act.put, List.setIfInBounds_toArray, List.set_cons_zero, List.set_cons_succ, i64_w, i32_w]
              rfl
            refine pure_ (i := 9) (N := some 96) (v := ?_) (a' := ?_) #[true, true, true, true, true, false, true, true, true, true, false, false, false, false, false, false, false, false, false, false, false, false, false, false] rfl rfl (any_of HT_.out (by kernel_rfl)) (fun _ _ _ h => h) (Or.inl ⟨by rfl, ?_⟩) ?_ ?_
            rotate_left
            · intro w'
              go_simp
              with_reducible rfl
            rotate_left
            · simp only [Act.put, List.setIfInBounds_toArray, List.set_cons_zero, List.set_cons_succ, i64_w, i32_w]
              rfl
            refine take_ (i := 5) (N := some 92) (v := ?_) (a' := ?_) #[true, true, true, true, true, true, true, true, true, true, false, false, false, false, false, false, false, false, false, false, false, false, false, false] rfl rfl (take_of HT_.out (by kernel_rfl)) (fun _ _ _ h => h) (Or.inl ⟨by rfl, ?_⟩) hHeld ?_ ?_
            rotate_left
            · rintro w' ⟨s1, s2⟩
              go_simp
              with_reducible rfl
            rotate_left
            · simp only [Act.put, List.setIfInBounds_toArray, List.set_cons_zero, List.set_cons_succ, i64_w, i32_w]
              rfl
            refine take_ (i := 10) (N := some 97) (v := ?_) (a' := ?_) #[true, true, true, true, true, true, true, true, true, true, true, false, false, false, false, false, false, false, false, false, false, false, false, false] rfl rfl (take_of HT_.out (by kernel_rfl)) (fun _ _ _ h => h) (Or.inl ⟨by rfl, ?_⟩) hHeld ?_ ?_
            rotate_left
            · rintro w' ⟨s1, s2⟩
              go_simp
              with_reducible rfl
            rotate_left
            · simp only [Act.put, List.setIfInBounds_toArray, List.set_cons_zero, List.set_cons_succ, i64_w, i32_w]
              rfl
            refine pure_ (i := 11) (N := some 98) (v := ?_) (a' := ?_) #[true, true, true, true, true, true, true, true, true, true, true, true, false, false, false, false, false, false, false, false, false, false, false, false] rfl rfl (any_of HT_.out (by kernel_rfl)) (fun _ _ _ h => h) (Or.inl ⟨by rfl, ?_⟩) ?_ ?_
            rotate_left
            · intro w'
              go_simp
              with_reducible rfl
            rotate_left
            · simp only [Act.put, List.setIfInBounds_toArray, List.set_cons_zero, List.set_cons_succ, i64_w, i32_w]
              rfl
            by_cases hc1 : x < f + n
            · have hc1' : (x : Int) < (f : Int) + (n : Int) := by omega
              have hc2' : ¬ (f : Int) < (x : Int) + (R : Int) := by omega
              refine pure_ (i := 12) (N := some 99) (v := ?_) (a' := ?_) #[true, true, true, true, true, true, true, true, true, true, true, true, true, false, false, false, false, false, false, false, false, false, false, false] rfl rfl (any_of HT_.out (by kernel_rfl)) (fun _ _ _ h => h) (Or.inl ⟨by rfl, ?_⟩) ?_ ?_
              rotate_left
              · intro w'
                go_simp
                with_reducible rfl
              rotate_left
              · simp only [Act.put, List.setIfInBounds_toArray, List.set_cons_zero, List.set_cons_succ, i64_w, i32_w]
                rfl
              refine pure_ (i := 13) (N := some 100) (v := ?_) (a' := ?_) #[true, true, true, true, true, true, true, true, true, true, true, true, true, true, false, false, false, false, false, false, false, false, false, false] rfl rfl (any_of HT_.out (by kernel_rfl)) (fun _ _ _ h => h) (Or.inl ⟨by rfl, ?_⟩) ?_ ?_
              rotate_left
              · intro w'
                go_simp
                with_reducible rfl
              rotate_left
              · simp only [Act.put, List.setIfInBounds_toArray, List.set_cons_zero, List.set_cons_succ, i64_w, i32_w]
                rfl
              refine pure_ (i := 14) (N := some 101) (v := ?_) (a' := ?_) #[true, true, true, true, true, true, true, true, true, true, true, true, true, true, true, false, false, false, false, false, false, false, false, false] rfl rfl (any_of HT_.out (by kernel_rfl)) (fun _ _ _ h => h) (Or.inl ⟨by rfl, ?_⟩) ?_ ?_
              rotate_left
              · intro w'
                go_simp
                with_reducible rfl
              rotate_left
              · simp only [Act.put, List.setIfInBounds_toArray, List.set_cons_zero, List.set_cons_succ, i64_w, i32_w]
                rfl
              refine pure_ (i := 15) (N := some 102) (v := ?_) (a' := ?_) #[true, true, true, true, true, true, true, true, true, true, true, true, true, true, true, true, false, false, false, false, false, false, false, false] rfl rfl (any_of HT_.out (by kernel_rfl)) (fun _ _ _ h => h) (Or.inl ⟨by rfl, ?_⟩) ?_ ?_
              rotate_left
              · intro w'
                go_simp
                with_reducible rfl
              rotate_left
              · simp only [Act.put, List.setIfInBounds_toArray, List.set_cons_zero, List.set_cons_succ, i64_w, i32_w]
                rfl
              refine pure_ (i := 16) (N := some 103) (v := ?_) (a' := ?_) #[true, true, true, true, true, true, true, true, true, true, true, true, true, true, true, true, true, false, false, false, false, false, false, false] rfl rfl (any_of HT_.out (by kernel_rfl)) (fun _ _ _ h => h) (Or.inl ⟨by rfl, ?_⟩) ?_ ?_
              rotate_left
              · intro w'
                go_simp
                with_reducible rfl
              rotate_left
              · simp only [Act.put, List.setIfInBounds_toArray, List.set_cons_zero, List.set_cons_succ, i64_w, i32_w]
                rfl
              refine pure_ (i := 17) (N := some 104) (v := ?_) (a' := ?_) #[true, true, true, true, true, true, true, true, true, true, true, true, true, true, true, true, true, true, false, false, false, false, false, false] rfl rfl (any_of HT_.out (by kernel_rfl)) (fun _ _ _ h => h) (Or.inl ⟨by rfl, ?_⟩) ?_ ?_
              rotate_left
              · intro w'
                go_simp
                with_reducible rfl
              rotate_left
              · simp only [Act.put, List.setIfInBounds_toArray, List.set_cons_zero, List.set_cons_succ, i64_w, i32_w]
                rfl
              refine pure_ (i := 19) (N := some 106) (v := ?_) (a' := ?_) #[true, true, true, true, true, true, true, true, true, true, true, true, true, true, true, true, true, true, false, true, false, false, false, false] rfl rfl (any_of HT_.out (by kernel_rfl)) (fun _ _ _ h => h) (Or.inl ⟨by rfl, ?_⟩) ?_ ?_
              rotate_left
              · intro w'
                go_simp
                with_reducible rfl
              rotate_left
              · simp only [Act.put, List.setIfInBounds_toArray, List.set_cons_zero, List.set_cons_succ, i64_w, i32_w]
                rfl
              refine pure_ (i := 20) (N := some 107) (v := ?_) (a' := ?_) #[true, true, true, true, true, true, true, true, true, true, true, true, true, true, true, true, true, true, false, true, true, false, false, false] rfl rfl (any_of HT_.out (by kernel_rfl)) (fun _ _ _ h => h) (Or.inl ⟨by rfl, ?_⟩) ?_ ?_
              rotate_left
              · intro w'
                go_simp
                with_reducible rfl
              rotate_left
              · simp only [Act.put, List.setIfInBounds_toArray, List.set_cons_zero, List.set_cons_succ, i64_w, i32_w]
                rfl
              refine pure_ (i := 21) (N := some 108) (v := ?_) (a' := ?_) #[true, true, true, true, true, true, true, true, true, true, true, true, true, true, true, true, true, true, false, true, true, true, false, false] rfl rfl (any_of HT_.out (by kernel_rfl)) (fun _ _ _ h => h) (Or.inl ⟨by rfl, ?_⟩) ?_ ?_
              rotate_left
              · intro w'
                go_simp
                with_reducible rfl
              rotate_left
              · simp only [Act.put, List.setIfInBounds_toArray, List.set_cons_zero, List.set_cons_succ, i64_w, i32_w]
                rfl
              refine take_ (i := 18) (N := some 105) (v := ?_) (a' := ?_) #[true, true, true, true, true, true, true, true, true, true, true, true, true, true, true, true, true, true, true, true, true, true, false, false] rfl rfl (take_of HT_.out (by kernel_rfl)) (fun _ _ _ h => h) (Or.inl ⟨by rfl, ?_⟩) hHeld ?_ ?_
              rotate_left
              · rintro w' ⟨s1, s2⟩
                go_simp
                with_reducible rfl
              rotate_left
              · simp only [Act.put, List.setIfInBounds_toArray, List.set_cons_zero, List.set_cons_succ, i64_w, i32_w]
                rfl
              refine pure_ (i := 22) (N := some 109) (v := ?_) (a' := ?_) #[true, true, true, true, true, true, true, true, true, true, true, true, true, true, true, true, true, true, true, true, true, true, true, false] rfl rfl (any_of HT_.out (by kernel_rfl)) (fun _ _ _ h => h) (Or.inl ⟨by rfl, ?_⟩) ?_ ?_
              rotate_left
              · intro w'
                go_simp
                with_reducible rfl
              rotate_left
              · simp only [Act.put, List.setIfInBounds_toArray, List.set_cons_zero, List.set_cons_succ, i64_w, i32_w]
                rfl
              refine pure_ (i := 23) (N := some 110) (v := ?_) (a' := ?_) #[true, true, true, true, true, true, true, true, true, true, true, true, true, true, true, true, true, true, true, true, true, true, true, true] rfl rfl (any_of HT_.out (by kernel_rfl)) (fun _ _ _ h => h) (Or.inl ⟨by rfl, ?_⟩) ?_ ?_
              rotate_left
              · intro w'
                go_simp
                with_reducible rfl
              rotate_left
              · simp only [Act.put, List.setIfInBounds_toArray, List.set_cons_zero, List.set_cons_succ, i64_w, i32_w]
                rfl
              refine done_ (done_of HT_.out (by kernel_rfl)) ?_
              clear hw1 hw2
              go_wp2
              go_roundw
              case rel => exact ⟨k + 1, by go_num, by omega, ⟨HTR.out.same (grown_drew _ _)⟩, ⟨fs_same HM.out (grown_drew _ _)⟩⟩
              case measure => simp [intOf]; omega
            · have hc1' : ¬ (x : Int) < (f : Int) + (n : Int) := by omega
              refine pure_ (i := 12) (N := some 99) (v := ?_) (a' := ?_) #[true, true, true, true, true, true, true, true, true, true, true, true, true, false, false, false, false, false, false, false, false, false, false, false] rfl rfl (any_of HT_.out (by kernel_rfl)) (fun _ _ _ h => h) (Or.inl ⟨by rfl, ?_⟩) ?_ ?_
              rotate_left
              · intro w'
                go_simp
                with_reducible rfl
              rotate_left
              · simp only [Act.put, List.setIfInBounds_toArray, List.set_cons_zero, List.set_cons_succ, i64_w, i32_w]
                rfl
              refine pure_ (i := 13) (N := some 100) (v := ?_) (a' := ?_) #[true, true, true, true, true, true, true, true, true, true, true, true, true, true, false, false, false, false, false, false, false, false, false, false] rfl rfl (any_of HT_.out (by kernel_rfl)) (fun _ _ _ h => h) (Or.inl ⟨by rfl, ?_⟩) ?_ ?_
              rotate_left
              · intro w'
                go_simp
                with_reducible rfl
              rotate_left
              · simp only [Act.put, List.setIfInBounds_toArray, List.set_cons_zero, List.set_cons_succ, i64_w, i32_w]
                rfl
              refine pure_ (i := 14) (N := some 101) (v := undef) (a' := ?_) #[true, true, true, true, true, true, true, true, true, true, true, true, true, true, true, false, false, false, false, false, false, false, false, false] rfl rfl (any_of HT_.out (by kernel_rfl)) (fun _ _ _ h => h) (Or.inr ⟨by rfl, rfl⟩) ?_ ?_
              rotate_left
              · simp only [Act.put, List.setIfInBounds_toArray, List.set_cons_zero, List.set_cons_succ, i64_w, i32_w]
                rfl
              refine pure_ (i := 15) (N := some 102) (v := undef) (a' := ?_) #[true, true, true, true, true, true, true, true, true, true, true, true, true, true, true, true, false, false, false, false, false, false, false, false] rfl rfl (any_of HT_.out (by kernel_rfl)) (fun _ _ _ h => h) (Or.inr ⟨by rfl, rfl⟩) ?_ ?_
              rotate_left
              · simp only [Act.put, List.setIfInBounds_toArray, List.set_cons_zero, List.set_cons_succ, i64_w, i32_w]
                rfl
              refine pure_ (i := 16) (N := some 103) (v := undef) (a' := ?_) #[true, true, true, true, true, true, true, true, true, true, true, true, true, true, true, true, true, false, false, false, false, false, false, false] rfl rfl (any_of HT_.out (by kernel_rfl)) (fun _ _ _ h => h) (Or.inr ⟨by rfl, rfl⟩) ?_ ?_
              rotate_left
              · simp only [Act.put, List.setIfInBounds_toArray, List.set_cons_zero, List.set_cons_succ, i64_w, i32_w]
                rfl
              refine pure_ (i := 17) (N := some 104) (v := undef) (a' := ?_) #[true, true, true, true, true, true, true, true, true, true, true, true, true, true, true, true, true, true, false, false, false, false, false, false] rfl rfl (any_of HT_.out (by kernel_rfl)) (fun _ _ _ h => h) (Or.inr ⟨by rfl, rfl⟩) ?_ ?_
              rotate_left
              · simp only [Act.put, List.setIfInBounds_toArray, List.set_cons_zero, List.set_cons_succ, i64_w, i32_w]
                rfl
              refine pure_ (i := 18) (N := some 105) (v := undef) (a' := ?_) #[true, true, true, true, true, true, true, true, true, true, true, true, true, true, true, true, true, true, true, false, false, false, false, false] rfl rfl (any_of HT_.out (by kernel_rfl)) (fun _ _ _ h => h) (Or.inr ⟨by rfl, rfl⟩) ?_ ?_
              rotate_left
              · simp only [Act.put, List.setIfInBounds_toArray, List.set_cons_zero, List.set_cons_succ, i64_w, i32_w]
                rfl
              refine pure_ (i := 19) (N := some 106) (v := undef) (a' := ?_) #[true, true, true, true, true, true, true, true, true, true, true, true, true, true, true, true, true, true, true, true, false, false, false, false] rfl rfl (any_of HT_.out (by kernel_rfl)) (fun _ _ _ h => h) (Or.inr ⟨by rfl, rfl⟩) ?_ ?_
              rotate_left
              · simp only [Act.put, List.setIfInBounds_toArray, List.set_cons_zero, List.set_cons_succ, i64_w, i32_w]
                rfl
              refine pure_ (i := 20) (N := some 107) (v := undef) (a' := ?_) #[true, true, true, true, true, true, true, true, true, true, true, true, true, true, true, true, true, true, true, true, true, false, false, false] rfl rfl (any_of HT_.out (by kernel_rfl)) (fun _ _ _ h => h) (Or.inr ⟨by rfl, rfl⟩) ?_ ?_
              rotate_left
              · simp only [Act.put, List.setIfInBounds_toArray, List.set_cons_zero, List.set_cons_succ, i64_w, i32_w]
                rfl
              refine pure_ (i := 21) (N := some 108) (v := undef) (a' := ?_) #[true, true, true, true, true, true, true, true, true, true, true, true, true, true, true, true, true, true, true, true, true, true, false, false] rfl rfl (any_of HT_.out (by kernel_rfl)) (fun _ _ _ h => h) (Or.inr ⟨by rfl, rfl⟩) ?_ ?_
              rotate_left
              · simp only [Act.put, List.setIfInBounds_toArray, List.set_cons_zero, List.set_cons_succ, i64_w, i32_w]
                rfl
              refine pure_ (i := 22) (N := some 109) (v := undef) (a' := ?_) #[true, true, true, true, true, true, true, true, true, true, true, true, true, true, true, true, true, true, true, true, true, true, true, false] rfl rfl (any_of HT_.out (by kernel_rfl)) (fun _ _ _ h => h) (Or.inr ⟨by rfl, rfl⟩) ?_ ?_
              rotate_left
              · simp only [Act.put, List.setIfInBounds_toArray, List.set_cons_zero, List.set_cons_succ, i64_w, i32_w]
                rfl
              refine pure_ (i := 23) (N := some 110) (v := ?_) (a' := ?_) #[true, true, true, true, true, true, true, true, true, true, true, true, true, true, true, true, true, true, true, true, true, true, true, true] rfl rfl (any_of HT_.out (by kernel_rfl)) (fun _ _ _ h => h) (Or.inl ⟨by rfl, ?_⟩) ?_ ?_
              rotate_left
              · intro w'
                go_simp
                with_reducible rfl
              rotate_left
              · simp only [Act.put, List.setIfInBounds_toArray, List.set_cons_zero, List.set_cons_succ, i64_w, i32_w]
                rfl
              refine done_ (done_of HT_.out (by kernel_rfl)) ?_
              clear hw1 hw2
              go_wp2
              go_roundw
              case rel => exact ⟨k + 1, by go_num, by omega, ⟨HTR.out.same (grown_drew _ _)⟩, ⟨fs_same HM.out (grown_drew _ _)⟩⟩
              case measure => simp [intOf]; omega
          · obtain rfl : k = tl.length := by omega
            go_wp2_with (first | (at_builtin; refine wpList_append_own _ rfl _ _ 68 rfl w.heap.size 70 i0 (.agg #[.int .i64 0, .int .i64 0]) 2 16 Try.underlying68 HI0.out.1 HI0.out.2.1 HI0.out.2.2.1 HI0.out.2.2.2 rfl (by decide) _ _ _ rfl (HTR.out.own.alloc _) ⟨wr.heap.size, 0, none⟩ 1 1 [.int .i64 (x : Nat), .int .i64 (R : Nat)] rfl rfl (two_new _ _ _ _) (by simp [Value.oneCell']) (by unfold maxLen; omega) (by omega) (by have := HM.out.below.size; simp; omega) ?_; intro v' w2 hown' hgrow _))
            obtain ⟨g', cap', rfl⟩ := ownsRow_succ hown'
            have HA2 := Aside0.mk (HA.out.took hxl HFX.out hR1 hR2)
            have HF2 := Aside0.mk ((HTR.out.same (World.grownBy_alloc wr (.cells #[.int .i64 (x : Nat), .int .i64 (R : Nat)] 70) none)).fs (fs_same HM.out (World.grownBy_alloc wr (.cells #[.int .i64 (x : Nat), .int .i64 (R : Nat)] 70) none)) hgrow)
            go_roundw
            case rel => exact ⟨i + 1, some ⟨g', 0, none⟩, cap', setN ts x true R, tl ++ [(x, R)], by go_num, by simp, by omega, by omega, by simp; omega, HA2, ⟨⟨by rw [vals_snoc]; simpa using hown'⟩⟩, HF2⟩
            case measure => simp [intOf]; omega
    · go_wp2
      all_goals
        go_loopw [14] (fun v14 wr => ∃ (k : Nat) (ts : List Bool), v14 = .int .i64 k ∧ k ≤ tl.length ∧ Aside0 (AP N ts (tl.drop k)) ∧ Aside0 (TRow w.heap.size A c tl wr) ∧ Aside0 (Fs w.heap.size w p r ts wr)) (fun v14 _ => tl.length - (intOf v14).toNat)
        case atStart => exact ⟨0, ts, rfl, by omega, HA, HTR, HM⟩
        case round =>
          clear HTR HM HA
          obtain ⟨k, ts, rfl, hk, HA, HTR, HM⟩ := hrel
          by_cases hk2 : k < tl.length
          · have hk2' : (k : Int) < (tl.length : Int) := by omega
            have hk0 : (0 : Int) ≤ (k : Int) := by omega
            obtain ⟨g, rfl, c1, c2⟩ := HTR.out.at k hk2
            have hdr : tl.drop k = tl.getD k (0, 0) :: tl.drop (k + 1) := by
              rw [List.drop_eq_getElem_cons hk2]
              simp [List.getD, hk2]
            rw [hdr] at HA
            clear hdr
            generalize tl.getD k (0, 0) = y at HA c1 c2
            obtain ⟨f, n⟩ := y
            simp only at c1 c2
            have hea := HA.out.each (f, n) (by simp)
            simp only at hea
            obtain ⟨he1, he2, he3⟩ := hea
            have HGp := Aside0.mk (HTR.out.nes HM.out)
            go_wp2
            refine start_ (n := 28) (S := fun w' => w'.cell? ⟨g, k * 2, none⟩ = some (.int .i64 (f : Nat)) ∧ w'.cell? ⟨g, k * 2 + 1, none⟩ = some (.int .i64 (n : Nat))) (ds := []) #[false, false, false, false, false, false, false, false, false, false, false, false, false, false, false, false, false, false, false, false, false, false, false, false, false, false, false, false] (by kernel_rfl) rfl rfl ⟨(World.cell?_of_block (w := wr) rfl).trans c1, (World.cell?_of_block (w := wr) rfl).trans c2⟩ (fun hHeld => ?_)
            have HTR0 := Aside0.mk (HTR.out.same (grown_drew _ none))
            have HM0 := Aside0.mk (fs_same HM.out (grown_drew _ none))
            refine with_tab apart29_tab (fun HT_ => ?_)
            refine pure_ (i := 0) (N := some 123) (v := ?_) (a' := ?_) #[true, false, false, false, false, false, false, false, false, false, false, false, false, false, false, false, false, false, false, false, false, false, false, false, false, false, false, false] rfl rfl (any_of HT_.out (by kernel_rfl)) (fun _ _ _ h => h) (Or.inl ⟨by rfl, ?_⟩) ?_ ?_
            rotate_left
            · intro w'
              go_simp
              with_reducible rfl
            rotate_left
            · simp only [Act.put, List.setIfInBounds_toArray, List.set_cons_zero, List.set_cons_succ, i64_w, i32_w]
              rfl
            refine pure_ (i := 1) (N := some 124) (v := ?_) (a' := ?_) #[true, true, false, false, false, false, false, false, false, false, false, false, false, false, false, false, false, false, false, false, false, false, false, false, false, false, false, false] rfl rfl (any_of HT_.out (by kernel_rfl)) (fun _ _ _ h => h) (Or.inl ⟨by rfl, ?_⟩) ?_ ?_
            rotate_left
            · intro w'
              go_simp
              with_reducible rfl
            rotate_left
            · simp only [Act.put, List.setIfInBounds_toArray, List.set_cons_zero, List.set_cons_succ, i64_w, i32_w]
              rfl
            refine pure_ (i := 2) (N := some 125) (v := ?_) (a' := ?_) #[true, true, true, false, false, false, false, false, false, false, false, false, false, false, false, false, false, false, false, false, false, false, false, false, false, false, false, false] rfl rfl (any_of HT_.out (by kernel_rfl)) (fun _ _ _ h => h) (Or.inl ⟨by rfl, ?_⟩) ?_ ?_
            rotate_left
            · intro w'
              go_simp
              with_reducible rfl
            rotate_left
            · simp only [Act.put, List.setIfInBounds_toArray, List.set_cons_zero, List.set_cons_succ, i64_w, i32_w]
              rfl
            refine pure_ (i := 3) (N := some 126) (v := ?_) (a' := ?_) #[true, true, true, true, false, false, false, false, false, false, false, false, false, false, false, false, false, false, false, false, false, false, false, false, false, false, false, false] rfl rfl (any_of HT_.out (by kernel_rfl)) (fun _ _ _ h => h) (Or.inl ⟨by rfl, ?_⟩) ?_ ?_
            rotate_left
            · intro w'
              go_simp
              with_reducible rfl
            rotate_left
            · simp only [Act.put, List.setIfInBounds_toArray, List.set_cons_zero, List.set_cons_succ, i64_w, i32_w]
              rfl
            refine pure_ (i := 4) (N := some 127) (v := ?_) (a' := ?_) #[true, true, true, true, true, false, false, false, false, false, false, false, false, false, false, false, false, false, false, false, false, false, false, false, false, false, false, false] rfl rfl (any_of HT_.out (by kernel_rfl)) (fun _ _ _ h => h) (Or.inl ⟨by rfl, ?_⟩) ?_ ?_
            rotate_left
            · intro w'
              go_simp
              with_reducible rfl
            rotate_left
            · simp only [Act.put, List.setIfInBounds_toArray, List.set_cons_zero, List.set_cons_succ, i64_w, i32_w]
              rfl
            refine pure_ (i := 6) (N := some 129) (v := ?_) (a' := ?_) #[true, true, true, true, true, false, true, false, false, false, false, false, false, false, false, false, false, false, false, false, false, false, false, false, false, false, false, false] rfl rfl (any_of HT_.out (by kernel_rfl)) (fun _ _ _ h => h) (Or.inl ⟨by rfl, ?_⟩) ?_ ?_
            rotate_left
            · intro w'
              go_simp
              with_reducible rfl
            rotate_left
            · simp only [Act.put, List.setIfInBounds_toArray, List.set_cons_zero, List.set_cons_succ, i64_w, i32_w]
              rfl
            refine pure_ (i := 7) (N := some 130) (v := ?_) (a' := ?_) #[true, true, true, true, true, false, true, true, false, false, false, false, false, false, false, false, false, false, false, false, false, false, false, false, false, false, false, false] rfl rfl (any_of HT_.out (by kernel_rfl)) (fun _ _ _ h => h) (Or.inl ⟨by rfl, ?_⟩) ?_ ?_
            rotate_left
            · intro w'
              go_simp
              with_reducible rfl
            rotate_left
            · simp only [Act.put, List.setIfInBounds_toArray, List.set_cons_zero, List.set_cons_succ, i64_w, i32_w]
              rfl
            refine pure_ (i := 8) (N := some 131) (v := ?_) (a' := ?_) #[true, true, true, true, true, false, true, true, true, false, false, false, false, false, false, false, false, false, false, false, false, false, false, false, false, false, false, false] rfl rfl (any_of HT_.out (by kernel_rfl)) (fun _ _ _ h => h) (Or.inl ⟨by rfl, ?_⟩) ?_ ?_
            rotate_left
            · intro w'
              go_simp
              with_reducible rfl
            rotate_left
            · simp only [Act.put, List.setIfInBounds_toArray, List.set_cons_zero, List.set_cons_succ, i64_w, i32_w]
              rfl
            refine pure_ (i := 9) (N := some 132) (v := ?_) (a' := ?_) #[true, true, true, true, true, false, true, true, true, true, false, false, false, false, false, false, false, false, false, false, false, false, false, false, false, false, false, false] rfl rfl (any_of HT_.out (by kernel_rfl)) (fun _ _ _ h => h) (Or.inl ⟨by rfl, ?_⟩) ?_ ?_
            rotate_left
            · intro w'
              go_simp
              with_reducible rfl
            rotate_left
            · simp only [Act.put, List.setIfInBounds_toArray, List.set_cons_zero, List.set_cons_succ, i64_w, i32_w]
              rfl
            refine take_ (i := 5) (N := some 128) (v := ?_) (a' := ?_) #[true, true, true, true, true, true, true, true, true, true, false, false, false, false, false, false, false, false, false, false, false, false, false, false, false, false, false, false] rfl rfl (take_of HT_.out (by kernel_rfl)) (fun _ _ _ h => h) (Or.inl ⟨by rfl, ?_⟩) hHeld ?_ ?_
            rotate_left
            · rintro w' ⟨s1, s2⟩
              go_simp
              with_reducible rfl
            rotate_left
            · simp only [Act.put, List.setIfInBounds_toArray, List.set_cons_zero, List.set_cons_succ, i64_w, i32_w]
              rfl
            refine take_ (i := 10) (N := some 133) (v := ?_) (a' := ?_) #[true, true, true, true, true, true, true, true, true, true, true, false, false, false, false, false, false, false, false, false, false, false, false, false, false, false, false, false] rfl rfl (take_of HT_.out (by kernel_rfl)) (fun _ _ _ h => h) (Or.inl ⟨by rfl, ?_⟩) hHeld ?_ ?_
            rotate_left
            · rintro w' ⟨s1, s2⟩
              go_simp
              with_reducible rfl
            rotate_left
            · simp only [Act.put, List.setIfInBounds_toArray, List.set_cons_zero, List.set_cons_succ, i64_w, i32_w]
              rfl
            refine one_ (i := 11) (N := some 134) #[true, true, true, true, true, true, true, true, true, true, true, true, false, false, false, false, false, false, false, false, false, false, false, false, false, false, false, false] rfl rfl (one_of HT_.out (by kernel_rfl)) (by decide) (fun K hK => ?_)
            refine goes_ Try.func38 (by kernel_rfl) rfl #[.pointer (some ⟨p, 0, none⟩), .int .i64 (f : Nat), .int .i64 (n : Nat)] (by rfl) rfl rfl (by (try simp only [List.map_toArray, List.map_cons, List.map_nil]); first | done | rfl) ?_
            refine (fs_give HM0.out _ _).mono ?_
            rintro e w1 ⟨rfl, hM, hk1⟩
            rw [HA.out.give1] at hM ⊢
            have HM1 := Aside0.mk hM
            have HTR1 := Aside0.mk (HTR0.out.frk HM0.out hk1)
            have hh := hHeld
            have q1 := cell_frk hk1 hh.1 (HGp.out g rfl)
            have q2 := cell_frk hk1 hh.2 (HGp.out g rfl)
            clear hM hh hk1
            refine ⟨_, rfl, ?_⟩
            refine hK.out _ _ ⟨q1, q2⟩ (fun hHeld => ?_)
            clear hK K
            refine norm_ (a' := ?_) ?_ ?_
            rotate_left
            · show Act.put _ (some 134) _ = _
              simp only [Act.put, List.setIfInBounds_toArray, List.set_cons_zero, List.set_cons_succ, i64_w, i32_w]
              rfl
            refine pure_ (i := 12) (N := some 135) (v := ?_) (a' := ?_) #[true, true, true, true, true, true, true, true, true, true, true, true, true, false, false, false, false, false, false, false, false, false, false, false, false, false, false, false] rfl rfl (any_of HT_.out (by kernel_rfl)) (fun _ _ _ h => h) (Or.inl ⟨by rfl, ?_⟩) ?_ ?_
            rotate_left
            · intro w'
              go_simp
              with_reducible rfl
            rotate_left
            · simp only [Act.put, List.setIfInBounds_toArray, List.set_cons_zero, List.set_cons_succ, i64_w, i32_w]
              rfl
            refine pure_ (i := 13) (N := some 136) (v := ?_) (a' := ?_) #[true, true, true, true, true, true, true, true, true, true, true, true, true, true, false, false, false, false, false, false, false, false, false, false, false, false, false, false] rfl rfl (any_of HT_.out (by kernel_rfl)) (fun _ _ _ h => h) (Or.inl ⟨by rfl, ?_⟩) ?_ ?_
            rotate_left
            · intro w'
              go_simp
              with_reducible rfl
            rotate_left
            · simp only [Act.put, List.setIfInBounds_toArray, List.set_cons_zero, List.set_cons_succ, i64_w, i32_w]
              rfl
            refine pure_ (i := 14) (N := some 137) (v := ?_) (a' := ?_) #[true, true, true, true, true, true, true, true, true, true, true, true, true, true, true, false, false, false, false, false, false, false, false, false, false, false, false, false] rfl rfl (any_of HT_.out (by kernel_rfl)) (fun _ _ _ h => h) (Or.inl ⟨by rfl, ?_⟩) ?_ ?_
            rotate_left
            · intro w'
              go_simp
              with_reducible rfl
            rotate_left
            · simp only [Act.put, List.setIfInBounds_toArray, List.set_cons_zero, List.set_cons_succ, i64_w, i32_w]
              rfl
            refine pure_ (i := 15) (N := some 138) (v := ?_) (a' := ?_) #[true, true, true, true, true, true, true, true, true, true, true, true, true, true, true, true, false, false, false, false, false, false, false, false, false, false, false, false] rfl rfl (any_of HT_.out (by kernel_rfl)) (fun _ _ _ h => h) (Or.inl ⟨by rfl, ?_⟩) ?_ ?_
            rotate_left
            · intro w'
              go_simp
              with_reducible rfl
            rotate_left
            · simp only [Act.put, List.setIfInBounds_toArray, List.set_cons_zero, List.set_cons_succ, i64_w, i32_w]
              rfl
            refine pure_ (i := 16) (N := some 139) (v := ?_) (a' := ?_) #[true, true, true, true, true, true, true, true, true, true, true, true, true, true, true, true, true, false, false, false, false, false, false, false, false, false, false, false] rfl rfl (any_of HT_.out (by kernel_rfl)) (fun _ _ _ h => h) (Or.inl ⟨by rfl, ?_⟩) ?_ ?_
            rotate_left
            · intro w'
              go_simp
              with_reducible rfl
            rotate_left
            · simp only [Act.put, List.setIfInBounds_toArray, List.set_cons_zero, List.set_cons_succ, i64_w, i32_w]
              rfl
            refine pure_ (i := 17) (N := some 140) (v := ?_) (a' := ?_) #[true, true, true, true, true, true, true, true, true, true, true, true, true, true, true, true, true, true, false, false, false, false, false, false, false, false, false, false] rfl rfl (any_of HT_.out (by kernel_rfl)) (fun _ _ _ h => h) (Or.inl ⟨by rfl, ?_⟩) ?_ ?_
            rotate_left
            · intro w'
              go_simp
              with_reducible rfl
            rotate_left
            · simp only [Act.put, List.setIfInBounds_toArray, List.set_cons_zero, List.set_cons_succ, i64_w, i32_w]
              rfl
            refine pure_ (i := 18) (N := some 141) (v := ?_) (a' := ?_) #[true, true, true, true, true, true, true, true, true, true, true, true, true, true, true, true, true, true, true, false, false, false, false, false, false, false, false, false] rfl rfl (any_of HT_.out (by kernel_rfl)) (fun _ _ _ h => h) (Or.inl ⟨by rfl, ?_⟩) ?_ ?_
            rotate_left
            · intro w'
              go_simp
              with_reducible rfl
            rotate_left
            · simp only [Act.put, List.setIfInBounds_toArray, List.set_cons_zero, List.set_cons_succ, i64_w, i32_w]
              rfl
            refine pure_ (i := 20) (N := some 143) (v := ?_) (a' := ?_) #[true, true, true, true, true, true, true, true, true, true, true, true, true, true, true, true, true, true, true, false, true, false, false, false, false, false, false, false] rfl rfl (any_of HT_.out (by kernel_rfl)) (fun _ _ _ h => h) (Or.inl ⟨by rfl, ?_⟩) ?_ ?_
            rotate_left
            · intro w'
              go_simp
              with_reducible rfl
            rotate_left
            · simp only [Act.put, List.setIfInBounds_toArray, List.set_cons_zero, List.set_cons_succ, i64_w, i32_w]
              rfl
            refine pure_ (i := 21) (N := some 144) (v := ?_) (a' := ?_) #[true, true, true, true, true, true, true, true, true, true, true, true, true, true, true, true, true, true, true, false, true, true, false, false, false, false, false, false] rfl rfl (any_of HT_.out (by kernel_rfl)) (fun _ _ _ h => h) (Or.inl ⟨by rfl, ?_⟩) ?_ ?_
            rotate_left
            · intro w'
              go_simp
              with_reducible rfl
            rotate_left
            · simp only [Act.put, List.setIfInBounds_toArray, List.set_cons_zero, List.set_cons_succ, i64_w, i32_w]
              rfl
            refine pure_ (i := 22) (N := some 145) (v := ?_) (a' := ?_) #[true, true, true, true, true, true, true, true, true, true, true, true, true, true, true, true, true, true, true, false, true, true, true, false, false, false, false, false] rfl rfl (any_of HT_.out (by kernel_rfl)) (fun _ _ _ h => h) (Or.inl ⟨by rfl, ?_⟩) ?_ ?_
            rotate_left
            · intro w'
              go_simp
              with_reducible rfl
            rotate_left
            · simp only [Act.put, List.setIfInBounds_toArray, List.set_cons_zero, List.set_cons_succ, i64_w, i32_w]
              rfl
            refine pure_ (i := 23) (N := some 146) (v := ?_) (a' := ?_) #[true, true, true, true, true, true, true, true, true, true, true, true, true, true, true, true, true, true, true, false, true, true, true, true, false, false, false, false] rfl rfl (any_of HT_.out (by kernel_rfl)) (fun _ _ _ h => h) (Or.inl ⟨by rfl, ?_⟩) ?_ ?_
            rotate_left
            · intro w'
              go_simp
              with_reducible rfl
            rotate_left
            · simp only [Act.put, List.setIfInBounds_toArray, List.set_cons_zero, List.set_cons_succ, i64_w, i32_w]
              rfl
            refine take_ (i := 19) (N := some 142) (v := ?_) (a' := ?_) #[true, true, true, true, true, true, true, true, true, true, true, true, true, true, true, true, true, true, true, true, true, true, true, true, false, false, false, false] rfl rfl (take_of HT_.out (by kernel_rfl)) (fun _ _ _ h => h) (Or.inl ⟨by rfl, ?_⟩) hHeld ?_ ?_
            rotate_left
            · rintro w' ⟨s1, s2⟩
              go_simp
              with_reducible rfl
            rotate_left
            · simp only [Act.put, List.setIfInBounds_toArray, List.set_cons_zero, List.set_cons_succ, i64_w, i32_w]
              rfl
            refine take_ (i := 24) (N := some 147) (v := ?_) (a' := ?_) #[true, true, true, true, true, true, true, true, true, true, true, true, true, true, true, true, true, true, true, true, true, true, true, true, true, false, false, false] rfl rfl (take_of HT_.out (by kernel_rfl)) (fun _ _ _ h => h) (Or.inl ⟨by rfl, ?_⟩) hHeld ?_ ?_
            rotate_left
            · rintro w' ⟨s1, s2⟩
              go_simp
              with_reducible rfl
            rotate_left
            · simp only [Act.put, List.setIfInBounds_toArray, List.set_cons_zero, List.set_cons_succ, i64_w, i32_w]
              rfl
            refine one_ (i := 25) (N := some 148) #[true, true, true, true, true, true, true, true, true, true, true, true, true, true, true, true, true, true, true, true, true, true, true, true, true, true, false, false] rfl rfl (one_of HT_.out (by kernel_rfl)) (by decide) (fun K hK => ?_)
            refine goes_ Try.func38 (by kernel_rfl) rfl #[.pointer (some ⟨p, 0, none⟩), .int .i64 (f : Nat), .int .i64 (n : Nat)] (by rfl) rfl rfl (by (try simp only [List.map_toArray, List.map_cons, List.map_nil]); first | done | rfl) ?_
            refine (fs_give HM1.out _ _).mono ?_
            rintro e w2 ⟨rfl, hM, hk2⟩
            rw [HA.out.give2] at hM ⊢
            have HM2 := Aside0.mk hM
            have HTR2 := Aside0.mk (HTR1.out.frk HM1.out hk2)
            have hh := hHeld
            have q1 := cell_frk hk2 hh.1 (HGp.out g rfl)
            have q2 := cell_frk hk2 hh.2 (HGp.out g rfl)
            clear hM hh hk2
            refine ⟨_, rfl, ?_⟩
            refine hK.out _ _ ⟨q1, q2⟩ (fun hHeld => ?_)
            clear hK K
            refine norm_ (a' := ?_) ?_ ?_
            rotate_left
            · show Act.put _ (some 148) _ = _
              simp only [Act.put, List.setIfInBounds_toArray, List.set_cons_zero, List.set_cons_succ, i64_w, i32_w]
              rfl
            refine pure_ (i := 26) (N := some 149) (v := ?_) (a' := ?_) #[true, true, true, true, true, true, true, true, true, true, true, true, true, true, true, true, true, true, true, true, true, true, true, true, true, true, true, false] rfl rfl (any_of HT_.out (by kernel_rfl)) (fun _ _ _ h => h) (Or.inl ⟨by rfl, ?_⟩) ?_ ?_
            rotate_left
            · intro w'
              go_simp
              with_reducible rfl
            rotate_left
            · simp only [Act.put, List.setIfInBounds_toArray, List.set_cons_zero, List.set_cons_succ, i64_w, i32_w]
              rfl
            refine pure_ (i := 27) (N := some 150) (v := ?_) (a' := ?_) #[true, true, true, true, true, true, true, true, true, true, true, true, true, true, true, true, true, true, true, true, true, true, true, true, true, true, true, true] rfl rfl (any_of HT_.out (by kernel_rfl)) (fun _ _ _ h => h) (Or.inl ⟨by rfl, ?_⟩) ?_ ?_
            rotate_left
            · intro w'
              go_simp
              with_reducible rfl
            rotate_left
            · simp only [Act.put, List.setIfInBounds_toArray, List.set_cons_zero, List.set_cons_succ, i64_w, i32_w]
              rfl
            refine done_ (done_of HT_.out (by kernel_rfl)) ?_
            go_wp2
            go_roundw
            case rel => exact ⟨k + 1, setN ts f false n, by go_num, by omega, ⟨HA.out.give⟩, HTR2, HM2⟩
            case measure => simp [intOf]; omega
          · obtain rfl : k = tl.length := by omega
            have hz := HA.out
            rw [List.drop_length] at hz
            obtain rfl := hz.free
            have HLg := Aside0.mk (longest_new_f N (by omega) (cnt (List.replicate N false)))
            have HLi := Aside0.mk (list_f (List.replicate N false) (by simp; omega) (cnt (List.replicate N false)))
            rw [tk_free] at HLi
            have HCf := Aside0.mk (cnt_new N)
            clear hz HTR
            go_wp2_with (first | (go_at_call 32; refine (fs_free HM.out _ HCf.out).mono ?_; rintro e wn ⟨rfl, hM, hg⟩; replace HM := Aside0.mk hM; clear hM hg) | (go_at_call 33; refine (fs_longest HM.out 70000 _ HLg.out).mono ?_; rintro e wn ⟨rfl, hM, hg⟩; replace HM := Aside0.mk hM; clear hM hg) | (go_at_call 40; refine (fs_list HM.out 70000 _ HLi.out).mono ?_; rintro e wn ⟨⟨v0, rfl, hO⟩, hM, hg⟩; replace HM := Aside0.mk hM; clear hM hg; obtain ⟨Al, cl, rfl, _, _⟩ := Kd.R_reads hO; clear hO) | (go_at_call 35; refine (lives_calls _).mono ?_; rintro e wn ⟨rfl, hg⟩; replace HM := Aside0.mk (fs_same HM.out hg); clear hg))
            all_goals
              go_ret
              exact ⟨rfl, HM.out.below⟩
end
end Go.Proofs.Ytlndljgoliepdaa.QFramesPlays
