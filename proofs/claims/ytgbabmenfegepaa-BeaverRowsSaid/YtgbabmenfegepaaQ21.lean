-- Laid by a program of this session (wip/myprint.py) in the form of the kit's print; a text of this claim, checked by Lean like any other.
import Derived.Test.YtgbabmenfegepaaQ0
import Derived.Test.YtgbabmenfegepaaQ17
namespace Go.Proofs.Ytgbabmenfegepaa.Q
open Go.RowKit Go.Proofs.YtgbabmenfegepaaW.PrintWords Go.Proofs.YtgbabmenfegepaaW.PrintLast Go.Proofs.YtgbabmenfegepaaW.PrintMore
attribute [local go_sem] max2_int min2_int max_two min_two max_three min_three max_four min_four   -- for this text's walks alone
set_option linter.unusedVariables false
set_option linter.unusedSimpArgs false

/-! ### symbolonref11_Row: function 17 -/
def symbolonref11_Row.l0 : Nat → Int → Int → Int → Int → List (S24) → Int → Option ((List (S24)))
  | 0, _, _, _, _, _, _ => none
  | k + 1, x0, x1, x2, x3, x9, x10 => if x10 < x3 then (if x3 ≤ 4096 then ((symbolonref11_Half.f x0 x1 (IntKind.u64.wrap (x2 + (IntKind.u64.wrap (x10))))).bind fun bt241 => (if x9.length < 5864062014805 then (symbolonref11_Row.l0 k x0 x1 x2 x3 (x9 ++ [(⟨bt241.1, bt241.2.1, bt241.2.2⟩ : S24)]) (wrap64 (x10 + 1))) else (none))) else (some x9)) else (some x9)
def symbolonref11_Row.f (k : Nat) (a0 : Int) (a1 : Int) (a2 : Int) (a3 : Int) : Option ((List (S24))) := symbolonref11_Row.l0 k a0 a1 a2 a3 ([] : List (S24)) 0
theorem symbolonref11_Row.mono_l : ∀ k, (∀ y0 y1 y2 y3 y4 y5, LeO (symbolonref11_Row.l0 k y0 y1 y2 y3 y4 y5) (symbolonref11_Row.l0 (k + 1) y0 y1 y2 y3 y4 y5))
  | 0 => fun _ _ _ _ _ _ r h => by simp [symbolonref11_Row.l0] at h
  | k + 1 => by
    have ih0 := symbolonref11_Row.mono_l k
    · intro y0 y1 y2 y3 y4 y5
      unfold symbolonref11_Row.l0
      repeat' first
      | (with_reducible exact ih0 _ _ _ _ _ _)
      | (with_reducible exact LeO.refl _)
      | (with_reducible exact LeO.none _)
      | (with_reducible refine LeO.ite ?_ ?_)
      | (with_reducible refine LeO.bind ?_ (fun _ => ?_))
      | exact ih0 _ _ _ _ _ _
      | exact LeO.none _
      | refine LeO.ite ?_ ?_
      | refine LeO.bind ?_ (fun _ => ?_)
theorem symbolonref11_Row.mono : ∀ a0 a1 a2 a3 k, LeO (symbolonref11_Row.f k a0 a1 a2 a3) (symbolonref11_Row.f (k + 1) a0 a1 a2 a3) := by
  intro a0 a1 a2 a3 k
  have ih0 := symbolonref11_Row.mono_l k
  unfold symbolonref11_Row.f
  repeat' first
      | (with_reducible exact ih0 _ _ _ _ _ _)
      | (with_reducible exact LeO.refl _)
      | (with_reducible exact LeO.none _)
      | (with_reducible refine LeO.ite ?_ ?_)
      | (with_reducible refine LeO.bind ?_ (fun _ => ?_))
      | exact ih0 _ _ _ _ _ _
      | exact LeO.none _
      | refine LeO.ite ?_ ?_
      | refine LeO.bind ?_ (fun _ => ?_)
set_option maxHeartbeats 8000000 in
set_option maxRecDepth 100000 in
theorem symbolonref11_Row.calls (k : Nat) (a0 : Int) (a1 : Int) (a2 : Int) (a3 : Int) (r : List (S24)) (w : World) (h : symbolonref11_Row.f k a0 a1 a2 a3 = some r) :
    Calls Try.prog 17 #[.int .u64 a0, .int .i64 a1, .int .u64 a2, .int .i64 a3] w fun e w' => ∃ v0_ : Value, e = .returned (v0_) ∧ Kd.R k24 24 w' w.heap.size (fun _ => True) v0_ r ∧ Below w.heap.size w w' := by
  have HB := Aside0.mk (Below.refl w.heap.size w)
  have H : (symbolonref11_Row.l0 k a0 a1 a2 a3 ([] : List (S24)) 0) = some r := h
  clear h
  have H' := Aside0.mk H
  clear H
  go_enter Try.func17, Try.ntmps17
  go_wp2
  go_loopg [9, 10] k (fun kq v9 v10 w' => ∃ (x9_1 : List (S24)) (x10_1 : Int), v10 = .int .i64 x10_1 ∧ Aside0 (symbolonref11_Row.l0 kq a0 a1 a2 a3 x9_1 x10_1 = some r) ∧ Aside0 (kq ≤ k) ∧ Aside0 (Kd.R k24 24 w' w.heap.size (fun _ => True) v9 x9_1) ∧ Aside0 (Below w.heap.size w w'))
  case atStart => exact ⟨(([] : List (S24))), (0), (by first | rfl | (simp; done) | (simp [*]; done)), H', ⟨Nat.le_refl _⟩, ⟨by first | exact Kd.R_nil _ _ _ _ _ | exact Kd.N_nil _ _ _ _ _ | exact Kd.V_nil _ _ _ _ _ | exact Kd.Q_nil _ _ _ _ _ | exact Kd.S_nil _ _ _ _ _⟩, ⟨by repeat (first | (with_reducible first | exact HB.out | apply below_alloc | apply pw_below_drewN | apply below_drew1) | exact HB.out)⟩⟩
  case round =>
    clear H'
    try clear c1
    try clear p2
    obtain ⟨x9_1, x10_1, rfl, HA, HK1, HO_9, HB⟩ := hrel
    cases gk with
    | zero => exact absurd HA.out (by simp [symbolonref11_Row.l0])
    | succ k1 =>
      have H := HA.out
      clear HA
      simp only [symbolonref11_Row.l0] at H
      by_cases c5 : x10_1 < a3
      · rw [if_pos c5] at H
        have c5b0 : decide (x10_1 < a3) = true := decide_eq_true c5
        clear c5
        by_cases c6 : a3 ≤ 4096
        · rw [if_pos c6] at H
          have c6b0 : decide (a3 ≤ 4096) = true := decide_eq_true c6
          clear c6
          replace H := Option.bind_eq_some_iff.mp H
          obtain ⟨⟨t241, t242, t243⟩, A70, H⟩ := H
          replace H : (if x9_1.length < 5864062014805 then (symbolonref11_Row.l0 k1 a0 a1 a2 a3 (x9_1 ++ [(⟨t241, t242, t243⟩ : S24)]) (wrap64 (x10_1 + 1))) else (none)) = some r := H
          have A7 := Aside0.mk A70
          clear A70
          by_cases c8 : x9_1.length < 5864062014805
          · rw [if_pos c8] at H
            have LMc8 := Aside0.mk c8
            clear c8
            obtain ⟨y244, hy244⟩ : ∃ y_ : List (S24), y_ = (x9_1 ++ [(⟨t241, t242, t243⟩ : S24)]) := ⟨_, rfl⟩
            replace H : (symbolonref11_Row.l0 k1 a0 a1 a2 a3 y244 (wrap64 (x10_1 + 1))) = some r := by first | (rw [hy244]; with_reducible exact H) | (have H2_ := (Option.bind_some _ _).symm.trans H; rw [hy244]; with_reducible exact H2_) | (have H2_ := (Option.bind_some _ _).symm.trans H; with_reducible exact H2_) | with_reducible exact H | (rw [hy244]; exact H) | exact H
            have Ny244 := Aside0.mk hy244
            clear hy244
            have H' := Aside0.mk H
            clear H
            go_wp2_with (first | ((with_reducible refine gate_callee (f := 16) rfl ?_); refine goesL_ (some 27) rfl rfl Try.func16 (by kernel_rfl) rfl #[.int .u64 a0, .int .i64 a1, .int .u64 (IntKind.u64.wrap (a2 + (IntKind.u64.wrap (x10_1))))] rfl (by (try simp only [List.map_toArray, List.map_cons, List.map_nil]); first | done | rfl | (simp only [List.length_drop, List.length_take]; rfl)) ?_; (with_reducible refine (symbolonref11_Half.calls a0 a1 (IntKind.u64.wrap (a2 + (IntKind.u64.wrap (x10_1)))) t241 t242 t243 _ A7.out).mono ?_); rintro e w9 ⟨rfl, hb⟩; refine ⟨_, rfl, ?_⟩; have n0_ := Aside0.mk (Kd.R_below (by (with_reducible repeat (first | apply Kd.R_alloc | apply Kd.R_drewN | apply Kd.R_drew)); exact HO_9.out) hb); have n1_ := Aside0.mk (below_step (by repeat (first | (with_reducible first | exact HB.out | apply below_alloc | apply pw_below_drewN | apply below_drew1) | exact HB.out)) hb); clear HO_9; clear HB; have HO_9 := n0_; have HB := n1_; clear n0_ n1_; (try clear hb); (try clear hb2); (try clear hk); (try clear hi)) | ((with_reducible refine gate_builtin (b := .append) (xs := #[.tmp 20, .tmp 28]) rfl ?_); at_builtin; refine Kd.R_append k24 (w0 := w) w.heap.size rfl (.tmp 20) (.tmp 28) 37 24 (.agg #[(.int .u64 0), (.int .u64 0), (.int .u64 0)]) 24 rfl Try.underlying37 info24 rfl (by decide) (by omega) u9 x9_1 (⟨t241, t242, t243⟩ : S24) [.int .u64 t241, .int .u64 t242, .int .u64 t243] (fun _ => True) (fun _ => False) rfl rfl ?aP (fun _ hk => hk.elim) ?aF ?aO ?aB ?aS ?aL ?_; (case aP => exact k24_mkM _ _ _ (⟨t241, t242, t243⟩ : S24)); (case aB => exact (by repeat (first | (with_reducible first | exact HB.out | apply below_alloc | apply pw_below_drewN | apply below_drew1) | exact HB.out))); (case aF => exact (fun _ _ => trivial)); (case aO => exact (by (with_reducible repeat (first | apply Kd.R_alloc | apply Kd.R_drewN | apply Kd.R_drew)); exact HO_9.out)); (case aS => exact (below_size (by repeat (first | (with_reducible first | exact HB.out | apply below_alloc | apply pw_below_drewN | apply below_drew1) | exact HB.out)))); (case aL => have := LMc8.out; omega); intro v245 w10 ho hb hg hat; rw [← Ny244.out] at ho; have n0_ := Aside0.mk (hb); have n1_ := Aside0.mk (ho); clear HB; clear HO_9; have HB := n0_; have HO246 := n1_; clear n0_ n1_; clear ho hb hg hat))
            go_roundg k1
            case measure => have := HK1.out; omega
            case rel => exact ⟨(y244), (wrap64 (x10_1 + 1)), (by first | rfl | (simp; done) | (simp [*]; done)), H', ⟨by have := HK1.out; omega⟩, ⟨by (with_reducible repeat (first | apply Kd.R_alloc | apply Kd.R_drewN | apply Kd.R_drew)); exact HO246.out⟩, ⟨by repeat (first | (with_reducible first | exact HB.out | apply below_alloc | apply pw_below_drewN | apply below_drew1) | exact HB.out)⟩⟩
          · rw [if_neg c8] at H
            exact absurd H (by simp)
        · rw [if_neg c6] at H
          have c6b0 : decide (a3 ≤ 4096) = false := decide_eq_false c6
          clear c6
          obtain rfl := Option.some.inj H
          go_wp2
          go_ret
          exact ⟨_, by first | rfl | (simp [errW_none, errW_some] <;> rfl) | (simp [*, errW_none, errW_some] <;> rfl), by (with_reducible repeat (first | apply Kd.R_alloc | apply Kd.R_drewN | apply Kd.R_drew)); exact HO_9.out, by repeat (first | (with_reducible first | exact HB.out | apply below_alloc | apply pw_below_drewN | apply below_drew1) | exact HB.out)⟩
      · rw [if_neg c5] at H
        have c5b0 : decide (x10_1 < a3) = false := decide_eq_false c5
        clear c5
        obtain rfl := Option.some.inj H
        go_wp2
        go_ret
        exact ⟨_, by first | rfl | (simp [errW_none, errW_some] <;> rfl) | (simp [*, errW_none, errW_some] <;> rfl), by (with_reducible repeat (first | apply Kd.R_alloc | apply Kd.R_drewN | apply Kd.R_drew)); exact HO_9.out, by repeat (first | (with_reducible first | exact HB.out | apply below_alloc | apply pw_below_drewN | apply below_drew1) | exact HB.out)⟩

end Go.Proofs.Ytgbabmenfegepaa.Q
