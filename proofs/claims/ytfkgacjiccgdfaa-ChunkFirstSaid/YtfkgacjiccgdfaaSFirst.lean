/-
The law ChunkFirst returns true, if the plain facts hold that are told here: the walk. Conditions: those facts.
-/
import Derived.Test.YtfkgacjiccgdfaaQ1
import Derived.Test.YtfkgacjiccgdfaaQ2
import Derived.Test.YtfkgacjiccgdfaaQ3
import Derived.Test.YtfkgacjiccgdfaaQ4
import Derived.Test.YtfkgacjiccgdfaaQ7
import Derived.Lib.Hide
set_option linter.unusedVariables false
set_option linter.unusedSimpArgs false
namespace Go.Proofs.Ytfkgacjiccgdfaa.First
open Go.RowKit Go.Proofs.YtfkgacjiccgdfaaW.PrintWords Go.Proofs.Ytfkgacjiccgdfaa.Q
/-- A row of numbers, laid as a literal. -/
theorem lit_nums (k : IntKind) (e : TypeId) (W : World) (xs : List Int) (cs : Array Value) (hcs : cs = (xs.map (Value.int k)).toArray) (hl : xs.length ≤ 9223372036854775807) : Kd.C (Kd.int k) (W.alloc (.cells cs e)) (some ⟨W.heap.size, 0, none⟩) xs.length xs := by
  refine Kd.C_of_reads (d := (0 : Int)) (h1 := fun _ => rfl) ⟨rfl, hl, fun _ => ⟨_, rfl, fun j hj => ?_⟩⟩
  rw [add_plain, blk_cell (blk_new W (.cells cs e)), hcs]
  simp [hj]
/-- A row of rows, laid as a literal. -/
theorem lit_rows (k : IntKind) (e q : TypeId) (W : World) (L : List (List Int)) (vs : List Value) (cs : Array Value) (hcs : cs = vs.toArray) (hl : L.length ≤ 9223372036854775807) (hv : vs.length = L.length)
    (h : ∀ (j : Nat) (b : List Int), L[j]? = some b → ∃ (A : Option Addr) (c : Nat), vs[j]? = some (.slice A b.length c) ∧ b.length ≤ c ∧ Kd.C (Kd.int k) W A b.length b) : Kd.C (Kd.slice q (Kd.int k)) (W.alloc (.cells cs e)) (some ⟨W.heap.size, 0, none⟩) L.length L := by
  refine ⟨rfl, hl, fun _ => ⟨_, rfl, fun j b hj => ?_⟩⟩
  obtain ⟨A, c, h1, h2, h3⟩ := h j b hj
  refine ⟨[.slice A b.length c], rfl, ⟨A, c, rfl, h2, Kd.C_alloc h3 _⟩, fun i u hu => ?_⟩
  cases i with
  | zero =>
    have : Value.slice A b.length c = u := by simpa using hu
    subst this
    have e1 : j * (Kd.slice q (Kd.int k)).sz + 0 = j := by rw [Nat.add_zero]; exact Nat.mul_one j
    rw [e1, add_plain, blk_cell (blk_new W (.cells cs e)), hcs]
    simpa using h1
  | succ i => simp at hu
/-- Put of a literal. -/
theorem put_lit (p : Int) (xs : List Int) (cs : Array Value) (n : Nat) (W : World) (r : List Int) (m : Nat) (hcs : cs = (xs.map (Value.int .u64)).toArray) (hn : n = xs.length) (hl : xs.length ≤ 9223372036854775807) (h : chunk_Put.f p xs = some r) (hm : m = r.length) :
    Calls Try.prog 16 #[.int .i64 p, .slice (some ⟨W.heap.size, 0, none⟩) n n] (W.alloc (.cells cs 40)) fun e w' => ∃ (A : Option Addr) (c : Nat), e = .returned (.slice A m c) ∧ Aside0 (m ≤ c) ∧ Aside0 (Kd.C (Kd.int .u8) w' A m r) ∧ Aside0 (Below W.heap.size W w') := by
  subst hn hm
  refine (chunk_Put.calls p _ _ xs r _ (lit_nums .u64 40 W xs cs hcs hl) (Nat.le_refl _) h).mono ?_
  rintro e w' ⟨v, rfl, hr, hb⟩
  obtain ⟨A, c, rfl, h1, h2⟩ := Kd.R_reads hr
  exact ⟨A, c, rfl, ⟨h1⟩, ⟨h2⟩, ⟨below_step (below_alloc (Below.refl _ _) _) hb⟩⟩
/-- Gather of a literal. -/
theorem gather_lit (k : Nat) (p m : Int) (L : List (List Int)) (vs : List Value) (cs : Array Value) (n : Nat) (W : World) (r1 : List Int) (r2 : Bool) (q : Nat) (hcs : cs = vs.toArray) (hn : n = L.length) (hl : L.length ≤ 9223372036854775807) (hv : vs.length = L.length)
    (hL : ∀ (j : Nat) (b : List Int), L[j]? = some b → ∃ (A : Option Addr) (c : Nat), vs[j]? = some (.slice A b.length c) ∧ b.length ≤ c ∧ Kd.C (Kd.int .u8) W A b.length b) (h : chunk_Gather.f k p m L = some (r1, r2)) (hq : q = r1.length) :
    Calls Try.prog 14 #[.int .i64 p, .int .i64 m, .slice (some ⟨W.heap.size, 0, none⟩) n n] (W.alloc (.cells cs 23)) fun e w' => ∃ (A : Option Addr) (c : Nat), e = .returned (.tuple #[.slice A q c, .bool r2]) ∧ Aside0 (q ≤ c) ∧ Aside0 (Kd.C (Kd.int .u64) w' A q r1) ∧ Aside0 (Below W.heap.size W w') := by
  subst hn hq
  refine (chunk_Gather.calls k p m _ _ L r1 r2 _ (lit_rows .u8 23 5 W L vs cs hcs hl hv hL) (Nat.le_refl _) h).mono ?_
  rintro e w' ⟨v, rfl, hr, hb⟩
  obtain ⟨A, c, rfl, h1, h2⟩ := Kd.R_reads hr
  exact ⟨A, c, rfl, ⟨h1⟩, ⟨h2⟩, ⟨below_step (below_alloc (Below.refl _ _) _) hb⟩⟩
/-- Same of a row and a literal. -/
theorem same_lit (k : Nat) (A : Option Addr) (c n : Nat) (l : List Int) (xs : List Int) (cs : Array Value) (m : Nat) (W : World) (r : Bool) (hcs : cs = (xs.map (Value.int .u64)).toArray) (hn : n = l.length) (hm : m = xs.length) (hl : xs.length ≤ 9223372036854775807) (hr : Kd.C (Kd.int .u64) W A n l) (hc : n ≤ c) (h : symbolonref01_Same.f k l xs = some r) :
    Calls Try.prog 18 #[.slice A n c, .slice (some ⟨W.heap.size, 0, none⟩) m m] (W.alloc (.cells cs 40)) fun e w' => e = .returned (.bool r) ∧ Aside0 (Below W.heap.size W w') := by
  subst hn hm
  refine (symbolonref01_Same.calls k A c l _ _ xs r _ (Kd.C_alloc hr _) hc (lit_nums .u64 40 W xs cs hcs hl) (Nat.le_refl _) h).mono ?_
  rintro e w' ⟨rfl, hb⟩
  exact ⟨rfl, ⟨below_step (below_alloc (Below.refl _ _) _) hb.below⟩⟩
theorem get_any (k : Nat) (A : Option Addr) (c : Nat) (l : List Int) (r1 : Int) (r2 : List Int) (r3 : Bool) (w : World) (hr : Kd.C (Kd.int .u8) w A l.length l) (hc : l.length ≤ c) (h : chunk_Get.f k l = some (r1, r2, r3)) :
    Calls Try.prog 12 #[.slice A l.length c] w fun e w' => ∃ (A' : Option Addr) (c' : Nat), e = .returned (.tuple #[.int .i64 r1, .slice A' r2.length c', .bool r3]) ∧ Aside0 (Below w.heap.size w w') := by
  refine (chunk_Get.calls k A c l r1 r2 r3 w hr hc h).mono ?_
  rintro e w' ⟨v, rfl, hr, hb⟩
  obtain ⟨A, c, rfl, h1, h2⟩ := Kd.R_reads hr
  exact ⟨A, c, rfl, ⟨hb⟩⟩
theorem head_any (k : Nat) (w : World) (h : symbolonlaw14_head.f k = some true) : Calls Try.prog 10 #[] w fun e w' => e = .returned (.bool true) ∧ Aside0 (Below w.heap.size w w') :=
  (symbolonlaw14_head.calls k true w h).mono fun e w' ⟨h1, h2⟩ => ⟨h1, ⟨h2⟩⟩
set_option maxHeartbeats 1000000 in
set_option maxRecDepth 100000 in
theorem first_long (k : Nat) (a0 a1 a2 : Int) (A3 : Option Addr) (c3 : Nat) (l3 : List Int) (w : World) (hh : symbolonlaw14_head.f k = some true) (hl : 900 < l3.length) :
    Calls Try.prog 7 #[.int .u16 a0, .int .u64 a1, .int .u64 a2, .slice A3 l3.length c3] w fun e w' => e = .returned (.bool true) ∧ Below w.heap.size w w' := by
  have b1 : decide (900 < (l3.length : Int)) = true := decide_eq_true (by omega)
  go_enter Try.func7, Try.ntmps7
  go_wp2_with (go_at_call 10; refine (head_any k _ hh).mono ?_; rintro e w1 ⟨rfl, HB⟩)
  go_ret
  exact ⟨rfl, HB.out⟩
set_option maxHeartbeats 1000000 in
set_option maxRecDepth 100000 in
theorem first_is (k : Nat) (a0 a1 a2 : Int) (A3 : Option Addr) (c3 : Nat) (l3 : List Int) (w : World) (p : Int) (B1 B2 : List Int) (r1 : Int) (r2 : List Int) (hr : Kd.C (Kd.int .u8) w A3 l3.length l3) (hc : l3.length ≤ c3)
    (hp : Int.tmod (wrap64 a0) 60000 = p) (hh : symbolonlaw14_head.f k = some true) (hl : l3.length ≤ 900) (hg : chunk_Get.f k l3 = some (r1, r2, true)) (h1 : chunk_Put.f p [a1] = some B1) (h2 : chunk_Put.f p [a2] = some B2) (n1 : B1.length = 10) (n2 : B2.length = 10)
    (hx : chunk_Gather.f k p 1 [B1, B2] = some ([a1], true)) (hs : symbolonref01_Same.f k [a1] [a1] = some true) :
    Calls Try.prog 7 #[.int .u16 a0, .int .u64 a1, .int .u64 a2, .slice A3 l3.length c3] w fun e w' => e = .returned (.bool true) ∧ Below w.heap.size w w' := by
  have HR := Aside0.mk hr
  have N1 := Aside0.mk n1
  have N2 := Aside0.mk n2
  have HP := Aside0.mk hp
  have HH := Aside0.mk hh
  have HG := Aside0.mk hg
  have H1 := Aside0.mk h1
  have H2 := Aside0.mk h2
  have HX := Aside0.mk hx
  have HS := Aside0.mk hs
  have b1 : decide (900 < (l3.length : Int)) = false := decide_eq_false (by omega)
  clear hr n1 n2 hh hg h1 h2 hx hs hp
  go_enter Try.func7, Try.ntmps7
  go_wp2_with fail
  refine (head_any k _ HH.out).mono ?_
  rintro e w1 ⟨rfl, HB1⟩
  go_wp2_with fail
  rw [HP.out]
  refine (get_any k A3 c3 l3 r1 r2 true _ (Kd.C_below HR.out HB1.out) hc HG.out).mono ?_
  rintro e w2 ⟨A', c', rfl, HB2⟩
  go_wp2_with fail
  refine (put_lit p [a1] #[.int .u64 a1] 1 w2 B1 10 rfl rfl (by simp) H1.out N1.out.symm).mono ?_
  rintro e w3 ⟨A1, c1, rfl, M1, C1, HB3⟩
  go_wp2_with fail
  refine (put_lit p [a2] #[.int .u64 a2] 1 w3 B2 10 rfl rfl (by simp) H2.out N2.out.symm).mono ?_
  rintro e w4 ⟨A2, c2, rfl, M2, C2, HB4⟩
  have HL : Aside0 (∀ (j : Nat) (b : List Int), [B1, B2][j]? = some b → ∃ (A : Option Addr) (c : Nat), [Value.slice A1 10 c1, Value.slice A2 10 c2][j]? = some (.slice A b.length c) ∧ b.length ≤ c ∧ Kd.C (Kd.int .u8) w4 A b.length b) := by
    refine ⟨fun j b hj => ?_⟩
    match j, hj with
    | 0, hj =>
      obtain rfl : B1 = b := by simpa using hj
      exact ⟨A1, c1, by rw [N1.out]; rfl, by rw [N1.out]; exact M1.out, by rw [N1.out]; exact Kd.C_below C1.out HB4.out⟩
    | 1, hj =>
      obtain rfl : B2 = b := by simpa using hj
      exact ⟨A2, c2, by rw [N2.out]; rfl, by rw [N2.out]; exact M2.out, by rw [N2.out]; exact C2.out⟩
    | j + 2, hj => simp at hj
  go_wp2_with fail
  refine (gather_lit k p 1 [B1, B2] [.slice A1 10 c1, .slice A2 10 c2] #[.slice A1 10 c1, .slice A2 10 c2] 2 w4 [a1] true 1 rfl rfl (by simp) rfl HL.out HX.out rfl).mono ?_
  rintro e w5 ⟨A5, c5, rfl, M5, C5, HB5⟩
  go_wp2_with fail
  refine (same_lit k A5 c5 1 [a1] [a1] #[.int .u64 a1] 1 w5 true rfl rfl rfl (by simp) C5.out M5.out HS.out).mono ?_
  rintro e w6 ⟨rfl, HB6⟩
  go_wp2_with fail
  go_ret
  exact ⟨rfl, below_step (below_step (below_step (below_step (below_step HB1.out HB2.out) HB3.out) HB4.out) (HB5.out)) HB6.out⟩
set_option maxHeartbeats 1000000 in
set_option maxRecDepth 100000 in
theorem first_no (k : Nat) (a0 a1 a2 : Int) (A3 : Option Addr) (c3 : Nat) (l3 : List Int) (w : World) (p : Int) (B1 B2 B3 : List Int) (r1 : Int) (r2 : List Int) (hr : Kd.C (Kd.int .u8) w A3 l3.length l3) (hc : l3.length ≤ c3)
    (hp : Int.tmod (wrap64 a0) 60000 = p) (hh : symbolonlaw14_head.f k = some true) (hl : l3.length ≤ 900) (hg : chunk_Get.f k l3 = some (r1, r2, false)) (h1 : chunk_Put.f p [a1] = some B1) (h2 : chunk_Put.f p [a2] = some B2) (h3 : chunk_Put.f p [a2, a2] = some B3) (n1 : B1.length = 10) (n2 : B2.length = 10) (n3 : B3.length = 18)
    (hx : chunk_Gather.f k p 1 [B1, B2] = some ([a1], true)) (hy : chunk_Gather.f k p 2 [l3, B1, l3, B3] = some ([a1, a2], true)) (hs : symbolonref01_Same.f k [a1] [a1] = some true) (ht : symbolonref01_Same.f k [a1, a2] [a1, a2] = some true) :
    Calls Try.prog 7 #[.int .u16 a0, .int .u64 a1, .int .u64 a2, .slice A3 l3.length c3] w fun e w' => e = .returned (.bool true) ∧ Below w.heap.size w w' := by
  have HR := Aside0.mk hr
  have N1 := Aside0.mk n1
  have N2 := Aside0.mk n2
  have HP := Aside0.mk hp
  have HH := Aside0.mk hh
  have HG := Aside0.mk hg
  have H1 := Aside0.mk h1
  have H2 := Aside0.mk h2
  have HX := Aside0.mk hx
  have HS := Aside0.mk hs
  have N3 := Aside0.mk n3
  have H3 := Aside0.mk h3
  have HY := Aside0.mk hy
  have HT := Aside0.mk ht
  have b1 : decide (900 < (l3.length : Int)) = false := decide_eq_false (by omega)
  clear hr n1 n2 n3 hh hg h1 h2 h3 hx hy hs ht hp
  go_enter Try.func7, Try.ntmps7
  go_wp2_with fail
  refine (head_any k _ HH.out).mono ?_
  rintro e w1 ⟨rfl, HB1⟩
  go_wp2_with fail
  rw [HP.out]
  refine (get_any k A3 c3 l3 r1 r2 false _ (Kd.C_below HR.out HB1.out) hc HG.out).mono ?_
  rintro e w2 ⟨A', c', rfl, HB2⟩
  go_wp2_with fail
  refine (put_lit p [a1] #[.int .u64 a1] 1 w2 B1 10 rfl rfl (by simp) H1.out N1.out.symm).mono ?_
  rintro e w3 ⟨A1, c1, rfl, M1, C1, HB3⟩
  go_wp2_with fail
  refine (put_lit p [a2] #[.int .u64 a2] 1 w3 B2 10 rfl rfl (by simp) H2.out N2.out.symm).mono ?_
  rintro e w4 ⟨A2, c2, rfl, M2, C2, HB4⟩
  have HL : Aside0 (∀ (j : Nat) (b : List Int), [B1, B2][j]? = some b → ∃ (A : Option Addr) (c : Nat), [Value.slice A1 10 c1, Value.slice A2 10 c2][j]? = some (.slice A b.length c) ∧ b.length ≤ c ∧ Kd.C (Kd.int .u8) w4 A b.length b) := by
    refine ⟨fun j b hj => ?_⟩
    match j, hj with
    | 0, hj =>
      obtain rfl : B1 = b := by simpa using hj
      exact ⟨A1, c1, by rw [N1.out]; rfl, by rw [N1.out]; exact M1.out, by rw [N1.out]; exact Kd.C_below C1.out HB4.out⟩
    | 1, hj =>
      obtain rfl : B2 = b := by simpa using hj
      exact ⟨A2, c2, by rw [N2.out]; rfl, by rw [N2.out]; exact M2.out, by rw [N2.out]; exact C2.out⟩
    | j + 2, hj => simp at hj
  go_wp2_with fail
  refine (gather_lit k p 1 [B1, B2] [.slice A1 10 c1, .slice A2 10 c2] #[.slice A1 10 c1, .slice A2 10 c2] 2 w4 [a1] true 1 rfl rfl (by simp) rfl HL.out HX.out rfl).mono ?_
  rintro e w5 ⟨A5, c5, rfl, M5, C5, HB5⟩
  go_wp2_with fail
  refine (put_lit p [a1] #[.int .u64 a1] 1 w5 B1 10 rfl rfl (by simp) H1.out N1.out.symm).mono ?_
  rintro e w6 ⟨A6, c6, rfl, M6, C6, HB6⟩
  go_wp2_with fail
  refine (put_lit p [a2, a2] #[.int .u64 a2, .int .u64 a2] 2 w6 B3 18 rfl rfl (by simp) H3.out N3.out.symm).mono ?_
  rintro e w7 ⟨A7, c7, rfl, M7, C7, HB7⟩
  have HJ : Aside0 (Kd.C (Kd.int .u8) w7 A3 l3.length l3) := ⟨Kd.C_below (Kd.C_below (Kd.C_below (Kd.C_below (Kd.C_below (Kd.C_below (Kd.C_below HR.out HB1.out) HB2.out) HB3.out) HB4.out) HB5.out) HB6.out) HB7.out⟩
  have HL2 : Aside0 (∀ (j : Nat) (b : List Int), [l3, B1, l3, B3][j]? = some b → ∃ (A : Option Addr) (c : Nat), [Value.slice A3 l3.length c3, Value.slice A6 10 c6, Value.slice A3 l3.length c3, Value.slice A7 18 c7][j]? = some (.slice A b.length c) ∧ b.length ≤ c ∧ Kd.C (Kd.int .u8) w7 A b.length b) := by
    refine ⟨fun j b hj => ?_⟩
    match j, hj with
    | 0, hj =>
      obtain rfl : l3 = b := by simpa using hj
      exact ⟨A3, c3, rfl, hc, HJ.out⟩
    | 1, hj =>
      obtain rfl : B1 = b := by simpa using hj
      exact ⟨A6, c6, by rw [N1.out]; rfl, by rw [N1.out]; exact M6.out, by rw [N1.out]; exact Kd.C_below C6.out HB7.out⟩
    | 2, hj =>
      obtain rfl : l3 = b := by simpa using hj
      exact ⟨A3, c3, rfl, hc, HJ.out⟩
    | 3, hj =>
      obtain rfl : B3 = b := by simpa using hj
      exact ⟨A7, c7, by rw [N3.out]; rfl, by rw [N3.out]; exact M7.out, by rw [N3.out]; exact C7.out⟩
    | j + 4, hj => simp at hj
  go_wp2_with fail
  refine (gather_lit k p 2 [l3, B1, l3, B3] [.slice A3 l3.length c3, .slice A6 10 c6, .slice A3 l3.length c3, .slice A7 18 c7] #[.slice A3 l3.length c3, .slice A6 10 c6, .slice A3 l3.length c3, .slice A7 18 c7] 4 w7 [a1, a2] true 2 rfl rfl (by simp) rfl HL2.out HY.out rfl).mono ?_
  rintro e w8 ⟨A8, c8, rfl, M8, C8, HB8⟩
  go_wp2_with fail
  refine (same_lit k A5 c5 1 [a1] [a1] #[.int .u64 a1] 1 w8 true rfl rfl rfl (by simp) (Kd.C_below (Kd.C_below (Kd.C_below C5.out HB6.out) HB7.out) HB8.out) M5.out HS.out).mono ?_
  rintro e w9 ⟨rfl, HB9⟩
  go_wp2_with fail
  refine (same_lit k A8 c8 2 [a1, a2] [a1, a2] #[.int .u64 a1, .int .u64 a2] 2 w9 true rfl rfl rfl (by simp) (Kd.C_below C8.out HB9.out) M8.out HT.out).mono ?_
  rintro e w10 ⟨rfl, HB10⟩
  go_wp2_with fail
  go_ret
  exact ⟨rfl, below_step (below_step (below_step (below_step (below_step (below_step (below_step (below_step (below_step HB1.out HB2.out) HB3.out) HB4.out) HB5.out) HB6.out) HB7.out) HB8.out) HB9.out) HB10.out⟩
end Go.Proofs.Ytfkgacjiccgdfaa.First
