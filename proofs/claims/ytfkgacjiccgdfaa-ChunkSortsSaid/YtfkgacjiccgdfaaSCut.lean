/-
chunk.Cut comes to 'cut', a plain function of numbers and lists. No condition.
-/
import Derived.Test.YtfkgacjiccgdfaaSIter
namespace Go.Proofs.Ytfkgacjiccgdfaa.S
open Go.RowKit Go.Shelf Go.Proofs.YtfkgacjiccgdfaaW.PrintWords
set_option linter.unusedVariables false
set_option linter.unusedSimpArgs false
attribute [local go_sem] Oper.semAt_some
/-- The builtin append, under a name that the walk does not open. -/
def happ (ts : Array TypeId) (t : TypeId) (vs : Array Value) : Sem Value := Builtin.append_ ts t vs
theorem happ_eq (ats : Array TypeId) (ty : TypeId) (cs : Array Bool) (args : Array Value) : builtin .append ats ty cs args = (do pure (.value (← happ ats ty args))) := rfl
attribute [local go_sem ↓ high] happ_eq
theorem box_lt {w : World} {B : Nat} {v : Value} (h : w.cell? ⟨B, 0, none⟩ = some v) : B < w.heap.size := by
  rcases Nat.lt_or_ge B w.heap.size with k | k
  · exact k
  · have e : w.heap[B]? = none := Array.getElem?_eq_none k
    unfold World.cell? at h
    rw [e] at h
    cases h
theorem chunk_stops (n : Nat) (hn : 1 ≤ n) (w : World) (A : Option Addr) (c : Nat) (l : List Int) (w0 : World) (hl : l.length ≤ 65536) (hlc : l.length ≤ c) (hC : Kd.C (Kd.int .u64) w0 A l.length l) (Bs Bn : Nat) 
    (hb : Below w0.heap.size w0 w) (hs : w.cell? ⟨Bs, 0, none⟩ = some (.slice A l.length c)) (hk : w.cell? ⟨Bn, 0, none⟩ = some (.int .i64 6)) :
    SeqStopsK Fence.wide n Try.prog 24 #[.pointer (some ⟨Bs, 0, none⟩), .pointer (some ⟨Bn, 0, none⟩)] (fun x : Piece w0 => #[Value.slice x.1.1 x.1.2.length x.1.2.length]) (KBox w0.heap.size Bs Bn)
      (fun ys => ys.map (fun x => x.1.2) = pieces l ((l.length + 5) / 6)) (fun _ => True) ((l.length + 5) / 6) w := fun lb J Jx W hW hJ _ hY h0 =>
  chunk1_in n hn lb Bs Bn w0.heap.size A c l w0 hl hlc hC (Nat.le_refl _) J Jx W.heap.size hJ hY W (below_step hb hW) ((cell_of_blk (hW.block _ (box_lt hs))).trans hs) ((cell_of_blk (hW.block _ (box_lt hk))).trans hk) h0
/-- The position behind some pieces. -/
def atOf (a : Int) (ps : List (List Int)) : Int := ps.foldl (fun b p => wrap64 (b + (p.length : Int))) a
/-- What Put answers. -/
def putv (a : Int) (p : List Int) : List Int := if 0 ≤ a ∧ a ≤ 65535 ∧ 1 ≤ p.length ∧ p.length ≤ 6 ∧ (p.length : Int) ≤ 65536 - a then putB a p else []
/-- The chunks of some pieces. -/
def outs (a : Int) : List (List Int) → List (List Int)
  | [] => []
  | p :: ps => putv a p :: outs (wrap64 (a + (p.length : Int))) ps
theorem atOf_snoc (a : Int) (ps : List (List Int)) (p : List Int) : atOf a (ps ++ [p]) = wrap64 (atOf a ps + (p.length : Int)) := by simp [atOf]
theorem outs_snoc (ps : List (List Int)) (p : List Int) : ∀ a : Int, outs a (ps ++ [p]) = outs a ps ++ [putv (atOf a ps) p] := by
  induction ps with
  | nil => intro a; rfl
  | cons q ps ih => intro a; simp only [List.cons_append, outs, ih]; rfl
theorem outs_length (ps : List (List Int)) : ∀ a : Int, (outs a ps).length = ps.length := by
  induction ps with
  | nil => intro a; rfl
  | cons q ps ih => intro a; simp [outs, ih]
theorem new1 (w : World) (o1 o2 : Obj) : ((w.alloc o1).alloc o2).heap[w.heap.size + 1]? = some o2 := by
  have h := heap_alloc_new (w.alloc o1) o2
  simpa using h
theorem new3 (w : World) (o1 o2 o3 : Obj) : (((w.alloc o1).alloc o2).alloc o3).heap[w.heap.size + 1 + 1]? = some o3 := by
  have h := heap_alloc_new ((w.alloc o1).alloc o2) o3
  simpa using h
theorem new4 (w : World) (o1 o2 o3 o4 : Obj) : ((((w.alloc o1).alloc o2).alloc o3).alloc o4).heap[w.heap.size + 1 + 1 + 1]? = some o4 := by
  have h := heap_alloc_new (((w.alloc o1).alloc o2).alloc o3) o4
  simpa using h
/-- What holds between two rounds of Cut's loop. -/
structure Inv (w : World) (a0 : Int) (b : Value) (ps : List (List Int)) (W : World) : Prop where mk ::
  (at_ : W.heap[w.heap.size]? = some (.cells #[.int .i64 (atOf a0 ps)] 3 (0, 0)))
  (out : ∃ v, W.heap[w.heap.size + 1]? = some (.cells #[v] 24 (0, 0)) ∧ Kd.S (Kd.slice 5 (Kd.int .u8)) 23 W w.heap.size (fun _ => True) v (outs a0 ps))
  (below : Below w.heap.size w W)
  (bs : W.heap[w.heap.size + 1 + 1]? = some (.cells #[b] 22 (0, 0)))
  (bn : W.heap[w.heap.size + 1 + 1 + 1]? = some (.cells #[.int .i64 6] 3 (0, 0)))
theorem inv_own (w : World) (a0 : Int) (b : Value) (w0 : World) (B : Nat) (hB : w.heap.size ≤ B) : OwnFrom B (fun (pre : List (Piece w0)) W => Inv w a0 b (pre.map fun x => x.1.2) W) := by
  intro s W W' row h hg hr
  obtain ⟨h1, ⟨v, h2, h3⟩, h4, h5, h6⟩ := h
  have hne : ∀ k cs t fr, W.heap[k]? = some (.cells cs t fr) → some k ≠ row := by
    intro k cs t fr hk e
    obtain ⟨_, o, ho, hc⟩ := hr k e.symm
    rw [hk] at ho
    cases ho
    simp [Obj.isCells] at hc
  refine ⟨blk_grown h1 hg (hne _ _ _ _ h1), ⟨v, blk_grown h2 hg (hne _ _ _ _ h2), ?_⟩, h4.grown hg h4.size (fun k e => by obtain ⟨hk, _⟩ := hr k e; omega), blk_grown h5 hg (hne _ _ _ _ h5), blk_grown h6 hg (hne _ _ _ _ h6)⟩
  refine Kd.S_mono (Kd.S_grown (Kd.S_bound h3) hg (fun k hk => ?_)) (fun _ _ => trivial)
  obtain ⟨_, _, _, q, _, cells, hc⟩ := hk
  exact hne _ _ _ _ hc
theorem ty_ne {w1 : World} {v : Value} {k t : Nat} {cs : Array Value} (hty : ∀ k, v.ownBlock = some k → ∃ cells, w1.heap[k]? = some (.cells cells 23 (0, 0))) (h : w1.heap[k]? = some (.cells cs t (0, 0))) (ht : t ≠ 23) : some k ≠ v.ownBlock := by
  intro e
  obtain ⟨cells, hc⟩ := hty k e.symm
  rw [hc] at h
  injection h with h
  injection h with _ h
  exact ht h.symm
theorem put_eq (a : Int) (l : List Int) : put a l = some (putv a l) := by
  unfold put putv
  split <;> rfl
/-- The append of a new chunk's slice to the chunks. -/
theorem out_append (w W w1 : World) (v u : Value) (xs : List (List Int)) (p : List Int) (hS : Kd.S (Kd.slice 5 (Kd.int .u8)) 23 W w.heap.size (fun _ => True) v xs) (hb : Below W.heap.size W w1) (hR : Kd.R (Kd.int .u8) 5 w1 W.heap.size (fun _ => True) u p) (hB : Below w.heap.size w W) (hbase : w.heap.size ≤ W.heap.size) (hl : xs.length ≤ 65536) :
    ∃ v1 w2, (happ #[24, 24] 24 #[v, .slice (some ⟨w1.heap.size, 0, none⟩) 1 1]).run Try.prog (w1.alloc (.cells #[u] 23)) = .ok v1 w2 ∧ Kd.S (Kd.slice 5 (Kd.int .u8)) 23 w2 w.heap.size (fun _ => True) v1 (xs ++ [p]) ∧ Below w.heap.size w w2 ∧ w1.grownBy w2 v.ownBlock ∧ (∀ k, v.ownBlock = some k → ∃ cells, w1.heap[k]? = some (.cells cells 23 (0, 0))) ∧ v1.oneCell' = true := by
  have HO5 := Kd.S_elder' hS (Kd.R_base hR) hb
  have HB1 : Below w.heap.size w w1 := below_step hB hb
  have HO8 := Kd.R_lower hR hbase
  have HA : (Kd.int .u8).R 5 w1 w.heap.size (fun k_ => (fun _ => True) k_ ∧ some k_ ≠ (v : Value).ownBlock) u p := Kd.R_mono (ok' := fun k_ => ((fun _ => True)) k_ ∧ some k_ ≠ (v : Value).ownBlock) (Kd.R_apart' HO8 (Kd.S_typed HO5) (by decide)) (fun k_ hk => ⟨trivial, hk.2⟩)
  obtain ⟨f, hf, hT⟩ := Kd.S_tag (Kd.S_mono (ok' := fun k => True ∧ ¬ (some k = u.ownBlock)) HO5 (fun k_ hk => ⟨trivial, fun e_ => hk.2 e_⟩)) xs.length (fun k => some k = u.ownBlock) (fun _ hk h2 => h2.2 hk)
  obtain ⟨h0, inner, hown, hr⟩ := Kd.R_mono (ok' := fun _ => True) hT (fun _ _ => trivial)
  obtain ⟨i0, hi, hz0, hz1, hz2⟩ := info_parts Q.info23
  have hz1 : w1.heap.size ≤ (w1.alloc (.cells #[u] 23)).heap.size := by simp
  have hsz := hb.size
  have hone : ∀ y ∈ [u], y.oneCell' = true := by
    obtain ⟨A, c, rfl⟩ := Kd.R_slice hR
    intro y hy
    rw [List.mem_singleton.1 hy]
    rfl
  rw [List.length_zipIdx] at hown
  obtain ⟨v1, w2, he, hown1, hg, _, hat⟩ := run_append_own_at (P := Try.prog) (w1.alloc (.cells #[u] 23)) w.heap.size 24 24 23 i0 (.slice none 0 0) 1 24 Try.underlying24 hi hz0 (by assumption) (by assumption) rfl (by decide) v xs.length inner (hown.alloc _) ⟨w1.heap.size, 0, none⟩ 1 1 [u] rfl
    (by simpa using World.news_of_block (cs := #[u]) (t := 23) (fr := (0, 0)) (heap_alloc_new w1 (.cells #[u] 23))) hone (by simp only [maxLen]; omega) (by omega) (by omega)
  have hat' : v1.ownBlock = v.ownBlock ∨ ∃ b, v1.ownBlock = some b ∧ w1.heap.size ≤ b := by
    rcases hat with hat | hat
    · exact .inl hat
    · exact .inr ⟨_, hat, by simp⟩
  have hg' := World.grownBy.trans (World.grownBy_alloc w1 (.cells #[u] 23) v.ownBlock) hg
  have hRR := Kd.R_appended (d := Kd.tag f (Kd.slice 5 (Kd.int .u8))) (e := 23) (base := w.heap.size) (ok := fun _ => True) (okp := fun k => some k = u.ownBlock) (v1 := v1) (p := (p, xs.length)) (cs := [u]) (W := w1) h0 hr
    ((Kd.slice 5 (Kd.int .u8)).M_mono (fun k hk => ⟨hk, hf k hk⟩) (Kd.M_row (Kd.R_mono (Kd.R_tight rfl HA) (fun _ h_ => h_)))) (fun k_ hk_ => ⟨trivial, (HA.1 k_ hk_.symm).2⟩) (fun _ _ => trivial) (by rw [List.length_zipIdx]; exact hown1) hg' hat'
  rw [← Kd.zip_snoc] at hRR
  refine ⟨v1, w2, he, ⟨f, hRR⟩, (HB1.alloc (by omega) _).grown hg (by simp; omega) (own_base hown), hg', Kd.S_typed HO5, ?_⟩
  obtain ⟨A, c, rfl⟩ := Kd.R_slice hRR
  rfl
theorem below_step0 {b : Nat} {w W W' : World} (h : Below b w W) (k : Below b W W') : Below b w W' := h.trans k
theorem ownPostG_normal {α : Type} {B : Nat} {Kp : World → World → Prop} {I : List α → World → Prop} {Ix : Code → List α → World → Prop} {xs : List α} {W W' : World} {a : Act} : ownPostG B Kp I Ix xs W .normal a W' = (KeepsFrom B W W' ∧ Kp W W' ∧ I xs W') := rfl
theorem body_end (w W w1 w2 : World) (a0 aa : Int) (b : Value) (qs : List (List Int)) (p : List Int) (u v1 : Value) (B : Nat) (hB : w.heap.size ≤ B) (hBW : Below w.heap.size w W) (hat : W.heap[w.heap.size]? = some (.cells #[.int .i64 aa] 3 (0, 0))) (hout : W.heap[w.heap.size + 1]? = some (.cells #[u] 24 (0, 0)))
    (hbs : W.heap[w.heap.size + 1 + 1]? = some (.cells #[b] 22 (0, 0))) (hbn : W.heap[w.heap.size + 1 + 1 + 1]? = some (.cells #[.int .i64 6] 3 (0, 0))) (hea : aa = atOf a0 qs)
    (hb : Below W.drew.heap.size W.drew w1) (hg : w1.grownBy w2 u.ownBlock) (hty : ∀ k, u.ownBlock = some k → ∃ cells, w1.heap[k]? = some (.cells cells 23 (0, 0)))
    (hB2 : Below w.heap.size w w2) (hu : ∀ k, u.ownBlock = some k → w.heap.size ≤ k) (hS : Kd.S (Kd.slice 5 (Kd.int .u8)) 23 w2 w.heap.size (fun _ => True) v1 (outs a0 qs ++ [putv aa p])) :
    KeepsFrom B W ((w2.setCell ⟨w.heap.size + 1, 0, none⟩ v1).setCell ⟨w.heap.size, 0, none⟩ (.int .i64 (wrap64 (aa + (p.length : Int))))) ∧
    KBox w.heap.size (w.heap.size + 1 + 1) (w.heap.size + 1 + 1 + 1) W ((w2.setCell ⟨w.heap.size + 1, 0, none⟩ v1).setCell ⟨w.heap.size, 0, none⟩ (.int .i64 (wrap64 (aa + (p.length : Int))))) ∧
    Inv w a0 b (qs ++ [p]) ((w2.setCell ⟨w.heap.size + 1, 0, none⟩ v1).setCell ⟨w.heap.size, 0, none⟩ (.int .i64 (wrap64 (aa + (p.length : Int))))) := by
  have e0 : w1.heap[w.heap.size]? = some (.cells #[.int .i64 aa] 3 (0, 0)) := (hb.block _ (blk_lt (w := W) hat)).trans hat
  have e1 : w1.heap[w.heap.size + 1]? = some (.cells #[u] 24 (0, 0)) := (hb.block _ (blk_lt (w := W) hout)).trans hout
  have e2 : w1.heap[w.heap.size + 1 + 1]? = some (.cells #[b] 22 (0, 0)) := (hb.block _ (blk_lt (w := W) hbs)).trans hbs
  have e3 : w1.heap[w.heap.size + 1 + 1 + 1]? = some (.cells #[.int .i64 6] 3 (0, 0)) := (hb.block _ (blk_lt (w := W) hbn)).trans hbn
  have g0 := blk_grown e0 hg (ty_ne hty e0 (by decide))
  have g1 := blk_grown e1 hg (ty_ne hty e1 (by decide))
  have g2 := blk_grown e2 hg (ty_ne hty e2 (by decide))
  have g3 := blk_grown e3 hg (ty_ne hty e3 (by decide))
  have k1 := blk_set g1 0 v1
  have k0 := blk_far g0 (p := ⟨w.heap.size + 1, 0, none⟩) (by simp) v1
  have f0 := blk_set k0 0 (.int .i64 (wrap64 (aa + (p.length : Int))))
  have f1 := blk_far k1 (p := ⟨w.heap.size, 0, none⟩) (by simp) (.int .i64 (wrap64 (aa + (p.length : Int))))
  have f2 := blk_far (blk_far g2 (p := ⟨w.heap.size + 1, 0, none⟩) (by simp <;> omega) v1) (p := ⟨w.heap.size, 0, none⟩) (by simp <;> omega) (.int .i64 (wrap64 (aa + (p.length : Int))))
  have f3 := blk_far (blk_far g3 (p := ⟨w.heap.size + 1, 0, none⟩) (by simp <;> omega) v1) (p := ⟨w.heap.size, 0, none⟩) (by simp <;> omega) (.int .i64 (wrap64 (aa + (p.length : Int))))
  have hsz1 : W.heap.size ≤ w1.heap.size := hb.size
  have hsz : W.heap.size ≤ w2.heap.size := Nat.le_trans hsz1 hg.size
  have hBf : Below w.heap.size W ((w2.setCell ⟨w.heap.size + 1, 0, none⟩ v1).setCell ⟨w.heap.size, 0, none⟩ (.int .i64 (wrap64 (aa + (p.length : Int))))) := by
    have h1 : Below w.heap.size W w1 := (below_drew1 (Below.refl _ W)).trans (hb.mono hBW.size)
    have h2 : Below w.heap.size W w2 := h1.grown hg (Nat.le_trans hBW.size hsz1) hu
    exact (h2.setCell (by simp) _).setCell (by simp) _
  refine ⟨⟨?_, ?_⟩, ⟨hBf, f2.trans hbs.symm, f3.trans hbn.symm⟩, ⟨?_, ⟨v1, f1, ?_⟩, below_step0 hBW hBf, f2, f3⟩⟩
  · simpa using hsz
  · intro k o hk ho hc
    have hlt : k < W.heap.size := (Array.getElem?_eq_some_iff.1 ho).1
    have n0 : k ≠ w.heap.size := by rintro rfl; rw [hat] at ho; cases ho; simp [Obj.isCells] at hc
    have n1 : k ≠ w.heap.size + 1 := by rintro rfl; rw [hout] at ho; cases ho; simp [Obj.isCells] at hc
    rw [Below.heap_setCell _ _ _ _ n0, Below.heap_setCell _ _ _ _ n1]
    have h1 : w1.heap[k]? = some o := (hb.block k hlt).trans ho
    rw [hg.block k (by omega) (fun e => by obtain ⟨cells, h2⟩ := hty k e.symm; rw [h1] at h2; cases h2; simp [Obj.isCells] at hc)]
    exact h1
  · rw [atOf_snoc, ← hea]
    exact f0
  · rw [outs_snoc, ← hea]
    exact Kd.S_set (Kd.S_set hS g1 (by decide) 0 v1) k0 (by decide) 0 _
set_option maxRecDepth 100000 in
set_option maxHeartbeats 2000000 in
theorem cut_yes (a0 : Int) (A1 : Option Addr) (c1 : Nat) (l1 : List Int) (w : World) (hr1 : Kd.C (Kd.int .u64) w A1 l1.length l1) (hc1 : l1.length ≤ c1) (h0 : 0 ≤ a0) (h1 : a0 ≤ 65535) (h4 : (l1.length : Int) ≤ 65536 - a0) :
    Calls Try.prog 20 #[.int .i64 a0, .slice A1 l1.length c1] w fun e w' => ∃ v0_ : Value, e = .returned (v0_) ∧ Kd.S (Kd.slice 5 (Kd.int .u8)) 23 w' w.heap.size (fun _ => True) v0_ (outs a0 (pieces l1 ((l1.length + 5) / 6))) ∧ Below w.heap.size w w' := by
  have HR1 := Aside0.mk hr1
  clear hr1
  have b1 : decide (a0 < 0) = false := decide_eq_false (by omega)
  have b2 : decide (65535 < a0) = false := decide_eq_false (by omega)
  have b5 : decide (65535 - a0 + 1 < (l1.length : Int)) = false := decide_eq_false (by omega)
  refine (callsIn_wide (n := 6)).1 ?_
  refine callsIn_of_wp_marks Try.func20 rfl trivial ?_ rfl
  simp only [Try.ntmps20, List.size_toArray, List.length_cons, List.length_nil, Nat.reduceAdd, Nat.reduceSub, Array.replicate_succ, Array.replicate_zero, List.push_toArray, List.append_toArray, List.nil_append, List.cons_append]
  gi_wp2_with fail
  refine ⟨trivial, (chunk_in _ _ _ _ _).mono ?_⟩
  rintro e w' ⟨rfl, rfl⟩
  gi_wp2_with fail
  have N0 : ((((w.alloc (.cells #[.int .i64 a0] 3)).alloc (.cells #[.slice none 0 0] 24)).alloc (.cells #[.slice A1 l1.length c1] 22)).alloc (.cells #[.int .i64 6] 3)).heap[w.heap.size]? = some (.cells #[.int .i64 a0] 3 (0, 0)) := blk_alloc (blk_alloc (blk_alloc (heap_alloc_new w _) _) _) _
  have N1 : ((((w.alloc (.cells #[.int .i64 a0] 3)).alloc (.cells #[.slice none 0 0] 24)).alloc (.cells #[.slice A1 l1.length c1] 22)).alloc (.cells #[.int .i64 6] 3)).heap[w.heap.size + 1]? = some (.cells #[.slice none 0 0] 24 (0, 0)) := blk_alloc (blk_alloc (new1 w _ _) _) _
  have N2 : ((((w.alloc (.cells #[.int .i64 a0] 3)).alloc (.cells #[.slice none 0 0] 24)).alloc (.cells #[.slice A1 l1.length c1] 22)).alloc (.cells #[.int .i64 6] 3)).heap[w.heap.size + 1 + 1]? = some (.cells #[.slice A1 l1.length c1] 22 (0, 0)) := blk_alloc (new3 w _ _ _) _
  have N3 : ((((w.alloc (.cells #[.int .i64 a0] 3)).alloc (.cells #[.slice none 0 0] 24)).alloc (.cells #[.slice A1 l1.length c1] 22)).alloc (.cells #[.int .i64 6] 3)).heap[w.heap.size + 1 + 1 + 1]? = some (.cells #[.int .i64 6] 3 (0, 0)) := new4 w _ _ _ _
  have hB0 : Below w.heap.size w ((((w.alloc (.cells #[.int .i64 a0] 3)).alloc (.cells #[.slice none 0 0] 24)).alloc (.cells #[.slice A1 l1.length c1] 22)).alloc (.cells #[.int .i64 6] 3)) := below_alloc (below_alloc (below_alloc (below_alloc (Below.refl _ _) _) _) _) _
  have hsz : ((((w.alloc (.cells #[.int .i64 a0] 3)).alloc (.cells #[.slice none 0 0] 24)).alloc (.cells #[.slice A1 l1.length c1] 22)).alloc (.cells #[.int .i64 6] 3)).heap.size = w.heap.size + 4 := by simp
  generalize ((((w.alloc (.cells #[.int .i64 a0] 3)).alloc (.cells #[.slice none 0 0] 24)).alloc (.cells #[.slice A1 l1.length c1] 22)).alloc (.cells #[.int .i64 6] 3)) = W0 at N0 N1 N2 N3 hB0 hsz ⊢
  refine wpIn_rangeFunc_ownG rfl (by omega) (gf := 24) (lb := #[.pointer (some ⟨w.heap.size + 1 + 1, 0, none⟩), .pointer (some ⟨w.heap.size + 1 + 1 + 1, 0, none⟩)]) rfl trivial (enters_of Try.func24 (by kernel_rfl) rfl)
    (chunk_stops 5 (by omega) W0 A1 c1 l1 w (by omega) hc1 HR1.out (w.heap.size + 1 + 1) (w.heap.size + 1 + 1 + 1) hB0 ((blk_cell N2 0).trans rfl) ((blk_cell N3 0).trans rfl))
    KBox.trans (KBox.put (by omega) (by omega) (by omega)) (Below.refl _ _) (fun _ => rfl)
    (fun (pre : List (Piece w)) W => Inv w a0 (.slice A1 l1.length c1) (pre.map fun x => x.1.2) W) (fun _ _ _ => False) (inv_own w a0 _ w _ (by omega)) (fun _ _ _ _ _ hs _ _ => hs)
    ⟨N0, ⟨_, N1, Kd.S_nil _ _ _ _ _⟩, hB0, N2, N3⟩
    (fun x => { tmps := #[Value.int .i64 a0, Value.slice A1 l1.length c1, .pointer (some ⟨w.heap.size, 0, none⟩), undef, .slice none 0 0, .pointer (some ⟨w.heap.size + 1, 0, none⟩), .slice x.1.1 x.1.2.length x.1.2.length, .int .i64 a0, .bool false, .bool false, .int .i64 a0, .bool false, .bool false, .bool false, .slice A1 l1.length c1, .int .i64 (l1.length : Int), .int .i64 a0, .int .i64 (65535 - a0), .int .i64 (65535 - a0 + 1), .bool false, .bool false, .slice A1 l1.length c1, .func (.func 24) #[] #[.pointer (some ⟨w.heap.size + 1 + 1, 0, none⟩), .pointer (some ⟨w.heap.size + 1 + 1 + 1, 0, none⟩)], .slice x.1.1 x.1.2.length x.1.2.length, undef, undef, undef, undef, undef, undef, undef, undef, undef, undef, undef], defers := [] }) ?assign ?body ?done ?stop
  case assign =>
    intro l x W K hK
    gi_wp2
    exact hK
  case body =>
    rintro l pre x W ⟨hat, ⟨v, hout, hS⟩, hB, hbs, hbn⟩ hlt
    have hmx : Try.prog.follows .mixedOrders = true := by kernel_rfl
    obtain ⟨Au, nu, cu, ev⟩ : ∃ A n c, v = .slice A n c := by
      obtain ⟨A, c, e⟩ := Kd.S_slice hS
      exact ⟨_, _, _, e⟩
    have HEV := Aside0.mk ev
    subst ev
    clear HEV
    have HS := Aside0.mk hS
    have HBW := Aside0.mk hB
    have HAT := Aside0.mk hat
    have HOUT := Aside0.mk hout
    have HBS := Aside0.mk hbs
    have HBN := Aside0.mk hbn
    clear hS hB hat hout hbs hbn
    obtain ⟨aa, ea⟩ : ∃ aa, aa = atOf a0 (pre.map fun x => x.1.2) := ⟨_, rfl⟩
    have HEA := Aside0.mk ea
    rw [← ea] at HAT
    clear ea
    have c0 : W.drew.cell? ⟨w.heap.size, 0, none⟩ = some (.int .i64 aa) := (blk_cell (w := W) HAT.out 0).trans rfl
    have c1_ : W.drew.cell? ⟨w.heap.size + 1, 0, none⟩ = some (.slice Au nu cu) := (blk_cell (w := W) HOUT.out 0).trans rfl
    gi_wp2_with fail
    gi_region_with_o (
      refine ⟨trivial, ?_⟩
      gi_at_call 16
      refine (CallsIn.inRound l (callsIn_wide.2 (put_calls _ _ _ _ _ _ (Kd.C_below (Kd.C_below x.2 HBW.out) (below_drew1 (Below.refl _ _))) (Nat.le_refl _) (put_eq _ _)))).mono ?_
      rintro e w1 ⟨v0, rfl, ho0, hb⟩
      obtain ⟨v1, w2, hrun, hS2, hB2, hg, hty, hone⟩ := out_append w W.drew w1 (.slice Au nu cu) v0 (outs a0 (pre.map fun x => x.1.2)) _ (Kd.S_drew HS.out) hb ho0 (below_drew1 HBW.out) HBW.out.size (by rw [outs_length, List.length_map]; omega)
      obtain ⟨Ao, co, ev⟩ := Kd.R_slice ho0
      obtain ⟨Av, nv, cv, ev1⟩ : ∃ A n c, v1 = .slice A n c := by
        obtain ⟨A, c, e⟩ := Kd.S_slice hS2
        exact ⟨_, _, _, e⟩
      subst ev1
      rw [ev] at hrun
      have HS2 := Aside0.mk hS2
      have HB2 := Aside0.mk hB2
      have HG := Aside0.mk hg
      have HTY := Aside0.mk hty
      have HOE := Aside0.mk hone
      have HO0 := Aside0.mk ho0
      have HBB := Aside0.mk hb
      subst ev
      clear hS2 hB2 hg hty hone ho0 hb
      have e0 : w1.heap[w.heap.size]? = _ := (HBB.out.block _ (blk_lt (w := W) HAT.out)).trans HAT.out
      have e1 : w1.heap[w.heap.size + 1]? = _ := (HBB.out.block _ (blk_lt (w := W) HOUT.out)).trans HOUT.out
      have g0 := blk_grown e0 HG.out (ty_ne HTY.out e0 (by decide))
      have g1 := blk_grown e1 HG.out (ty_ne HTY.out e1 (by decide))
      have p0 : w1.cell? ⟨w.heap.size, 0, none⟩ = some (.int .i64 aa) := (blk_cell e0 0).trans rfl
      have p1 : w1.cell? ⟨w.heap.size + 1, 0, none⟩ = some (.slice Au nu cu) := (blk_cell e1 0).trans rfl
      have r0 : w2.cell? ⟨w.heap.size, 0, none⟩ = some (.int .i64 aa) := (blk_cell g0 0).trans rfl
      have r1 : w2.cell? ⟨w.heap.size + 1, 0, none⟩ = some (.slice Au nu cu) := (blk_cell g1 0).trans rfl
      have q1 := blk_frozen g1 0
      have q0 := blk_frozen g0 0
      have G0 := Aside0.mk g0
      have G1 := Aside0.mk g1
      have t0 := Nat.lt_trans (Nat.lt_succ_self _) (blk_lt e1)
      have t1 := blk_lt e1
      clear e0 e1 g0 g1
      )
    all_goals gi_wp2_with fail
    all_goals (
      rw [ownPostG_normal, List.map_append]
      exact body_end w W w1 w2 a0 aa _ _ _ (.slice Au nu cu) _ _ (by omega) HBW.out HAT.out HOUT.out HBS.out HBN.out HEA.out HBB.out HG.out HTY.out HB2.out (Kd.S_base HS.out) HS2.out)
  case done =>
    rintro D ys W hD hys ⟨hat, ⟨v, hout, hS⟩, hB, hbs, hbn⟩ hK
    have HS := Aside0.mk hS
    have HBW := Aside0.mk hB
    have c1_ : W.cell? ⟨w.heap.size + 1, 0, none⟩ = some v := (blk_cell hout 0).trans rfl
    clear hS hB hat hout hbs hbn
    gi_wp2_with fail
    refine ⟨by simp, .inl ⟨_, _, rfl, run_takeDeferred hK, ?_⟩⟩
    have hlt : D < W.heap.size := (Array.getElem?_eq_some_iff.1 hK).1
    have hgp := grownBy_putObj' W D (.deferred none)
    refine ⟨_, results_tmp rfl _ _ _, _, rfl, ?_, ?_⟩
    · rw [← hys]
      refine Kd.S_mono (Kd.S_grown (Kd.S_bound HS.out) hgp (fun k hk e => ?_)) (fun _ _ => trivial)
      obtain ⟨_, _, _, q, _, cells, hc⟩ := hk
      cases e
      rw [hc] at hK
      cases hK
    · exact HBW.out.grown hgp (by omega) (fun k e => by cases e; omega)
  case stop =>
    rintro D c pre W _ _ h _
    exact h.elim
/-- What chunk.Cut computes. -/
def cut (a : Int) (l : List Int) : Option (List (List Int)) := if 0 ≤ a ∧ a ≤ 65535 ∧ (l.length : Int) ≤ 65536 - a then some (outs a (pieces l ((l.length + 5) / 6))) else some []
theorem cut_no (a0 : Int) (A1 : Option Addr) (c1 : Nat) (l1 : List Int) (w : World) (h : ¬ (0 ≤ a0 ∧ a0 ≤ 65535 ∧ (l1.length : Int) ≤ 65536 - a0)) :
    Calls Try.prog 20 #[.int .i64 a0, .slice A1 l1.length c1] w fun e w' => e = .returned (.slice none 0 0) ∧ Below w.heap.size w w' := by
  have H := Aside0.mk h
  clear h
  by_cases k1 : a0 < 0
  · have b1 : decide (a0 < 0) = true := decide_eq_true k1
    clear k1 H
    go_enter Try.func20, Try.ntmps20
    go_wp2_with fail
    go_ret
    exact ⟨rfl, below_alloc (Below.refl _ _) _⟩
  · have b1 : decide (a0 < 0) = false := decide_eq_false k1
    by_cases k2 : 65535 < a0
    · have b2 : decide (65535 < a0) = true := decide_eq_true k2
      clear k1 k2 H
      go_enter Try.func20, Try.ntmps20
      go_wp2_with fail
      go_ret
      exact ⟨rfl, below_alloc (Below.refl _ _) _⟩
    · have b2 : decide (65535 < a0) = false := decide_eq_false k2
      have b5 : decide (65535 - a0 + 1 < (l1.length : Int)) = true := decide_eq_true (by have := H.out; omega)
      have n1 : 0 ≤ a0 := by omega
      have n2 : a0 ≤ 65535 := by omega
      clear H k1 k2
      go_enter Try.func20, Try.ntmps20
      go_wp2_with fail
      go_ret
      exact ⟨rfl, below_alloc (Below.refl _ _) _⟩
theorem cut_calls (a0 : Int) (A1 : Option Addr) (c1 : Nat) (l1 : List Int) (r : List (List Int)) (w : World) (hr1 : Kd.C (Kd.int .u64) w A1 l1.length l1) (hc1 : l1.length ≤ c1) (h : cut a0 l1 = some r) :
    Calls Try.prog 20 #[.int .i64 a0, .slice A1 l1.length c1] w fun e w' => ∃ v0_ : Value, e = .returned (v0_) ∧ Kd.S (Kd.slice 5 (Kd.int .u8)) 23 w' w.heap.size (fun _ => True) v0_ r ∧ Below w.heap.size w w' := by
  unfold cut at h
  by_cases k : 0 ≤ a0 ∧ a0 ≤ 65535 ∧ (l1.length : Int) ≤ 65536 - a0
  · rw [if_pos k] at h
    obtain rfl := Option.some.inj h
    exact cut_yes a0 A1 c1 l1 w hr1 hc1 k.1 k.2.1 k.2.2
  · rw [if_neg k] at h
    obtain rfl := Option.some.inj h
    refine (cut_no a0 A1 c1 l1 w k).mono ?_
    rintro e w' ⟨rfl, hb⟩
    exact ⟨_, rfl, Kd.S_nil _ _ _ _ _, hb⟩
end Go.Proofs.Ytfkgacjiccgdfaa.S
