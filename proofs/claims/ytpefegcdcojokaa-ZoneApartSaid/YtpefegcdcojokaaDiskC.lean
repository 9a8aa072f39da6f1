/- For every disk: what Read answers; the conditions stand in each theorem. -/
import Derived.Test.YtpefegcdcojokaaDiskB
import Derived.BigRegionIn
set_option linter.unusedVariables false
set_option linter.unusedSimpArgs false
namespace Go.Proofs.Ytpefegcdcojokaa.Disk
open Go Go.Proofs Go.RowKit Go.Shelf

attribute [local go_sem] Oper.semAt_some
set_option maxRecDepth 100000 in
set_option maxHeartbeats 2000000 in
theorem ReadNo_in (F : Fence) (n : Nat) (h15 : F.fn 15) (h33 : F.fn 33) (hro : F.round = none) (hn : 3 ≤ n) (d : Nat) (q c : Int) (hc0 : c ≠ 0) (w : World)
    (hck : ∀ W, Below w.heap.size w W → CallsIn F (n - 1) Try.prog 33 #[.pointer (some ⟨d, 0, none⟩), .int .i64 q] W fun e W' => e = .returned (.int .i64 c) ∧ W' = W) :
    CallsIn F n Try.prog 15 #[.pointer (some ⟨d, 0, none⟩), .int .i64 q] w fun e W' => e = .returned (.tuple #[.string ⟨#[]⟩, .int .i64 c]) ∧ Below w.heap.size w W' := by
  have h1 : 1 ≤ n := by omega
  have hB3 : Below w.heap.size w (((w.alloc (.cells #[.int .i64 q] 3)).alloc (.cells #[.string ⟨#[]⟩] 9)).alloc (.cells #[.int .i64 0] 29)) := (((Below.refl _ w).alloc (Nat.le_refl _) _).alloc (by simp) _).alloc (by simp; omega) _
  refine callsIn_of_wp_marks Try.func15 rfl h15 ?_ hro
  simp only [Try.ntmps15, List.size_toArray, List.length_cons, List.length_nil, Nat.reduceAdd, Nat.reduceSub, Array.replicate_succ, Array.replicate_zero, List.push_toArray, List.append_toArray, List.nil_append, List.cons_append]
  gi_wp2_with (gi_at_call 33; refine (hck _ hB3).mono ?_; rintro e w' ⟨rfl, rfl⟩)
  have hB4 : Below w.heap.size w (((w.alloc (.cells #[.int .i64 q] 3)).alloc (.cells #[.string ⟨#[]⟩] 9)).alloc (.cells #[.int .i64 c] 29)) := (((Below.refl _ w).alloc (Nat.le_refl _) _).alloc (by simp) _).alloc (by simp; omega) _
  have bA := (Boxed.new (w.alloc (.cells #[.int .i64 q] 3)) 9 (.string ⟨#[]⟩)).alloc (.cells #[.int .i64 c] 29)
  have bE := Boxed.new ((w.alloc (.cells #[.int .i64 q] 3)).alloc (.cells #[.string ⟨#[]⟩] 9)) 29 (.int .i64 c)
  have cA := bA.cell
  have cE := bE.cell
  rw [World.size_alloc] at cA
  rw [World.size_alloc, World.size_alloc] at cE
  refine ⟨.tuple #[.string ⟨#[]⟩, .int .i64 c], ?_, rfl, hB4⟩
  simp [results, Try.f15, go_sem, cA, cE]
set_option maxRecDepth 100000 in
set_option maxHeartbeats 4000000 in
theorem ReadYes_in (n : Nat) (h15 : Fence.wide.fn 15) (h33 : Fence.wide.fn 33) (h34 : Fence.wide.fn 34) (h47 : Fence.wide.fn 47) (hn : 3 ≤ n) (d : Nat) (q : Int) (w : World) (hd : d < w.heap.size)
    (hck : ∀ W, Below w.heap.size w W → CallsIn Fence.wide (n - 1) Try.prog 33 #[.pointer (some ⟨d, 0, none⟩), .int .i64 q] W fun e W' => e = .returned (.int .i64 0) ∧ W' = W)
    (lo : Option Addr) (lc : Nat) (zs : List (Int × ByteArray)) (hreach : zs.length * 8 ≤ 140737488351232) (hl : w.cell? ⟨d, 4, none⟩ = some (.slice lo zs.length lc))
    (hI : zs = [] ∨ ∃ b off, lo = some ⟨b, off, none⟩ ∧ b < w.heap.size ∧ ∀ j, j < zs.length → w.cell? ⟨b, off + j * 2, none⟩ = some (.int .i64 ((zs[j]?).getD (0, .empty)).1) ∧ w.cell? ⟨b, off + j * 2 + 1, none⟩ = some (.string ((zs[j]?).getD (0, .empty)).2))
    (sb so sn sc : Nat) (v : ByteArray) (hs : w.cell? ⟨d, 3, none⟩ = some (.slice (some ⟨sb, so, none⟩) sn sc)) (hsb : sb < w.heap.size) (hq0 : 0 ≤ q) (hqn : q < sn) (hv : w.cell? ⟨sb, so + q.toNat, none⟩ = some (.string v)) :
    CallsIn Fence.wide n Try.prog 15 #[.pointer (some ⟨d, 0, none⟩), .int .i64 q] w fun e W' => Below w.heap.size w W' ∧
      ((∃ k, k < zs.length ∧ (atB zs k).2.1 = q ∧ (∀ j, j < k → (atB zs j).2.1 ≠ q) ∧ e = .returned (.tuple #[.string (atB zs k).2.2, .int .i64 0])) ∨ ((∀ j, j < zs.length → (atB zs j).2.1 ≠ q) ∧ e = .returned (.tuple #[.string v, .int .i64 0]))) := by
  have h1 : 1 ≤ n := by omega
  have hB3 : Below w.heap.size w (((w.alloc (.cells #[.int .i64 q] 3)).alloc (.cells #[.string ⟨#[]⟩] 9)).alloc (.cells #[.int .i64 0] 29)) := (((Below.refl _ w).alloc (Nat.le_refl _) _).alloc (by simp) _).alloc (by simp; omega) _
  have hl3 := (hB3.cell (p := ⟨d, 4, none⟩) hd).trans hl
  refine callsIn_of_wp_marks Try.func15 rfl h15 ?_ rfl
  simp only [Try.ntmps15, List.size_toArray, List.length_cons, List.length_nil, Nat.reduceAdd, Nat.reduceSub, Array.replicate_succ, Array.replicate_zero, List.push_toArray, List.append_toArray, List.nil_append, List.cons_append]
  gi_wp2_with (first | (gi_at_call 33; refine (hck _ hB3).mono ?_; rintro e w' ⟨rfl, rfl⟩) | (gi_at_call 34; refine (back_in Fence.wide (n - 1) h34 rfl _ _ _ _).mono ?_; rintro e w' ⟨rfl, rfl⟩))
  generalize hW4 : ((((w.alloc (.cells #[.int .i64 q] 3)).alloc (.cells #[.string ⟨#[]⟩] 9)).alloc (.cells #[.int .i64 0] 29)).alloc (.cells #[.slice lo zs.length lc] 56)) = W4
  have hsz : W4.heap.size = w.heap.size + 1 + 1 + 1 + 1 := by rw [← hW4]; simp
  have hB4 : Below w.heap.size w W4 := by rw [← hW4]; exact hB3.alloc (by simp; omega) _
  have bQ : Boxed W4 w.heap.size 3 (.int .i64 q) := by rw [← hW4]; exact (((Boxed.new w 3 (.int .i64 q)).alloc _).alloc _).alloc _
  have bA : Boxed W4 (w.heap.size + 1) 9 (.string ⟨#[]⟩) := by
    rw [← hW4]
    have := ((Boxed.new (w.alloc (.cells #[.int .i64 q] 3)) 9 (.string ⟨#[]⟩)).alloc (.cells #[.int .i64 0] 29)).alloc (.cells #[.slice lo zs.length lc] 56)
    rwa [World.size_alloc] at this
  have bE : Boxed W4 (w.heap.size + 1 + 1) 29 (.int .i64 0) := by
    rw [← hW4]
    have := (Boxed.new ((w.alloc (.cells #[.int .i64 q] 3)).alloc (.cells #[.string ⟨#[]⟩] 9)) 29 (.int .i64 0)).alloc (.cells #[.slice lo zs.length lc] 56)
    rwa [World.size_alloc, World.size_alloc] at this
  have bS : Boxed W4 (w.heap.size + 1 + 1 + 1) 56 (.slice lo zs.length lc) := by
    rw [← hW4]
    have := Boxed.new (((w.alloc (.cells #[.int .i64 q] 3)).alloc (.cells #[.string ⟨#[]⟩] 9)).alloc (.cells #[.int .i64 0] 29)) 56 (.slice lo zs.length lc)
    rwa [World.size_alloc, World.size_alloc, World.size_alloc] at this
  have hI4 : zs = [] ∨ ∃ b off, lo = some ⟨b, off, none⟩ ∧ b < W4.heap.size ∧ ∀ j, j < zs.length → W4.cell? ⟨b, off + j * 2, none⟩ = some (.int .i64 ((zs[j]?).getD (0, .empty)).1) ∧ W4.cell? ⟨b, off + j * 2 + 1, none⟩ = some (.string ((zs[j]?).getD (0, .empty)).2) := by
    rcases hI with h | ⟨b, off, h1, h2, h3⟩
    · exact .inl h
    · exact .inr ⟨b, off, h1, by omega, fun j hj => ⟨(hB4.cell (p := ⟨b, off + j * 2, none⟩) h2).trans (h3 j hj).1, (hB4.cell (p := ⟨b, off + j * 2 + 1, none⟩) h2).trans (h3 j hj).2⟩⟩
  refine wpIn_rangeFunc_ownH rfl h1 (gf := 47) (lb := #[.pointer (some ⟨w.heap.size + 1 + 1 + 1, 0, none⟩)]) rfl h47 (enters_of Try.func47 (by kernel_rfl) rfl)
    (back_stops Fence.wide (n - 1) h47 rfl (by omega) (w.heap.size + 1 + 1 + 1) W4.heap.size lo lc zs hreach W4 (by omega) (Nat.le_refl _) bS.cell hI4) belowK_t (belowK_b (Nat.le_refl _)) (Below.refl _ _) (fun _ => rfl)
    (fun pre W => ((∀ p ∈ pre, p.2.1 ≠ q) ∧ Below w.heap.size w W) ∧ Below W4.heap.size W4 W)
    (fun c pre W => (c = .ret ∧ ∃ ini last, pre = ini ++ [last] ∧ (∀ p ∈ ini, p.2.1 ≠ q) ∧ last.2.1 = q ∧ W.cell? ⟨w.heap.size + 1, 0, none⟩ = some (.string last.2.2) ∧ W.cell? ⟨w.heap.size + 1 + 1, 0, none⟩ = some (.int .i64 0)) ∧ Below w.heap.size w W)
    (OwnFrom.and (OwnFrom.and (ownFrom_pure _ _) (ownFrom_below (Nat.le_refl _) (by omega))) (ownFrom_below (Nat.le_refl _) (Nat.le_refl _)))
    (fun c => OwnFrom.and (Own.from (fun s A B row hs hg hr => by obtain ⟨hc, ini, last, e1, e2, e3, e4, e5⟩ := hs; exact ⟨hc, ini, last, e1, e2, e3, cell_kept e4 hg hr, cell_kept e5 hg hr⟩) _) (ownFrom_below (Nat.le_refl _) (by omega)))
    ⟨⟨by simp, hB4⟩, Below.refl _ _⟩
    (fun x a' W => ∃ B, W4.heap.size ≤ B ∧ a' = { tmps := #[.pointer (some ⟨d, 0, none⟩), .int .i64 q, undef, .pointer (some ⟨w.heap.size, 0, none⟩), .pointer (some ⟨w.heap.size + 1, 0, none⟩), .pointer (some ⟨w.heap.size + 1 + 1, 0, none⟩), .int .i64 0, undef, .pointer (some ⟨B, 0, none⟩), .pointer (some ⟨d, 0, none⟩), .int .i64 q, .int .i64 0, .int .i64 0, .bool false, undef, .pointer (some ⟨d, 0, none⟩), .pointer (some ⟨d, 0, none⟩), .pointer (some ⟨d, 4, none⟩), .slice lo zs.length lc, .func (.func 47) #[] #[.pointer (some ⟨w.heap.size + 1 + 1 + 1, 0, none⟩)], .int .i64 x.1, .agg #[.int .i64 x.2.1, .string x.2.2], undef, undef, undef, undef, undef, undef, undef, undef, undef, undef, undef, undef, undef], defers := [] } ∧ W.cell? ⟨B, 0, none⟩ = some (.int .i64 x.2.1) ∧ W.cell? ⟨B, 1, none⟩ = some (.string x.2.2))
    (fun x a' => Own.from (fun s A B row hs hg hr => by obtain ⟨b, h1, h2, h3, h4⟩ := hs; exact ⟨b, h1, h2, cell_kept h3 hg hr, cell_kept h4 hg hr⟩) _) ?assign ?body ?done ?stop
  case assign =>
    rintro l pre x W K ⟨⟨hp, hB⟩, hBW⟩ hK
    simp only [encB]
    gi_wp2
    have hWs := hBW.size
    have hnew := World.alloc_heap_new W (.cells #[.int .i64 x.2.1, .string x.2.2] 60)
    exact hK _ _ ((KeepsOthers.alloc _ _).from _) ((Below.refl _ W).alloc (by omega) _) ⟨⟨hp, hB.alloc (by omega) _⟩, hBW.alloc hWs _⟩ ⟨W.heap.size, hWs, rfl, (V.Blk.new rfl).cell 0 rfl, (V.Blk.new rfl).cell 1 rfl⟩
  case body =>
    rintro l pre x a' W hl hr ⟨⟨hp, hB⟩, hBW⟩ ⟨B, hBB, rfl, hc0, hc1⟩ _
    have bQ' : Boxed W w.heap.size 3 (.int .i64 q) := (hBW.block _ (by omega)).trans bQ
    have bA' : Boxed W (w.heap.size + 1) 9 (.string ⟨#[]⟩) := (hBW.block _ (by omega)).trans bA
    have bE' : Boxed W (w.heap.size + 1 + 1) 29 (.int .i64 0) := (hBW.block _ (by omega)).trans bE
    have cQ := bQ'.cell
    have cA := bA'.cell
    have fA := bA'.frozen
    have cE := bE'.cell
    have fE := bE'.frozen
    gi_wp2
    · have hx : x.2.1 = q := by first | assumption | simp_all
      have b1 := (bA'.set (.string x.2.2)).other (B' := w.heap.size + 1 + 1) (by omega) (.int .i64 0)
      have b2 := (bE'.other (B' := w.heap.size + 1) (by omega) (.string x.2.2)).set (.int .i64 0)
      exact ⟨((KeepsOthers.setCell _ _ _).trans (KeepsOthers.setCell _ _ _)).from _, ⟨rfl, pre, x, rfl, hp, hx, b1.cell, b2.cell⟩, (hB.setCell (p := ⟨w.heap.size + 1, 0, none⟩) (Nat.le_succ _) _).setCell (p := ⟨w.heap.size + 1 + 1, 0, none⟩) (by show w.heap.size ≤ w.heap.size + 1 + 1; omega) _⟩
    · have hx : x.2.1 ≠ q := by first | assumption | simp_all
      exact ⟨KeepsFrom.refl _ _, Below.refl _ _, ⟨fun p hp' => (List.mem_append.1 hp').elim (hp p) (fun e => by rw [List.mem_singleton] at e; subst e; exact hx), hB⟩, hBW⟩
  case done =>
    rintro D ys W hD rfl ⟨⟨hne, hB⟩, hBW⟩ hK
    have bQ' : Boxed W w.heap.size 3 (.int .i64 q) := (hBW.block _ (by omega)).trans bQ
    have bA' : Boxed W (w.heap.size + 1) 9 (.string ⟨#[]⟩) := (hBW.block _ (by omega)).trans bA
    have bE' : Boxed W (w.heap.size + 1 + 1) 29 (.int .i64 0) := (hBW.block _ (by omega)).trans bE
    have cQ := bQ'.cell
    have cA := bA'.cell
    have fA := bA'.frozen
    have cE := bE'.cell
    have fE := bE'.frozen
    have cS := (hB.cell (p := ⟨d, 3, none⟩) hd).trans hs
    have cV := (hB.cell (p := ⟨sb, so + q.toNat, none⟩) hsb).trans hv
    obtain ⟨qn, rfl⟩ : ∃ k : Nat, q = k := ⟨q.toNat, by omega⟩
    rw [Int.toNat_natCast] at cV
    gi_wp2
    gi_region
    all_goals (try gi_wp2)
    have b1 : Boxed ((W.setCell ⟨w.heap.size + 1, 0, none⟩ (.string v)).setCell ⟨w.heap.size + 1 + 1, 0, none⟩ (.int .i64 0)).drew (w.heap.size + 1) 9 (.string v) := (bA'.set (.string v)).other (B' := w.heap.size + 1 + 1) (by omega) (.int .i64 0)
    have b2 : Boxed ((W.setCell ⟨w.heap.size + 1, 0, none⟩ (.string v)).setCell ⟨w.heap.size + 1 + 1, 0, none⟩ (.int .i64 0)).drew (w.heap.size + 1 + 1) 29 (.int .i64 0) := (bE'.other (B' := w.heap.size + 1) (by omega) (.string v)).set (.int .i64 0)
    have hK' : ((W.setCell ⟨w.heap.size + 1, 0, none⟩ (.string v)).setCell ⟨w.heap.size + 1 + 1, 0, none⟩ (.int .i64 0)).drew.heap[D]? = some (.deferred (some [])) := ((KeepsOthers.setCell W ⟨w.heap.size + 1, 0, none⟩ (.string v)).trans (KeepsOthers.setCell _ ⟨w.heap.size + 1 + 1, 0, none⟩ (.int .i64 0))).same D _ hK rfl
    refine ⟨by simp, .inl ⟨_, _, rfl, run_takeDeferred hK', ?_⟩⟩
    have c1 := cell_kept b1.cell (grownBy_putObj' _ D (.deferred none)) (fun r e => by cases e; exact ⟨_, hK', rfl⟩)
    have c2 := cell_kept b2.cell (grownBy_putObj' _ D (.deferred none)) (fun r e => by cases e; exact ⟨_, hK', rfl⟩)
    refine ⟨.tuple #[.string v, .int .i64 0], ?_, ?_, .inr ⟨fun j hj => hne (atB zs j) (by simp only [upto, List.mem_map, List.mem_range]; exact ⟨j, hj, rfl⟩), rfl⟩⟩
    · simp [results, Try.f15, go_sem, c1, c2]
    · exact (((hB.setCell (p := ⟨w.heap.size + 1, 0, none⟩) (Nat.le_succ _) _).setCell (p := ⟨w.heap.size + 1 + 1, 0, none⟩) (by show w.heap.size ≤ w.heap.size + 1 + 1; omega) _).drew).trans (belowK_b (w := w) (Nat.le_refl _) _ D _ _ (by omega) hK' rfl rfl)
  case stop =>
    rintro D c pre W hD ⟨k, hk, rfl⟩ ⟨⟨rfl, ini, last, e1, e2, e3, c1, c2⟩, hB⟩ hK
    gi_wp2
    refine ⟨by simp, .inl ⟨_, _, rfl, run_takeDeferred hK, ?_⟩⟩
    have c1 := cell_kept c1 (grownBy_putObj' _ D (.deferred none)) (fun r e => by cases e; exact ⟨_, hK, rfl⟩)
    have c2 := cell_kept c2 (grownBy_putObj' _ D (.deferred none)) (fun r e => by cases e; exact ⟨_, hK, rfl⟩)
    obtain ⟨k', rfl⟩ : ∃ k', k = k' + 1 := by
      cases k with
      | zero => simp [upto] at e1
      | succ k' => exact ⟨k', rfl⟩
    rw [upto_succ] at e1
    obtain ⟨rfl, e5⟩ := List.append_inj' e1 rfl
    obtain rfl : atB zs k' = last := by simpa using e5
    refine ⟨.tuple #[.string (atB zs k').2.2, .int .i64 0], ?_, hB.trans (belowK_b (w := w) (Nat.le_refl _) W D _ _ (by omega) hK rfl rfl), .inl ⟨k', by omega, e3, fun j hj => e2 (atB zs j) (by simp only [upto, List.mem_map, List.mem_range]; exact ⟨j, hj, rfl⟩), rfl⟩⟩
    simp [results, Try.f15, go_sem, c1, c2]
end Go.Proofs.Ytpefegcdcojokaa.Disk
