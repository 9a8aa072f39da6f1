/- For every pool of pages: what the laws' own helpers answer; the conditions stand in each theorem. -/
import Derived.Test.YtpcddfhfchempaaPages4
import Derived.Test.YtpcddfhfchempaaVcPagesL
set_option linter.unusedVariables false
set_option linter.unusedSimpArgs false
namespace Go.Proofs.Ytpcddfhfchempaa.Pages
open Go Go.Proofs Go.Proofs.Ytpcddfhfchempaa.V Go.Proofs.Ytpcddfhfchempaa.Vc Go.Proofs.Ytpcddfhfchempaa.Step Go.RowKit

def entE (n : Int) : Ent := ([[n]], [[IntKind.i64.wrap (0 - n), n]])
theorem entE_small (n : Int) : smallE (entE n) := ⟨⟨by simp [entE], fun xs h => by simp [entE] at h; subst h; simp⟩, ⟨by simp [entE], fun xs h => by simp [entE] at h; subst h; simp⟩⟩
theorem entry_spec (w : World) (n : Int) : Calls Try.prog i_coadjutorlaw22_entry #[.int .i64 n] w (Ret fun v w' => ∃ q : Value × Value, v = .agg #[q.1, q.2] ∧ EntV w' q (entE n) (New w w') ∧ Ch Non w w') := by
  refine coadjutorlaw22_entry.calls _ ?_
  unfold coadjutorlaw22_entry.vc
  intro w1 e1 w2 e2 w3 e3 w4 e4 w5 e5
  have hc1 : Ch Non w w1 := Ch.alloc e1
  have hc2 : Ch Non w1 w2 := Ch.alloc e2
  have hc3 : Ch Non w2 w3 := Ch.alloc e3
  have hc4 : Ch Non w3 w4 := Ch.alloc e4
  have hc5 : Ch Non w4 w5 := Ch.alloc e5
  have hA := ((((Blk.new e1).alloc e2).alloc e3).alloc e4).alloc e5
  have hB := (((Blk.new e2).alloc e3).alloc e4).alloc e5
  have hC := ((Blk.new e3).alloc e4).alloc e5
  have hD := (Blk.new e4).alloc e5
  have hE := Blk.new e5
  have s1 : w.heap.size < w1.heap.size := (Blk.new e1).lt
  have s2 : w1.heap.size < w2.heap.size := (Blk.new e2).lt
  have s3 : w2.heap.size < w3.heap.size := (Blk.new e3).lt
  have s4 : w3.heap.size < w4.heap.size := (Blk.new e4).lt
  have s5 : w4.heap.size < w5.heap.size := (Blk.new e5).lt
  refine ⟨⟨hA.ok 0 rfl, hA.ok 1 rfl⟩, fun w6 e6 => ?_⟩
  have e7 : w6 = w5.setCells w.heap.size 0 [.slice (some ⟨w2.heap.size, 0, none⟩) 1 1, .slice (some ⟨w4.heap.size, 0, none⟩) 1 1] := e6
  have hA6 := hA.all [.slice (some ⟨w2.heap.size, 0, none⟩) 1 1, .slice (some ⟨w4.heap.size, 0, none⟩) 1 1] rfl e7
  have hc6 : Ch (· = w.heap.size) w5 w6 := Ch.sets e7 rfl
  have s6 := hc6.size
  refine ⟨_, _, _, _, _, _, ⟨hA6.cell 0 rfl, hA6.cell 1 rfl⟩, (_, _), rfl, ⟨?_, ?_⟩, ((((hc1.andN hc2).andN hc3).andN hc4).andN hc5).trans hc6 (fun i hi h => by omega)⟩
  · have hb : Rd w5 (some ⟨w1.heap.size, 0, none⟩) (([n] : List Int).map (.int .i64)) (· = w1.heap.size) := hB.rd
    have hcr : Rd w5 (some ⟨w2.heap.size, 0, none⟩) [.slice (some ⟨w1.heap.size, 0, none⟩) 1 1] (· = w2.heap.size) := hC.rd
    exact ⟨_, _, [.slice (some ⟨w1.heap.size, 0, none⟩) 1 1], rfl, (hcr.keep hc6 (fun i _ a b => by omega)).mono (fun i _ hi => ⟨by omega, by omega⟩), .cons ⟨_, _, rfl, (hb.keep hc6 (fun i _ a b => by omega)).mono (fun i _ hi => ⟨by omega, by omega⟩)⟩ .nil⟩
  · have hb : Rd w5 (some ⟨w3.heap.size, 0, none⟩) (([IntKind.i64.wrap (0 - n), n] : List Int).map (.int .i64)) (· = w3.heap.size) := hD.rd
    have hcr : Rd w5 (some ⟨w4.heap.size, 0, none⟩) [.slice (some ⟨w3.heap.size, 0, none⟩) 2 2] (· = w4.heap.size) := hE.rd
    exact ⟨_, _, [.slice (some ⟨w3.heap.size, 0, none⟩) 2 2], rfl, (hcr.keep hc6 (fun i _ a b => by omega)).mono (fun i _ hi => ⟨by omega, by omega⟩), .cons ⟨_, _, rfl, (hb.keep hc6 (fun i _ a b => by omega)).mono (fun i _ hi => ⟨by omega, by omega⟩)⟩ .nil⟩
theorem New0_spec (w : World) (n : Int) (h : n < 1 ∨ 64 < n) : Calls Try.prog i_pages_New #[.int .i64 n] w (Ret fun v w' => v = .pointer none ∧ w' = w) := by
  refine pages_New.calls _ ?_
  unfold pages_New.vc
  exact ⟨fun _ => ⟨rfl, rfl⟩, fun h1 => ⟨fun _ => ⟨rfl, rfl⟩, fun h2 => by have := of_decide_eq_false h1; have := of_decide_eq_false h2; omega⟩⟩
/-- A pool of the call's own. -/
structure Pool (W w : World) (pb : Nat) (ps : List PageD) (F : Nat → Prop) : Prop where
  r : PoolR w pb ps F
  f : Foot W w F
  c : Ch Non W w
section
variable {W w w' : World} {pb : Nat} {ps ps' : List PageD} {F : Nat → Prop}
theorem Pool.keepN (h : Pool W w pb ps F) (hc : Ch Non w w') : Pool W w' pb ps F := ⟨h.r.keepN hc, h.f.le hc.size, h.c.andN hc⟩
theorem Pool.step (h : Pool W w pb ps F) (hr : PoolR w' pb ps' F) (hc : Ch F w w') : Pool W w' pb ps' F := ⟨hr, h.f.le hc.size, h.f.hi h.c hc⟩
theorem Pool.ext (h : Pool W w pb ps F) (hr : PoolR w' pb ps' (Ext F w w')) (hc : Ch F w w') : Pool W w' pb ps' (Ext F w w') := ⟨hr, h.f.ext h.c hc.size, h.f.hi h.c hc⟩
theorem Pool.lt (h : Pool W w pb ps F) : ∀ i, F i → i < w.heap.size := fun i hi => (h.f i hi).2
theorem Pool.old (h : Pool W w pb ps F) {G : Nat → Prop} (hG : ∀ i, G i → i < W.heap.size) : ∀ i, i < w.heap.size → G i → ¬ F i := fun i _ hi hf => absurd (h.f i hf).1 (Nat.not_le.2 (hG i hi))
end
set_option maxRecDepth 100000 in
theorem awake_spec (w : World) : Calls Try.prog i_coadjutorlaw22_awake #[] w (Ret fun v w' => v = .bool true ∧ Ch Non w w') := by
  refine coadjutorlaw22_awake.calls ?_
  unfold coadjutorlaw22_awake.vc
  refine step_call (New_spec w 2 (by omega)) ?_
  rintro v w1 ⟨pb, rfl, hP, hc1⟩
  have hP : Pool w w1 pb [pg0, pg0] (New w w1) := ⟨hP, Foot.new (Ch.refl _ _), hc1⟩
  generalize New w w1 = F at hP
  refine ⟨_, rfl, iteF rfl ?_⟩
  refine step_call (New0_spec w1 0 (by omega)) ?_
  rintro v w2 ⟨rfl, rfl⟩
  refine ⟨_, rfl, iteF rfl ?_⟩
  refine step_call (Take_spec hP.r 7) ?_
  rintro v w3 ⟨rfl, hr, hc⟩
  have v1 : takeV [pg0, pg0] 7 = (0, 0) := by decide
  have v2 : takeP [pg0, pg0] 7 = [⟨7, 1, []⟩, pg0] := rfl
  rw [v2] at hr
  rw [v1]
  have hP := hP.step hr hc
  refine ⟨0, 0, rfl, ?_⟩
  refine step_call (entry_spec w3 5) ?_
  rintro v w4 ⟨⟨qa, qb⟩, rfl, hq, hc4⟩
  have hP := hP.keepN hc4
  have hq0 := hq
  obtain ⟨⟨oa, ca, va, hqa, _, _⟩, ⟨ob, cb, vb, hqb, _, _⟩⟩ := hq
  dsimp only at hqa hqb
  subst hqa; subst hqb
  refine ⟨oa, _, ca, ob, _, cb, rfl, ?_⟩
  refine step_call (Put_spec (p := (_, _)) hP.r 0 hq0 (entE_small 5)) ?_
  rintro v w5 ⟨rfl, hr, hc⟩
  have v3 : putV [⟨7, 1, []⟩, pg0] 0 = 0 := by decide
  have v4 : putP [⟨7, 1, []⟩, pg0] 0 (entE 5) = [⟨7, 1, [entE 5]⟩, pg0] := rfl
  rw [v4] at hr
  rw [v3]
  have hP := hP.ext hr hc
  clear hr hc hq0 hc4
  generalize Ext F w4 w5 = F at hP
  refine ⟨_, rfl, fun w6 e6 => ?_⟩
  have hr6 : Rd w6 (some ⟨w5.heap.size, 0, none⟩) (([0] : List Int).map (.int .i64)) (· = w5.heap.size) := (Blk.new e6).rd
  have hlt5 := hP.lt
  have hP := hP.keepN (Ch.alloc e6)
  have b1 : bnd 1 [⟨7, 1, [entE 5]⟩, pg0] := fun p hp => by
    simp only [List.mem_cons, List.not_mem_nil, or_false] at hp
    rcases hp with rfl | rfl
    · simp
    · simp [pg0]
  refine step_call (Share_spec (B := 1) hP.r hr6 (fun i _ hi hf => by have := hlt5 i hf; omega) (by simp) (by omega) b1 1) ?_
  rintro v w7 ⟨rfl, hr, hc⟩
  have v5 : allB [⟨7, 1, [entE 5]⟩, pg0] [0] = true := by decide
  have v6 : shareL [⟨7, 1, [entE 5]⟩, pg0] [0] = [⟨7, 2, [entE 5]⟩, pg0] := rfl
  rw [v5, if_pos rfl, v6] at hr
  rw [v5]
  have hP := hP.step hr hc
  clear hr6 hlt5 b1 hr hc
  refine ⟨_, rfl, ?_⟩
  refine step_call (entry_spec w7 6) ?_
  rintro v w8 ⟨⟨qa, qb⟩, rfl, hq, hc8⟩
  have hP := hP.keepN hc8
  have hq0 := hq
  obtain ⟨⟨oa, ca, va, hqa, _, _⟩, ⟨ob, cb, vb, hqb, _, _⟩⟩ := hq
  dsimp only at hqa hqb
  subst hqa; subst hqb
  refine ⟨oa, _, ca, ob, _, cb, rfl, ?_⟩
  refine step_call (Put_spec (p := (_, _)) hP.r 0 hq0 (entE_small 6)) ?_
  rintro v w9 ⟨rfl, hr, hc⟩
  have v3 : putV [⟨7, 2, [entE 5]⟩, pg0] 0 = 7 := by decide
  have v4 : putP [⟨7, 2, [entE 5]⟩, pg0] 0 (entE 6) = [⟨7, 2, [entE 5]⟩, pg0] := rfl
  rw [v4] at hr
  rw [v3]
  have hP := hP.ext hr hc
  clear hr hc hq0 hc8
  generalize Ext F w8 w9 = F at hP
  refine ⟨_, rfl, fun w10 e10 => ?_⟩
  have hr10 : Rd w10 (some ⟨w9.heap.size, 0, none⟩) (([0, 0] : List Int).map (.int .i64)) (· = w9.heap.size) := (Blk.new e10).rd
  have hs10 : w9.heap.size < w10.heap.size := (Blk.new e10).lt
  have hlt9 := hP.lt
  have hP := hP.keepN (Ch.alloc e10)
  have b2 : bnd 2 [⟨7, 2, [entE 5]⟩, pg0] := fun p hp => by
    simp only [List.mem_cons, List.not_mem_nil, or_false] at hp
    rcases hp with rfl | rfl
    · simp
    · simp [pg0]
  refine step_call (Drop_spec (B := 2) hP.r hP.lt hr10 (fun i hi => by omega) (fun i _ hi hf => by have := hlt9 i hf; omega) (by simp) (by simp) (by omega) b2 2) ?_
  rintro v w11 ⟨rfl, hr, hc⟩
  have v5 : allB [⟨7, 2, [entE 5]⟩, pg0] [0, 0] = true := by decide
  have v6 : overB [⟨7, 2, [entE 5]⟩, pg0] [0, 0] = false := by decide
  have v7 : dropL [⟨7, 2, [entE 5]⟩, pg0] [0, 0] = [pg0, pg0] := rfl
  rw [v5, v6] at hr ⊢
  have hr : PoolR w11 pb (dropL [⟨7, 2, [entE 5]⟩, pg0] [0, 0]) F := hr
  rw [v7] at hr
  have hP := hP.step hr hc
  clear hr10 hs10 hlt9 b2 hr hc
  refine ⟨0, rfl, iteT rfl (iteT rfl (iteT rfl (iteT rfl (iteT rfl (iteT rfl ?_)))))⟩
  refine step_call (Free_spec hP.r) ?_
  rintro v w12 ⟨rfl, rfl⟩
  refine ⟨2, rfl, iteT rfl ?_⟩
  refine step_call (Version_spec hP.r 0) ?_
  rintro v w13 ⟨rfl, rfl⟩
  refine ⟨0, rfl, iteT rfl (fun w14 e14 => ?_)⟩
  have hr14 : Rd w14 (some ⟨w13.heap.size, 0, none⟩) (([0] : List Int).map (.int .i64)) (· = w13.heap.size) := (Blk.new e14).rd
  have hs14 : w13.heap.size < w14.heap.size := (Blk.new e14).lt
  have hlt13 := hP.lt
  have hP := hP.keepN (Ch.alloc e14)
  have b0 : bnd 0 [pg0, pg0] := fun p hp => by
    simp only [List.mem_cons, List.not_mem_nil, or_false] at hp
    rcases hp with rfl | rfl <;> simp [pg0]
  refine step_call (Drop_spec (B := 0) hP.r hP.lt hr14 (fun i hi => by omega) (fun i _ hi hf => by have := hlt13 i hf; omega) (by simp) (by simp) (by omega) b0 1) ?_
  rintro v w15 ⟨rfl, hr, hc⟩
  have v8 : allB [pg0, pg0] [0] = false := by decide
  rw [v8]
  exact ⟨8, rfl, rfl, hP.f.hi hP.c hc⟩
end Go.Proofs.Ytpcddfhfchempaa.Pages
