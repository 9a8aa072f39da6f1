/- PagesUsers's contract: of every row of deeds the Go function answers true and leaves what was there; the conditions stand in each theorem. -/
import Derived.Test.YtpcddfhfchempaaPagesLaw2
set_option linter.unusedVariables false
set_option linter.unusedSimpArgs false
namespace Go.Proofs.Ytpcddfhfchempaa.Pages
open Go Go.Proofs Go.Proofs.Ytpcddfhfchempaa.V Go.Proofs.Ytpcddfhfchempaa.Vc Go.Proofs.Ytpcddfhfchempaa.Step Go.RowKit

theorem PagesUsers_true (W : World) (n : Int) (_ : (Lit.int .i64 n).wf = true) (o1 : Option Addr) (n1 c1 : Nat) (h1 : DatC Try.prog W t_S_coadjutorlaw22_Act [.slice o1 n1 c1]) :
    Calls Try.prog i_coadjutorlaw22_PagesUsers #[.int .i64 n, .slice o1 n1 c1] W (Ret fun v w' => v = .bool true ∧ Ch Non W w') := by
  obtain ⟨o1', c1', av, hcs1, _, _, hm1, hQ, ha⟩ := h1.sliceOf (e := t_coadjutorlaw22_Act) (enc := actE) (Q := fun y => Rd W y.o (y.l.map (.int .i64)) (fun _ => True)) (by kernel_rfl) (fun x hl hd => act_dat hl hd)
  injection hcs1 with hcs1
  injection hcs1 with q1 q2 q3
  subst q1; subst q2; subst q3
  refine coadjutorlaw22_PagesUsers.calls _ _ _ _ ?_
  unfold coadjutorlaw22_PagesUsers.vc
  refine step_call (awake_spec W) ?_
  rintro v w1 ⟨rfl, hC1⟩
  refine ⟨_, rfl, iteF rfl ⟨by decide, ?_⟩⟩
  have hk := modP n (n := 20) (by omega)
  generalize IntKind.i64.wrap (1 + IntKind.i64.wrap (Int.tmod (IntKind.u64.wrap n) 20)) = kk at hk ⊢
  refine step_call (New_spec w1 kk (by omega)) ?_
  rintro v w2 ⟨pb, rfl, hr2, hc2⟩
  have hP2 : Pool W w2 pb (List.replicate kk.toNat pg0) (New w1 w2) := ⟨hr2, Foot.new hC1, hC1.andN hc2⟩
  have hI2 : Inv kk.toNat 1 (List.replicate kk.toNat pg0) := ⟨by simp, fun p hp => by
    obtain rfl := (List.mem_replicate.1 hp).2
    simp [pg0]⟩
  generalize List.replicate kk.toNat pg0 = ps2 at hP2 hI2
  generalize New w1 w2 = F2 at hP2
  clear hr2 hc2 hC1
  refine ⟨_, rfl, fun w' => ∃ (ps : List PageD) (F : Nat → Prop), Pool W w' pb ps F ∧ Inv kk.toNat 1000 ps, ⟨fun i k w' => ∃ (j : Nat) (ps : List PageD) (F : Nat → Prop), i = j ∧ j ≤ av.length ∧ j ≤ 60 ∧ k = av.length - j ∧ Pool W w' pb ps F ∧ Inv kk.toNat (10 * j + 1) ps, ⟨_, 0, ps2, F2, rfl, Nat.zero_le _, by omega, rfl, hP2, hI2.le (by omega)⟩, ?_⟩, ?_⟩
  · clear hP2 hI2
    rintro jk i k w3 ⟨j, ps, F, rfl, hj, hj60, rfl, hP, hI⟩
    refine ⟨fun hlt => ⟨fun h60 => ?_, fun _ => ⟨ps, F, hP, hI.le (by omega)⟩⟩, fun _ => ⟨ps, F, hP, hI.le (by omega)⟩⟩
    have hlt : j < av.length := by have := of_decide_eq_true hlt; omega
    have h60 : j < 60 := by have := of_decide_eq_true h60; omega
    obtain ⟨p, hp, _, _, hcell⟩ := (ha.keepN hP.c).elem (sz := 4) (enc := actE) (fun _ => rfl) (by omega) hlt
    have hl := hQ _ (List.getElem_mem hlt)
    generalize av[j] = x at hcell hl
    rw [← Int.toNat_natCast j] at hcell
    have h0 := hcell 0 _ rfl
    rw [add_none] at h0
    subst hp
    refine ⟨fun w' => ∃ (ps : List PageD) (F : Nat → Prop), Pool W w' pb ps F ∧ Inv kk.toNat (10 * ((j : Int) + 1) + 1) ps, ⟨⟨by omega, by omega⟩, ?_⟩, ?_⟩
    · refine ⟨_, _, _, _, _, _, ⟨h0, hcell 1 _ rfl, hcell 2 _ rfl, hcell 3 _ rfl⟩, fun w4 e4 => ?_⟩
      have hX4 := Blk.new e4
      refine ⟨⟨hX4.ok 0 rfl, hX4.ok 1 rfl, hX4.ok 2 rfl, hX4.ok 3 rfl⟩, fun w5 e5 => ?_⟩
      have e6 : w5 = w4.setCells w3.heap.size 0 (actE x) := e5
      have hX5 := hX4.all (actE x) rfl e6
      have hc35 : Ch Non w3 w5 := (Ch.alloc (F := Non) e4).trans (Ch.sets (F := (· = w3.heap.size)) e6 rfl) (fun i hi he => by omega)
      have hxF : ¬ F w3.heap.size := fun h => Nat.lt_irrefl _ (hP.lt _ h)
      clear e4 e5 e6 hX4 hcell h0
      have hX5 : Blk w5 w3.heap.size (actE x) 29 := hX5
      generalize w3.heap.size = xb at hX5 hxF ⊢
      have hP5 := hP.keepN hc35
      clear hP
      refine ⟨_, _, _, hX5.cell 3 rfl, fun _ => ⟨rfl, hP5.c⟩, fun h10 => ?_⟩
      have h10 : x.l.length ≤ 10 := by have := of_decide_eq_false h10; omega
      have hr5 : Rd w5 x.o (x.l.map (.int .i64)) (fun i => i < W.heap.size) := (hl.mono (fun i hi _ => hi)).keepN hP5.c
      refine ⟨_, hX5.cell 0 rfl, fun hk3 => ⟨_, _, _, hX5.cell 3 rfl, ?_⟩, fun hk3 => ⟨fun hk4 => ⟨_, _, _, hX5.cell 3 rfl, ?_⟩, fun hk4 => ⟨fun hk5 => ⟨fun _ => ?_, fun _ => ?_⟩, fun hk5 => ⟨fun hk6 => ⟨fun _ => ?_, fun _ => ?_⟩, fun hk6 => ⟨fun hk7 => ?_, fun hk7 => ?_⟩⟩⟩⟩⟩
      · refine step_call (Share_spec hP5.r hr5 (hP5.old (fun _ h => h)) (by omega) (by omega) hI.bnd x.c) ?_
        rintro v w8 ⟨rfl, hr8, hc8⟩
        refine ⟨_, rfl, _, _, hP5.step hr8 hc8, ?_⟩
        cases hall : allB ps x.l with
        | false => exact hI.le (by omega)
        | true => exact (hI.share hall).le (by omega)
      · refine step_call (Drop_spec hP5.r hP5.lt hr5 (fun i hi => Nat.lt_of_lt_of_le hi hP5.c.size) (hP5.old (fun _ h => h)) (by omega) (by rw [hI.len]; omega) (by omega) hI.bnd x.c) ?_
        rintro v w8 ⟨rfl, hr8, hc8⟩
        refine ⟨_, rfl, _, _, hP5.step hr8 hc8, ?_⟩
        cases hall : allB ps x.l with
        | false => exact hI.le (by omega)
        | true =>
          cases hov : overB ps x.l with
          | true => exact hI.le (by omega)
          | false => exact (hI.drop hall hov).le (by omega)
      ·
        refine ⟨fun w' => Blk w' xb (actE x) 29, fun w6 e6 => ⟨hX5.drew e6, _, fun w' h => h.cell 1 rfl, _, fun w' h => h.cell 2 rfl, ?_⟩⟩
        refine step_call (entry_spec w6 _) ?_
        rintro v w7 ⟨⟨qa, qb⟩, rfl, hq, hc7⟩
        have hP7 := (hP5.keepN (Ch.drew e6)).keepN hc7
        have hX7 := (hX5.drew e6).keepN hc7
        have hq0 := hq
        obtain ⟨⟨oa, ca, va, hqa, _, _⟩, ⟨ob, cb, vb, hqb, _, _⟩⟩ := hq
        dsimp only at hqa hqb
        subst hqa; subst hqb
        refine ⟨oa, _, ca, ob, _, cb, rfl, hX7, ?_⟩
        refine step_call (Put_spec (p := (_, _)) hP7.r _ hq0 (entE_small _)) ?_
        rintro v w8 ⟨rfl, hr8, hc8⟩
        exact ⟨_, rfl, hX7.keep hc8 hxF, _, _, hP7.ext hr8 hc8, (hI.put _ _).le (by omega)⟩
      ·
        have hm := modP x.n (n := 4) (by omega)
        refine ⟨_, hX5.cell 2 rfl, by decide, ?_⟩
        refine step_call (Take_spec hP5.r _) ?_
        rintro v w8 ⟨rfl, hr8, hc8⟩
        exact ⟨_, _, rfl, _, _, hP5.step hr8 hc8, (hI.take (by omega) hm).le (by omega)⟩
      ·
        refine ⟨fun w' => Blk w' xb (actE x) 29, fun w6 e6 => ⟨hX5.drew e6, _, fun w' h => h.cell 1 rfl, _, fun w' h => h.cell 2 rfl, ?_⟩⟩
        refine step_call (entry_spec w6 _) ?_
        rintro v w7 ⟨⟨qa, qb⟩, rfl, hq, hc7⟩
        have hP7 := (hP5.keepN (Ch.drew e6)).keepN hc7
        have hX7 := (hX5.drew e6).keepN hc7
        have hq0 := hq
        obtain ⟨⟨oa, ca, va, hqa, _, _⟩, ⟨ob, cb, vb, hqb, _, _⟩⟩ := hq
        dsimp only at hqa hqb
        subst hqa; subst hqb
        refine ⟨oa, _, ca, ob, _, cb, rfl, hX7, ?_⟩
        refine step_call (Put_spec (p := (_, _)) hP7.r _ hq0 (entE_small _)) ?_
        rintro v w8 ⟨rfl, hr8, hc8⟩
        exact ⟨_, rfl, hX7.keep hc8 hxF, _, _, hP7.ext hr8 hc8, (hI.put _ _).le (by omega)⟩
      ·
        have hm := modP x.n (n := 4) (by omega)
        refine ⟨_, hX5.cell 2 rfl, by decide, ?_⟩
        refine step_call (Take_spec hP5.r _) ?_
        rintro v w8 ⟨rfl, hr8, hc8⟩
        exact ⟨_, _, rfl, _, _, hP5.step hr8 hc8, (hI.take (by omega) hm).le (by omega)⟩
      ·
        refine ⟨fun w' => Blk w' xb (actE x) 29, fun w6 e6 => ⟨hX5.drew e6, _, fun w' h => h.cell 1 rfl, _, fun w' h => h.cell 2 rfl, ?_⟩⟩
        refine step_call (entry_spec w6 _) ?_
        rintro v w7 ⟨⟨qa, qb⟩, rfl, hq, hc7⟩
        have hP7 := (hP5.keepN (Ch.drew e6)).keepN hc7
        have hX7 := (hX5.drew e6).keepN hc7
        have hq0 := hq
        obtain ⟨⟨oa, ca, va, hqa, _, _⟩, ⟨ob, cb, vb, hqb, _, _⟩⟩ := hq
        dsimp only at hqa hqb
        subst hqa; subst hqb
        refine ⟨oa, _, ca, ob, _, cb, rfl, hX7, ?_⟩
        refine step_call (Put_spec (p := (_, _)) hP7.r _ hq0 (entE_small _)) ?_
        rintro v w8 ⟨rfl, hr8, hc8⟩
        exact ⟨_, rfl, hX7.keep hc8 hxF, _, _, hP7.ext hr8 hc8, (hI.put _ _).le (by omega)⟩
      ·
        have hm := modP x.n (n := 4) (by omega)
        refine ⟨_, hX5.cell 2 rfl, by decide, ?_⟩
        refine step_call (Take_spec hP5.r _) ?_
        rintro v w8 ⟨rfl, hr8, hc8⟩
        exact ⟨_, _, rfl, _, _, hP5.step hr8 hc8, (hI.take (by omega) hm).le (by omega)⟩
    · rintro jk w4 ⟨ps', F', hP', hI'⟩
      have e1 : 10 * ((j : Int) + 1) + 1 = 10 * ((j + 1 : Nat) : Int) + 1 := by omega
      rw [e1] at hI'
      exact ⟨av.length - (j + 1), by omega, j + 1, ps', F', by rw [wrap_id (by omega) (by omega)]; rfl, hlt, h60, rfl, hP', hI'⟩
  clear hP2 hI2 ha hQ h1
  rintro jk w3 ⟨ps, F, hP, hI⟩
  have hca := count_all hI
  have hpl : ps.length = kk.toNat := hI.len
  have hof : ∀ v, (ofL ps v kk.toNat).length ≤ kk.toNat := fun v => by
    unfold ofL
    rw [List.length_map]
    exact Nat.le_trans (List.length_filter_le _ _) (by simp)
  have hsum : ∀ a : Nat, a ≤ 4 → (((List.range a).map fun i : Nat => (ofL ps ((i : Int) + 1) kk.toNat).length).sum : Nat) ≤ a * kk.toNat := fun a _ => by
    induction a with
    | zero => simp
    | succ a ih =>
      rw [List.range_succ, List.map_append, List.sum_append]
      have := hof ((a : Int) + 1)
      have := ih (by omega)
      simp only [List.map_cons, List.map_nil, List.sum_cons, List.sum_nil, Nat.succ_mul]
      omega
  refine ⟨fun used v k w' => ∃ a : Nat, v = (a : Int) + 1 ∧ a ≤ 4 ∧ k = 4 - a ∧ used = (((List.range a).map fun i : Nat => (ofL ps ((i : Int) + 1) kk.toNat).length).sum : Nat) ∧ Pool W w' pb ps F, ⟨_, 0, rfl, by omega, rfl, rfl, hP⟩, ?_⟩
  clear hP
  rintro jk used v k w4 ⟨a, rfl, ha, rfl, rfl, hP4⟩
  refine ⟨fun hle => ?_, fun hgt => ?_⟩
  · have hle : a < 4 := by have := of_decide_eq_true hle; omega
    refine step_call (Of_spec hP4.r (by omega) _) ?_
    rintro v w5 ⟨⟨o5, c5, rfl, _⟩, hc5⟩
    rw [hpl]
    have hs1 := hsum a ha
    have hs2 := hof ((a : Int) + 1)
    have : a * kk.toNat ≤ 4 * 20 := Nat.mul_le_mul ha (by omega)
    refine ⟨_, _, _, rfl, 4 - (a + 1), by omega, a + 1, by rw [wrap_id (by omega) (by omega)]; rfl, hle, rfl, ?_, hP4.keepN hc5⟩
    rw [wrap_id (by omega) (by omega), List.range_succ, List.map_append, List.sum_append]
    simp
  have ha4 : a = 4 := by have := of_decide_eq_false hgt; omega
  subst ha4
  refine step_call (Free_spec hP4.r) ?_
  rintro v w5 ⟨rfl, rfl⟩
  have hsum4 : ((List.range 4).map fun i : Nat => (ofL ps ((i : Int) + 1) kk.toNat).length).sum + freeN ps = kk.toNat := by
    have e : ((List.range 4).map fun i : Nat => (ofL ps ((i : Int) + 1) kk.toNat).length).sum = (ofL ps 1 kk.toNat).length + ((ofL ps 2 kk.toNat).length + ((ofL ps 3 kk.toNat).length + ((ofL ps 4 kk.toNat).length + 0))) := rfl
    rw [e]; omega
  generalize ((List.range 4).map fun i : Nat => (ofL ps ((i : Int) + 1) kk.toNat).length).sum = U at hsum4
  refine ⟨_, rfl, iteF ?_ ?_⟩
  · rw [wrap_id (by omega) (by omega)]
    simp; omega
  clear hsum hof hca hsum4
  refine ⟨fun id k w' => ∃ (m : Nat) (ps : List PageD), id = m ∧ m ≤ kk.toNat ∧ k = kk.toNat - m ∧ Pool W w' pb ps F ∧ Inv kk.toNat 1000 ps ∧ ∀ i (h : i < ps.length), i < m → ps[i].users = 0, ⟨_, 0, ps, rfl, Nat.zero_le _, rfl, hP4, hI, fun i h hi => by omega⟩, ?_⟩
  clear hP4 hI hpl
  rintro jk id k w6 ⟨m, ps, rfl, hm, rfl, hP6, hI6, hz6⟩
  refine ⟨fun hlt => ?_, fun hge => ?_⟩
  · have hlt : m < kk.toNat := by have := of_decide_eq_true hlt; omega
    refine ⟨fun k w' => ∃ ps : List PageD, k = (pgAt ps (m : Int)).users.toNat ∧ Pool W w' pb ps F ∧ Inv kk.toNat 1000 ps ∧ ∀ i (h : i < ps.length), i < m → ps[i].users = 0, ⟨_, ps, rfl, hP6, hI6, hz6⟩, ?_⟩
    clear hP6 hI6 hz6
    rintro jk k w7 ⟨ps, rfl, hP7, hI7, hz7⟩
    have hml : m < ps.length := by rw [hI7.len]; exact hlt
    have hat := hI7.at (id := (m : Int)) (by omega) (by simpa using hml)
    refine step_call (Users_spec hP7.r _) ?_
    rintro v w8 ⟨rfl, rfl⟩
    refine ⟨_, rfl, fun hpos => ?_, fun hnp => ?_⟩
    · have hb : isB ps (m : Int) = true := by
        cases h : isB ps (m : Int) with
        | true => rfl
        | false => rw [h] at hpos; simp at hpos
      have hu := isB_pos hb
      refine step_call (Users_spec hP7.r _) ?_
      rintro v w9 ⟨rfl, rfl⟩
      rw [hb, if_pos rfl]
      refine ⟨_, rfl, fun w10 e10 => ?_⟩
      have r10 : Rd w10 (some ⟨w9.heap.size, 0, none⟩) (([(m : Int)] : List Int).map (.int .i64)) (· = w9.heap.size) := (Blk.new e10).rd
      have hs10 : w9.heap.size < w10.heap.size := (Blk.new e10).lt
      have hlt9 := hP7.lt
      have hP10 := hP7.keepN (Ch.alloc e10)
      refine step_call (Drop_spec (l := [(m : Int)]) hP10.r hP10.lt r10 (fun i hi => by omega) (fun i _ hi hf => by have := hlt9 i hf; omega) (by simp) (by rw [hI7.len]; omega) (by omega) hI7.bnd 1) ?_
      rintro v w11 ⟨rfl, hr11, hc11⟩
      have hall : allB ps [(m : Int)] = true := by unfold allB; simp [hb]
      have hov : overB ps [(m : Int)] = false := by unfold overB; simp; omega
      have hI11 := hI7.drop hall hov
      rw [hall, hov] at hr11 ⊢
      have hr11 : PoolR w11 pb (dropU ps (m : Int)) F := hr11
      have hI11 : Inv kk.toNat 1000 (dropU ps (m : Int)) := hI11
      have hP11 := hP10.step hr11 hc11
      have hus : (pgAt (dropU ps (m : Int)) (m : Int)).users = (pgAt ps (m : Int)).users - 1 := by
        unfold dropU addU
        split
        · rename_i h
          rw [pgAt_set (by omega) (by simpa using hml), if_pos rfl]
          simp only [pg0]; omega
        · rw [pgAt_set (by omega) (by simpa using hml), if_pos rfl]
          show (pgAt ps (m : Int)).users + -1 = _
          omega
      have hz11 : ∀ i (h : i < (dropU ps (m : Int)).length), i < m → (dropU ps (m : Int))[i].users = 0 := fun i h hi => by
        have hil : i < ps.length := by rw [dropU_len] at h; exact h
        have := hz7 i hil hi
        unfold dropU addU
        split
        · rw [List.getElem_set_ne (by simp; omega)]; exact this
        · rw [List.getElem_set_ne (by simp; omega)]; exact this
      refine ⟨0, rfl, iteF rfl ?_⟩
      refine step_call (Users_spec hP11.r _) ?_
      rintro v w12 ⟨rfl, rfl⟩
      have hval : (if isB (dropU ps (m : Int)) (m : Int) then (pgAt (dropU ps (m : Int)) (m : Int)).users else 0) = (pgAt ps (m : Int)).users - 1 := by
        unfold isB
        rw [hus]
        split
        · rfl
        · rename_i h
          have h : ¬ (pgAt ps (m : Int)).users - 1 > 0 := by simpa using h
          omega
      rw [hval]
      refine ⟨_, rfl, iteF (by rw [wrap_id (by omega) (by omega)]; simp) ⟨(pgAt (dropU ps (m : Int)) (m : Int)).users.toNat, by rw [hus]; omega, dropU ps (m : Int), rfl, hP11, hI11, hz11⟩⟩
    · have hu0 : (pgAt ps (m : Int)).users = 0 := by
        have hnp := of_decide_eq_false hnp
        unfold isB at hnp
        by_cases h : (pgAt ps (m : Int)).users > 0
        · rw [decide_eq_true h, if_pos rfl] at hnp; omega
        · omega
      refine ⟨kk.toNat - (m + 1), by omega, m + 1, ps, by rw [wrap_id (by omega) (by omega)]; rfl, hlt, rfl, hP7, hI7, fun i h hi => ?_⟩
      by_cases him : i = m
      · subst him
        rw [pgAt_lt (by omega) (by simpa using hml)] at hu0
        exact hu0
      · exact hz7 i h (by omega)
  · have hmk : m = kk.toNat := by have := of_decide_eq_false hge; omega
    subst hmk
    have hnone : ∀ i (h : i < ps.length), isB ps (i : Int) = false := fun i h => by
      rw [isB_nat h, hz6 i h (by rw [← hI6.len]; exact h)]; rfl
    refine step_call (Free_spec hP6.r) ?_
    rintro v w7 ⟨rfl, rfl⟩
    have hfree : freeN ps = kk.toNat := by
      unfold freeN
      rw [List.filter_eq_self.2, hI6.len]
      intro p hp
      obtain ⟨i, hi, rfl⟩ := List.getElem_of_mem hp
      rw [hz6 i hi (by rw [← hI6.len]; exact hi)]; rfl
    rw [hfree]
    refine ⟨_, rfl, iteT (by simp; omega) ?_⟩
    refine step_call (Of_spec hP6.r (by rw [hI6.len]; omega) 1) ?_
    rintro v w8 ⟨⟨o8, c8, rfl, _⟩, hc8⟩
    have hof : ofL ps 1 ps.length = [] := by
      unfold ofL
      rw [List.filter_eq_nil_iff.2]
      · rfl
      · intro i hi
        rw [hnone i (by simpa using hi)]; simp
    rw [hof]
    exact ⟨_, _, _, rfl, rfl, (hP6.keepN hc8).c⟩
end Go.Proofs.Ytpcddfhfchempaa.Pages
