/- CrewFree's contract: of all weights and rows of deeds the Go function answers true and leaves what was there; the conditions stand in each theorem. -/
import Derived.Test.YtkbikekbaboclaaGreatPkE
import Derived.Test.YtkbikekbaboclaaGreatVcCrewF
set_option linter.unusedVariables false
set_option linter.unusedSimpArgs false
namespace Go.Proofs.YtkbikekbaboclaaGreat.Crew
open Go Go.Proofs Go.Proofs.YtkbikekbaboclaaGreat.V Go.Proofs.YtkbikekbaboclaaGreat.Vc Go.Proofs.YtkbikekbaboclaaGreat.Step Go.Proofs.YtkbikekbaboclaaGreat.Pages Go.Proofs.YtkbikekbaboclaaGreat.Prefix Go.Proofs.YtkbikekbaboclaaGreat.Brain Go.Proofs.YtkbikekbaboclaaGreat.Conf Go.Proofs.YtkbikekbaboclaaGreat.Stp Go.RowKit
open Go.Proofs.YtkbikekbaboclaaGreat.Ward (AskD AskP askE AskR)

def StF (W w : World) (cb pb xb : Nat) (md : Mds) : Prop := ∃ (ps : List PageD) (es : List EntD) (rs : List RunD) (R : Nat → Nat → Prop), St W w cb pb xb 9 c25 md ps es rs R
theorem forget2 {md : Mds} {k : Nat} {ps : List PageD} {es : List EntD} {rs : List RunD} (h : PInv c25 md k ps es rs) (hv : md.vm = 2) : (es.filter (keepE 1)).filter (keepE 2) = [] := by
  rw [List.filter_eq_nil_iff]
  intro e he
  obtain ⟨h1, h2⟩ := List.mem_filter.1 he
  have hr := (h.en e h1).vr
  rw [hv] at hr
  unfold keepE at h2 ⊢
  have h2 : ¬ e.ver = 1 := by simpa using h2
  have : e.ver = 2 := by omega
  simp [this]
theorem first_id {rs : List RunD} {r : RunD} : findRn (r :: rs) r.ask.id = 0 := by
  have : (r :: rs).findIdx (idB r.ask.id) = 0 := by rw [List.findIdx_cons]; unfold idB; simp
  unfold findRn
  rw [this, if_pos (by simp)]; rfl
theorem gone_id {rs : List RunD} {r : RunD} (h : ((r :: rs).map (·.ask.id)).Nodup) : findRn rs r.ask.id < 0 := by
  unfold findRn
  rw [if_neg]
  · decide
  · intro hx
    obtain ⟨q, hq, he⟩ := List.findIdx_lt_length.1 hx
    rw [List.map_cons, List.nodup_cons] at h
    exact h.1 (List.mem_map.2 ⟨q, hq, eq_of_beq he⟩)
set_option maxRecDepth 100000 in
set_option maxHeartbeats 4000000 in
theorem CrewFree_true (W : World) (ws : ByteArray) (_ : ws.size ≤ 140737488351232) (o1 : Option Addr) (n1 c1 : Nat) (h1 : DatC Tryz.prog W t_S_coadjutorlaw25_Act [.slice o1 n1 c1]) :
    Calls Tryz.prog i_coadjutorlaw25_CrewFree #[.string ws, .slice o1 n1 c1] W (Ret fun v w' => v = .bool true ∧ Ch Non W w') := by
  obtain ⟨o1', c1', av, hcs1, _, _, hm1, hQ, ha⟩ := h1.sliceOf (e := t_coadjutorlaw25_Act) (enc := act25E) (Q := fun y => AskI W y.q) (by kernel_rfl) (fun x hl hd => act25_dat hl hd)
  injection hcs1 with hcs1
  injection hcs1 with q1 q2 q3
  subst q1; subst q2; subst q3
  refine coadjutorlaw25_CrewFree.calls _ _ _ _ ?_
  unfold coadjutorlaw25_CrewFree.vc
  refine step_call (awake_spec W) ?_
  rintro v w1 ⟨rfl, hc1⟩
  refine ⟨_, rfl, iteF rfl (step_call (models_spec w1 ws) ?_)⟩
  rintro v w2 ⟨q0, q1, rfl, hBr2, hc2⟩
  refine ⟨_, _, _, _, _, _, _, _, _, _, _, _, _, _, _, _, rfl, setup25 hBr2 fun W6 hc26 hBA hBr _ => ?_⟩
  have hc06 := (hc1.andN hc2).andN hc26
  have hmd : ∀ v, Md c25 (mdsP q0 q1 2 v) := mdsP_ok hBr
  obtain ⟨md, hmdE⟩ : ∃ md, md = mdsP q0 q1 2 := ⟨_, rfl⟩
  rw [← hmdE] at hmd
  have hvm : md.vm = 2 := by rw [hmdE]; rfl
  generalize w2.heap.size = bA at hBA
  refine step_call (St.new (W := W6) (w := W6) (cf := c25) (md := md) (Ch.refl _ _) 9) ?_
  rintro v w7 ⟨hc7, _, h7⟩
  obtain ⟨cb, pb, xb, R, rfl, hS, _⟩ := h7 (by omega)
  have hS7 : St W6 w7 cb pb xb 9 c25 md _ [] [] R := hS
  refine ⟨_, rfl, fun w' => StF W6 w' cb pb xb md, ⟨fun i vk w' => ∃ j : Nat, i = j ∧ j ≤ av.length ∧ vk = av.length - j ∧ StF W6 w' cb pb xb md, ⟨_, 0, rfl, Nat.zero_le _, rfl, _, _, _, _, hS7⟩, ?_⟩, ?_⟩
  · clear hS7 hS h7 hc7
    rintro jk i vk w8 ⟨j, rfl, hj, rfl, hF⟩
    refine ⟨fun hlt => ⟨fun h60 => ?_, fun _ => hF⟩, fun _ => hF⟩
    obtain ⟨ps, es, rs, R, hS⟩ := hF
    have hlt : j < av.length := by have := of_decide_eq_true hlt; omega
    have h60 := of_decide_eq_true h60
    obtain ⟨p, hp, _, _, hcell⟩ := (ha.keepN (hc06.andN hS.ch)).elem (sz := 7) (enc := act25E) (fun _ => rfl) (by omega) hlt
    have hq := hQ _ (List.getElem_mem hlt)
    generalize av[j] = x at hcell hq
    rw [← Int.toNat_natCast j] at hcell
    have h0 := hcell 0 _ rfl
    rw [add_none] at h0
    subst hp
    refine ⟨⟨by omega, by omega⟩, _, _, _, _, _, _, _, _, _, _, _, ⟨h0, hcell 1 _ rfl, hcell 2 _ rfl, hcell 3 _ rfl, hcell 4 _ rfl, hcell 5 _ rfl, hcell 6 _ rfl⟩, fun w9 e9 => ?_⟩
    have hA9 := Blk.new e9
    have l89 := hA9.lt
    obtain ⟨tA, htA⟩ : ∃ n, w8.heap.size = n := ⟨_, rfl⟩
    rw [htA] at hA9 l89 ⊢
    refine ⟨⟨hA9.ok 0 rfl, hA9.ok 1 rfl, hA9.ok 2 rfl, hA9.ok 3 rfl, hA9.ok 4 rfl, hA9.ok 5 rfl, hA9.ok 6 rfl⟩, fun w10 e10 => ?_⟩
    have e10' : w10 = w9.setCells tA 0 (act25E x) := e10
    have hA10 := hA9.all (act25E x) rfl e10'
    have hc810 : Ch Non w8 w10 := (Ch.alloc (F := Non) e9).trans (Ch.sets (F := (· = tA)) e10' rfl) (fun i hi he => by omega)
    have hS10 := hS.keepN hc810
    have hok : Value.bool true = .bool true ∧ Ch Non W w10 := ⟨rfl, hc06.andN hS10.ch⟩
    refine ⟨_, _, _, hA10.cell 4 rfl, fun _ => hok, fun hp40 => ⟨_, _, _, hA10.cell 6 rfl, fun _ => hok, fun hd40 => ?_⟩⟩
    have hp40 := of_decide_eq_false hp40
    have hd40 := of_decide_eq_false hd40
    refine ⟨fun w' => StF W6 w' cb pb xb md, ⟨_, hA10.cell 0 rfl, fun hk3 => ?_, fun hk3 => ?_⟩, ?_⟩
    · obtain ⟨v1, v2⟩ := modP x.q.1.ver (n := 2) (by omega)
      refine ⟨_, hA10.cell 3 rfl, by decide, hA10.ok 3 rfl, fun w11 e11 => ?_⟩
      generalize IntKind.i64.wrap (1 + IntKind.i64.wrap (Int.tmod (IntKind.u64.wrap x.q.1.ver) 2)) = ver at v1 v2 e11
      have hA11 := hA10.set e11
      have hc811 : Ch Non w8 w11 := hc810.trans (Ch.set (F := (· = tA)) e11 rfl) (fun i hi he => by omega)
      have hS11 := hS.keepN hc811
      have nt : ¬ MutF R tA := fun hm => by have := (hS.lt tA (mut_all _ hm)).2; omega
      have nb : ¬ MutF R bA := fun hm => by have := (hS.lt bA (mut_all _ hm)).1; have := hBA.lt; omega
      have hB11 := (hBA.keepN hS.ch).keepN hc811
      obtain ⟨q, hqm, hqc, hqv⟩ : ∃ q, q ∈ [q0, q1] ∧ [brE q0, brE q1][(Int.tmod ver 2).toNat]? = some (brE q) ∧ q.2 = md ver ∧ 0 ≤ Int.tmod ver 2 ∧ Int.tmod ver 2 < 2 := by
        rw [hmdE]
        by_cases hv1 : ver = 1
        · subst hv1; exact ⟨q1, by simp, rfl, rfl, by decide, by decide⟩
        · obtain rfl : ver = 2 := by omega
          exact ⟨q0, by simp, rfl, rfl, by decide, by decide⟩
      refine ⟨fun w' => Ch (MutF R) w11 w', fun w12 e12 => ⟨Ch.drew e12, _, fun w' k => (hA11.keep k nt).cell 3 rfl, by decide, ⟨hqv.2.1, hqv.2.2⟩, some ⟨q.1, 0, none⟩, fun w' k => by rw [Nat.mul_one, add_at, Nat.zero_add]; exact (hB11.keep k nb).cell _ hqc, _, _, _, _, _, _, _, _, _, ⟨fun w' k => (hA11.keep k nt).cell 2 rfl, fun w' k => (hA11.keep k nt).cell 3 rfl, fun w' k => (hA11.keep k nt).cell 4 rfl, fun w' k => (hA11.keep k nt).cell 5 rfl, fun w' k => (hA11.keep k nt).cell 6 rfl⟩, ?_⟩⟩
      have hd12 : Ch Non w11 w12 := Ch.drew e12
      have hS12 := hS11.keepN hd12
      have hq' : AskI W ({ x.q.1 with ver := ver }, x.q.2) := hq
      have hJ := hS12.join (bb := q.1) (a := ({ x.q.1 with ver := ver }, x.q.2)) (hqv.1 ▸ (hBr q hqm).1) (hq'.c (hc06.andN hS12.ch) (by dsimp only; omega) (by dsimp only; omega)) (fun i hi hd hm => by
        have := (hS.lt i (mut_all i hm)).1
        have := hc06.size
        omega) (fun _ => by rw [hvm]; exact v2)
      refine step_call hJ ?_
      rintro v w16 ⟨rfl, ps', es', rs', R', hS16, hG, _⟩
      exact ⟨_, rfl, hd12.any.same hG.ch, ps', es', rs', R', hS16⟩
    · refine ⟨_, hA10.cell 1 rfl, ?_⟩
      cases rs with
      | nil =>
        refine step_call (hS10.pick0 x.n) ?_
        rintro v w17 ⟨rfl, hc17⟩
        exact ⟨_, _, _, _, _, _, _, _, _, _, rfl, ps, es, [], R, hS10.keepN hc17⟩
      | cons r l =>
        refine step_call (hS10.pick hmd (by omega) (by simp) x.n rfl (pickI_tmod x.n (by simp)).2.2.2.2) ?_
        rintro v w17 ⟨cr, t, m, R', oo, oc, ao, ac, aq, TA, rfl, _, hS17, _⟩
        exact ⟨_, _, _, _, _, _, _, _, _, _, rfl, _, _, _, R', hS17⟩
    · rintro jk w18 ⟨ps2, es2, rs2, R2, hS18⟩
      have hfe := hS18.v.inv.free_le
      refine step_call hS18.free ?_
      rintro v w19 ⟨rfl, rfl⟩
      refine ⟨_, rfl, fun hn => ?_, fun _ => step_call hS18.free ?_⟩
      · have := of_decide_eq_true hn; omega
      rintro v w20 ⟨rfl, rfl⟩
      refine ⟨_, rfl, step_call hS18.kept ?_⟩
      rintro v w21 ⟨rfl, rfl⟩
      refine ⟨_, rfl, fun hn => ?_, fun _ => ?_⟩
      · have := of_decide_eq_true hn
        rw [wrap_id (by omega) (by omega)] at this; omega
      exact ⟨av.length - (j + 1), by omega, j + 1, by rw [wrap_id (by omega) (by omega)]; rfl, hlt, rfl, ps2, es2, rs2, R2, hS18⟩
  clear hS7 hS h7 hc7
  rintro jk w18 ⟨ps, es, rs, R, hS⟩
  refine ⟨fun vk w' => ∃ (ps : List PageD) (es : List EntD) (rs : List RunD) (R : Nat → Nat → Prop), vk = rs.length ∧ St W6 w' cb pb xb 9 c25 md ps es rs R, ⟨_, ps, es, rs, R, rfl, hS⟩, ?_⟩
  clear hS ps es rs R
  rintro jk vk w22 ⟨ps, es, rs, R, rfl, hS⟩
  refine step_call hS.ids ?_
  rintro v w23 ⟨⟨o1, c1, rfl, _, _, _⟩, hc23⟩
  have hS23 := hS.keepN hc23
  refine ⟨_, _, _, rfl, fun hgt => ?_, fun hle => ?_⟩
  · have hgt := of_decide_eq_true hgt
    rw [List.length_map] at hgt
    obtain ⟨r, rs, rfl⟩ : ∃ r l, rs = r :: l := by
      cases rs with
      | nil => simp at hgt
      | cons r l => exact ⟨r, l, rfl⟩
    refine step_call hS23.ids ?_
    rintro v w24 ⟨⟨o2, c2, rfl, _, _, hr2⟩, hc24⟩
    have hS24 := hS23.keepN hc24
    refine ⟨_, _, _, rfl, ⟨by omega, by simp⟩, hr2.at0 (v := .int .i64 r.ask.id) rfl fun p hp => ⟨_, hp, ?_⟩⟩
    refine step_call (hS24.leave hmd r.ask.id) ?_
    rintro v w25 ⟨ps2, rs2, hS25, _, _, hy⟩
    obtain ⟨rfl, _, hrs2⟩ := hy 0 (by simp) first_id
    have hrs2 : rs2 = rs := hrs2
    subst hrs2
    refine ⟨_, rfl, fun hf => (by cases hf), fun _ => step_call (hS25.leave hmd r.ask.id) ?_⟩
    rintro v w26 ⟨ps3, rs3, hS26, _, hn, _⟩
    obtain ⟨rfl, rfl, rfl⟩ := hn (gone_id hS24.v.ids)
    exact ⟨_, rfl, fun hf => (by cases hf), fun _ => ⟨rs3.length, by simp, ps3, es, rs3, R, rfl, hS26⟩⟩
  · have hle := of_decide_eq_false hle
    rw [List.length_map] at hle
    have hrs : rs = [] := List.eq_nil_of_length_eq_zero (by omega)
    subst hrs
    have hfe := hS.v.inv.free_eq
    refine step_call hS23.free ?_
    rintro v w27 ⟨rfl, rfl⟩
    refine ⟨_, rfl, step_call hS23.kept ?_⟩
    rintro v w28 ⟨rfl, rfl⟩
    have hw9 : IntKind.i64.wrap ((freeN ps : Int) + (es.length : Int)) = 9 := by rw [wrap_id (by omega) (by omega)]; omega
    refine ⟨_, rfl, fun hne => ?_, fun _ => ?_⟩
    · rw [hw9] at hne; simp at hne
    refine step_call hS23.kept ?_
    rintro v w29 ⟨rfl, rfl⟩
    refine ⟨_, rfl, step_call (hS23.forget 1) ?_⟩
    rintro v w30 ⟨rfl, hS30, _⟩
    refine ⟨_, rfl, step_call (hS30.forget 2) ?_⟩
    rintro v w31 ⟨rfl, hS31, _⟩
    have hf2 := forget2 hS.v.inv hvm
    rw [hf2] at hS31 ⊢
    have hfe31 := hS31.v.inv.free_eq
    have l1 := List.length_filter_le (keepE 1) es
    have hsum : IntKind.i64.wrap (((es.length : Int) - ((es.filter (keepE 1)).length : Int)) + (((es.filter (keepE 1)).length : Int) - (([] : List EntD).length : Int))) = (es.length : Int) := by
      rw [List.length_nil, wrap_id (by omega) (by omega)]; omega
    refine ⟨_, rfl, ?_⟩
    rw [hsum]
    refine iteT (beq_self_eq_true _) (step_call hS31.free ?_)
    rintro v w32 ⟨rfl, rfl⟩
    have h9 : freeN (fgP 2 (fgP 1 ps es) (es.filter (keepE 1))) = 9 := by simpa using hfe31
    rw [h9]
    exact ⟨_, rfl, rfl, hc06.andN hS31.ch⟩
end Go.Proofs.YtkbikekbaboclaaGreat.Crew
