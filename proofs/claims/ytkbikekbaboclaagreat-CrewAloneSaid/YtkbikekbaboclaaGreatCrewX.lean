/- CrewAlone's contract: of all weights and of every request the Go function answers true and leaves what was there; the conditions stand in each theorem. -/
import Derived.Test.YtkbikekbaboclaaGreatPkE
import Derived.Test.YtkbikekbaboclaaGreatGenC
import Derived.Test.YtkbikekbaboclaaGreatPkB
import Derived.Test.YtkbikekbaboclaaGreatVcCrewA
set_option linter.unusedVariables false
set_option linter.unusedSimpArgs false
namespace Go.Proofs.YtkbikekbaboclaaGreat.Crew
open Go Go.Proofs Go.Proofs.YtkbikekbaboclaaGreat.V Go.Proofs.YtkbikekbaboclaaGreat.Vc Go.Proofs.YtkbikekbaboclaaGreat.Step Go.Proofs.YtkbikekbaboclaaGreat.Pages Go.Proofs.YtkbikekbaboclaaGreat.Prefix Go.Proofs.YtkbikekbaboclaaGreat.Brain Go.Proofs.YtkbikekbaboclaaGreat.Conf Go.Proofs.YtkbikekbaboclaaGreat.Stp Go.RowKit
open Go.Proofs.YtkbikekbaboclaaGreat.Ward (AskD AskP askE AskR)

theorem ask_ok {cf : CfD} {k : Nat} {a : AskD} (h1 : 1 ≤ a.ver ∧ a.ver ≤ 2147483647) (h2 : 1 ≤ a.id ∧ a.id ≤ 2147483647) (h3 : a.draws.length ≤ 32) (h4 : Gen.checkP cf a.most a.prompt = 0) (h5 : Ward.needN a ≤ k) : askOk cf k a = true := by
  unfold askOk
  rw [Bool.and_eq_true]
  refine ⟨decide_eq_true h1, ?_⟩
  unfold Ward.subV
  rw [if_neg (by omega), if_neg (by unfold Ward.findQ; simp), checkV_eq, if_neg (by omega), if_neg (by omega), if_neg (by simp)]
  rfl
theorem need_le {a : AskD} (h : Gen.checkP c25 a.most a.prompt = 0) : Ward.needN a ≤ 3 := by
  have h1 := (Gen.checkP_ok h).2.2.2.2
  have h2 : ((a.prompt.length : Int) + a.most) ≤ 12 := h1
  unfold Ward.needN
  split
  · omega
  · rw [Int.tdiv_eq_ediv_of_nonneg (by omega)]; omega
theorem first_id1 {r : RunD} : findRn [r] r.ask.id = 0 := by
  have : [r].findIdx (idB r.ask.id) = 0 := by rw [List.findIdx_cons]; unfold idB; simp
  unfold findRn
  rw [this, if_pos (by simp)]; rfl
def StA (W w : World) (cb pb xb : Nat) (md : Mds) (a : AskD) (j : Nat) : Prop := ∃ (ps : List PageD) (es : List EntD) (r : RunD) (R : Nat → Nat → Prop), St W w cb pb xb 16 c25 md ps es [r] R ∧ r.ask = a ∧ r.done = j
set_option maxRecDepth 100000 in
set_option maxHeartbeats 4000000 in
theorem CrewAlone_true (W : World) (ws : ByteArray) (_ : ws.size ≤ 140737488351232) (cs : List Value) (h1 : DatC Tryz.prog W t_ward_Ask cs) :
    Calls Tryz.prog i_coadjutorlaw25_CrewAlone #[.string ws, .agg cs.toArray] W (Ret fun v w' => v = .bool true ∧ Ch Non W w') := by
  obtain ⟨q, rfl, hQ⟩ := ask_dat h1
  refine coadjutorlaw25_CrewAlone.calls _ _ _ _ _ _ _ _ _ _ ?_
  unfold coadjutorlaw25_CrewAlone.vc
  intro w1 e1
  have hA1 : Blk w1 W.heap.size (askE q) t_ward_Ask := Blk.new e1
  have hc01 : Ch Non W w1 := Ch.alloc e1
  refine step_call (awake_spec w1) ?_
  rintro v w2 ⟨rfl, hc12⟩
  have hc02 := hc01.andN hc12
  have hA2 := hA1.keepN hc12
  refine ⟨_, rfl, iteF rfl ⟨_, _, _, hA2.cell 2 rfl, fun _ => ⟨rfl, hc02⟩, fun hp40 => ⟨_, _, _, hA2.cell 4 rfl, fun _ => ⟨rfl, hc02⟩, fun hd32 => ?_⟩⟩⟩
  have hp40 := of_decide_eq_false hp40
  have hd32 := of_decide_eq_false hd32
  refine step_call (models_spec w2 ws) ?_
  rintro v w3 ⟨q0, q1, rfl, hBr3, hc23⟩
  refine ⟨_, _, _, _, _, _, _, _, _, _, _, _, _, _, _, _, rfl, setup25 hBr3 fun W6 hc36 hBA hBr _ => ?_⟩
  have hc06 := (hc02.andN hc23).andN hc36
  have hA6 := (hA2.keepN hc23).keepN hc36
  have hlt := hA1.lt
  have hs13 := (hc12.andN hc23).size
  generalize w3.heap.size = bA at hBA hs13
  refine ⟨hA6.ok 0 rfl, fun w8 e8 => ?_⟩
  have hA8 := hA6.set e8
  have hc08 : Ch Non W w8 := hc06.trans (Ch.set (F := (· = W.heap.size)) e8 rfl) (fun i hi he => by omega)
  have hB8 := hBA.keep (Ch.set (F := (· = W.heap.size)) e8 rfl) (by omega)
  have hBr8 := hBr
  refine ⟨hA8.ok 1 rfl, fun w9 e9 => ?_⟩
  have hA9 := hA8.set e9
  have hc69 : Ch (· = W.heap.size) W6 w9 := (Ch.set (F := (· = W.heap.size)) e8 rfl).trans (Ch.set (F := (· = W.heap.size)) e9 rfl) (fun i hi he => he)
  have hc09 : Ch Non W w9 := hc06.trans hc69 (fun i hi he => by omega)
  have hB9 := hBA.keep hc69 (by omega)
  obtain ⟨⟨a0, a1, xs, most, ds⟩, ⟨po, pc, qo, qc⟩⟩ := q
  have hbr1 : BrK w9 q1.1 c25 q1.2 := (hBr q1 (by simp)).1.keep hc69 (fun he => by
    have h1 := (hBr q1 (by simp)).1.r
    rw [he] at h1
    have h1 := Blk.cell h1 2 rfl
    rw [hA6.cell 2 rfl] at h1
    cases h1)
  have hQ9 := hQ.c hc09 (by dsimp only at hp40 ⊢; omega) (by dsimp only at hd32 ⊢; omega)
  obtain ⟨⟨hpr, hdr, _, _⟩, hp1, hp2, hd1, hd2⟩ := hQ9
  dsimp only at hpr hdr hp1 hp2 hd1 hd2 hp40 hd32
  refine ⟨by decide, _, hB9.cell 1 rfl, _, _, _, hA9.cell 2 rfl, _, hA9.cell 3 rfl, _, _, _, hA9.cell 4 rfl, ?_⟩
  refine step_call (Gen.Gen_spec (ts := xs) (draws := ds) hbr1 ⟨_, _, rfl, hp1, hp2, hpr⟩ (by omega) most ⟨_, _, rfl, hd1, hd2, hdr⟩) ?_
  rintro v w10 hG
  have hA10 := hA9.keepN hG.ch
  have hB10 := hB9.keepN hG.ch
  have hbr10 := hbr1.keepN hG.ch
  have hc010 := hc09.andN hG.ch
  by_cases hck : Gen.checkP c25 most xs = 0
  rotate_left
  · have := hG.no hck
    subst this
    exact ⟨_, _, _, _, rfl, fun _ => ⟨rfl, hc010⟩, fun hn => absurd (by simpa using hn) hck⟩
  obtain ⟨u, rfl, hu⟩ := hG.yes hck
  have hu' := hu
  obtain ⟨uo, uc, rfl, hu1, hu2, hur⟩ := hu
  refine ⟨_, _, _, _, rfl, fun hn => absurd hn (by decide), fun _ => ?_⟩
  have hmd : ∀ v, Md c25 (mdsP q0 q1 1 v) := mdsP_ok hBr
  obtain ⟨md, hmdE⟩ : ∃ md, md = mdsP q0 q1 1 := ⟨_, rfl⟩
  have hvm : md.vm = 1 := by rw [hmdE]; rfl
  have hm1 : md 1 = q1.2 := by rw [hmdE]; rfl
  rw [← hmdE] at hmd
  clear hmdE
  refine step_call (St.new (W := w10) (w := w10) (cf := c25) (md := md) (Ch.refl _ _) 16) ?_
  rintro v w11 ⟨hc11, _, h7⟩
  obtain ⟨cb, pb, xb, R, rfl, hS, hRn⟩ := h7 (by omega)
  have hA11 := hA10.keepN hc11
  have hQ10 : AskC w11 (⟨7, 1, xs, most, ds⟩, ⟨po, pc, qo, qc⟩) (fun i => i < W.heap.size) :=
    AskI.c (q := (⟨7, 1, xs, most, ds⟩, ⟨po, pc, qo, qc⟩)) hQ (hc010.andN hc11) (by dsimp only at hp40 ⊢; omega) (by dsimp only at hd32 ⊢; omega)
  refine ⟨_, rfl, by decide, _, (hB10.keepN hc11).cell 1 rfl, _, _, _, _, _, _, _, _, _, ⟨hA11.cell 0 rfl, hA11.cell 1 rfl, hA11.cell 2 rfl, hA11.cell 3 rfl, hA11.cell 4 rfl⟩, ?_⟩
  refine step_call (hS.join (bb := q1.1) (a := (⟨7, 1, xs, most, ds⟩, ⟨po, pc, qo, qc⟩)) (by show BrK w10 q1.1 c25 (md 1); rw [hm1]; exact hbr10) hQ10 (fun i hi hd hm => by
    have := (hS.lt i (mut_all i hm)).1
    have := hc010.size
    omega) (fun _ => by rw [hvm]; exact Int.le_refl _)) ?_
  rintro v w12 ⟨rfl, ps, es, rs, R', hS12, hGr, hno, hj⟩
  obtain ⟨a, ha⟩ : ∃ a : AskD, a = ⟨7, 1, xs, most, ds⟩ := ⟨_, rfl⟩
  have hav : a.ver = 1 := by rw [ha]
  have hai : a.id = 7 := by rw [ha]
  have hn3 : Ward.needN a ≤ 3 := need_le (by rw [ha]; exact hck)
  have hjv : joinV c25 16 [] a = 0 := by
    unfold joinV
    rw [if_neg (by rw [ask_ok (by omega) (by omega) (by rw [ha]; dsimp only at hd32 ⊢; omega) (by rw [ha]; exact hck) (by omega)]; decide), if_neg (by unfold findRn; simp), if_neg (by decide)]
  have hbig := (Gen.checkP_ok hck).2.2.2.2
  have hbig : (xs.length : Int) + most ≤ 12 := hbig
  have hmo := (Gen.checkP_ok hck).2.1
  rw [ha] at hjv
  obtain ⟨rfl, rfl, rfl⟩ := hj hjv
  rw [findR_nil] at hS12
  have hsay : sayA c25 md a = Gen.sayP c25 q1.2 (Gen.drawT ds) most xs := by rw [ha, ← hm1]; rfl
  refine ⟨_, rfl, fun hn => (by show _; rw [show joinV c25 (16 : Int).toNat [] _ = 0 from hjv] at hn; exact absurd hn (by decide)), fun _ => ⟨fun i vk w' => ∃ j : Nat, i = j ∧ vk = 12 - j ∧ StA w10 w' cb pb xb md a j, ⟨_, 0, rfl, rfl, _, _, _, R', hS12, ha.symm, rfl⟩, ?_⟩⟩
  clear hj hS12 hGr hno R' hS hRn R h7 hc11 hA11 hQ10
  rintro jk i vk w13 ⟨j, rfl, rfl, ps, es, r, R, hS, hra, hrd⟩
  have hA13 := hA10.keepN hS.ch
  have hst := (hS.v.run r (by simp)).2.1
  have hsl := hst.sl
  have hsm := hst.sm
  have hsd := hst.sd
  have hle := hst.le
  rw [hra] at hsl hsm hle
  rw [hsay] at hle
  have hap : a.prompt = xs := by rw [ha]
  have ham : a.most = most := by rw [ha]
  have hlim : (j : Int) < xs.length + most - 1 := by rw [hap] at hsl; rw [ham] at hsm; omega
  have hw : IntKind.i64.wrap (IntKind.i64.wrap ((xs.length : Int) + most) - 1) = xs.length + most - 1 := by
    have hw0 : IntKind.i64.wrap ((xs.length : Int) + most) = xs.length + most := wrap_id (by omega) (by omega)
    rw [hw0, wrap_id (by omega) (by omega)]
  refine ⟨_, _, _, hA13.cell 2 rfl, _, hA13.cell 3 rfl, ?_⟩
  rw [hw]
  refine ⟨fun _ => ?_, fun hge => absurd hlim (of_decide_eq_false hge)⟩
  refine step_call (hS.said hmd 7) ?_
  rintro v w14 ⟨hc14, _, hsaid⟩
  have hsaid : IV w14 v r.said (New w13 w14) := hsaid 0 (by simp) (by rw [← hai, ← hra]; exact first_id1)
  have hsaid' := hsaid
  obtain ⟨so, sc, rfl, _, _, _⟩ := hsaid
  have hS14 := hS.keepN hc14
  have hu14 := hu'.keepN hS14.ch
  refine ⟨_, _, _, rfl, fun hgt => ?_, fun _ => ⟨⟨by omega, by omega⟩, ?_⟩⟩
  · have := of_decide_eq_true hgt
    omega
  have hcut := hu14.cut rfl (Nat.zero_le r.said.length) hle
  refine step_call (IntsT.ints25_spec hsaid' hcut) ?_
  rintro v w15 ⟨rfl, hc15⟩
  have hS15 := hS14.keepN hc15
  rw [hra] at hsd
  have hsd2 : r.said = (Gen.sayP c25 q1.2 (Gen.drawT ds) most xs).take r.said.length := by rw [← hsay]; exact hsd
  have heq : r.said = ((Gen.sayP c25 q1.2 (Gen.drawT ds) most xs).drop 0).take (r.said.length - 0) := by rw [List.drop_zero, Nat.sub_zero]; exact hsd2
  refine ⟨_, rfl, fun hn => by rw [decide_eq_true heq] at hn; exact absurd hn (by decide), fun _ => ⟨_, _, _, (hA10.keepN hS15.ch).cell 2 rfl, fun hn => ?_, fun _ => ?_⟩⟩
  · have hne : (r.said.length : Int) = if (0 : Int) > IntKind.i64.wrap (IntKind.i64.wrap ((j : Int) - (xs.length : Int)) + 1) then (0 : Int) else IntKind.i64.wrap (IntKind.i64.wrap ((j : Int) - (xs.length : Int)) + 1) := by
      have hw1 : IntKind.i64.wrap ((j : Int) - (xs.length : Int)) = j - xs.length := wrap_id (by omega) (by omega)
      rw [hw1, wrap_id (by omega) (by omega)]
      rw [hap] at hsl
      split <;> omega
    rw [← hne] at hn
    simp at hn
  refine step_call (hS15.pick hmd (by omega) (by simp) j (i := 0) (by unfold pickI; simp) (by simp)) ?_
  rintro v w16 ⟨cr, t, m, R', oo, oc, ao, ac, aq, TA, rfl, _, hS16, hL, hT, _⟩
  refine ⟨_, _, _, _, _, _, _, _, _, _, rfl, fun w17 e17 => ?_⟩
  have hT17 := Blk.new e17
  have hc1617 : Ch Non w16 w17 := Ch.alloc e17
  refine ⟨⟨hT17.ok 0 rfl, hT17.ok 1 rfl, hT17.ok 2 rfl, hT17.ok 3 rfl, hT17.ok 4 rfl⟩, fun w18 e18 => ?_⟩
  have e18' : w18 = w17.setCells w16.heap.size 0 (turnV t oo oc ao aq.length ac) := e18
  have hT18 := hT17.all (turnV t oo oc ao aq.length ac) rfl e18'
  have hc1618 : Ch Non w16 w18 := hc1617.trans (Ch.sets (F := (· = w16.heap.size)) e18' rfl) (fun i hi he => by omega)
  have hS18 := hS16.keepN hc1618
  obtain ⟨hm1', _, hm0⟩ := hL.le
  have hm1' : m ≤ 1 := hm1'
  obtain rfl : m = 1 := by omega
  have haw : t.away = [] := by rw [hL.aw]; rfl
  have haq : aq.length = 0 := by
    have := congrArg List.length hT.aw
    rw [haw, List.length_map] at this
    exact this
  have htid : t.id = 7 := by rw [hL.id r rfl, hra, hai]
  have hgv : t.gave = false := by
    cases hg : t.gave with
    | false => rfl
    | true => have := (hL.gave hg).2.1; omega
  refine ⟨fun hn => absurd hn (by decide), fun _ => ⟨_, hT18.cell 0 rfl, fun hn => ?_, fun _ => ⟨_, hT18.cell 2 rfl, fun hn => ?_, fun _ => ⟨_, _, _, hT18.cell 4 rfl, fun hn => ?_, fun _ => ⟨_, hT18.cell 1 rfl, fun hd => ?_, fun hd => ?_⟩⟩⟩⟩⟩
  · rw [htid] at hn; exact absurd hn (by decide)
  · rw [hgv] at hn; cases hn
  · rw [haq] at hn; exact absurd hn (by decide)
  · obtain ⟨_, _, ho, hrs⟩ := hL.done hd
    have ho : t.out = Gen.sayP c25 q1.2 (Gen.drawT ds) most xs := by rw [ho r rfl, hra, hsay]
    have hrs : cr.rs = [] := hrs
    have hout := hT.out.keepN hc1618
    refine ⟨_, _, _, hT18.cell 3 rfl, step_call (IntsT.ints25_spec hout (hu'.keepN hS18.ch)) ?_⟩
    rintro v w19 ⟨rfl, hc19⟩
    have hS19 := hS18.keepN hc19
    refine ⟨_, rfl, fun _ => step_call hS19.ids ?_, fun hn => by rw [decide_eq_true ho] at hn; cases hn⟩
    rintro v w20 ⟨⟨o1, c1, rfl, _, _, _⟩, hc20⟩
    refine ⟨_, _, _, rfl, ?_, hc010.andN (hS19.ch.andN hc20)⟩
    rw [hrs]; rfl
  · obtain ⟨_, _, r0, r', hr0, hra', hrd', hrs⟩ := hL.goes hgv hd
    have hr0 : some r = some r0 := hr0
    injection hr0 with hr0
    subst hr0
    have hrs : cr.rs = [r'] := hrs
    rw [hrs] at hS18
    exact ⟨12 - (r.done + 1), by omega, r.done + 1, by rw [wrap_id (by omega) (by omega)]; omega, rfl, cr.ps, cr.es, r', R', hS18, by rw [hra', hra], hrd'⟩
end Go.Proofs.YtkbikekbaboclaaGreat.Crew
