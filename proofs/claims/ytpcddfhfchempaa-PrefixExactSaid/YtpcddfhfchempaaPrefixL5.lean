/- PrefixFree's contract: of every row of deeds the Go function answers true and leaves what was there; the conditions stand in each theorem. -/
import Derived.Test.YtpcddfhfchempaaPrefixL3
import Derived.Test.YtpcddfhfchempaaPrefixL4
set_option linter.unusedVariables false
set_option linter.unusedSimpArgs false
namespace Go.Proofs.Ytpcddfhfchempaa.Prefix
open Go Go.Proofs Go.Proofs.Ytpcddfhfchempaa.V Go.Proofs.Ytpcddfhfchempaa.Vc Go.Proofs.Ytpcddfhfchempaa.Step Go.Proofs.Ytpcddfhfchempaa.Pages Go.RowKit

/-- A deed. -/
structure ActX where
  kind : Int
  id : Int
  ver : Int
  o : Option Addr
  c : Nat
  l : List Int
def actX (x : ActX) : List Value := [.int .i64 x.kind, .int .i64 x.id, .int .i64 x.ver, .slice x.o x.l.length x.c]
set_option maxRecDepth 100000 in
theorem actX_dat {w : World} {x : List Value} (hl : x.length = Try.prog.cellsOf t_coadjutorlaw23_Act) (h : DatC Try.prog w t_coadjutorlaw23_Act x) : ∃ y : ActX, x = actX y ∧ Rd w y.o (y.l.map (.int .i64)) (fun _ => True) ∧ y.l.length ≤ y.c := by
  obtain ⟨_, hf⟩ := h.struct Try.underlying78
  have h2 : Try.prog.cellsOf t_coadjutorlaw23_Act = 4 := by kernel_rfl
  rw [h2] at hl
  match x, hl with
  | [a, b, c, d], _ =>
    have h0 : DatC Try.prog w t_int [a] := hf 0 _ rfl
    have h1 : DatC Try.prog w t_int [b] := hf 1 _ rfl
    have h2 : DatC Try.prog w t_int [c] := hf 2 _ rfl
    have h3 : DatC Try.prog w t_S_int [d] := hf 3 _ rfl
    obtain ⟨n0, e0, _⟩ := h0.int (k := .i64) (by kernel_rfl)
    obtain ⟨n1, e1, _⟩ := h1.int (k := .i64) (by kernel_rfl)
    obtain ⟨n2, e2, _⟩ := h2.int (k := .i64) (by kernel_rfl)
    obtain ⟨o, cc, xs, e3, hlc, _, _, _, hr⟩ := h3.ints (k := .i64) (e := t_int) (by kernel_rfl) (by kernel_rfl)
    injection e0 with e0 _
    injection e1 with e1 _
    injection e2 with e2 _
    injection e3 with e3 _
    subst e0; subst e1; subst e2; subst e3
    exact ⟨⟨n0, n1, n2, o, cc, xs⟩, rfl, hr, hlc⟩
def uF (es : List EntD) : Nat → Int := fun j => 1 + cnt es j
/-- What an index has: pages that there are, of their versions. -/
def InPg (N : Nat) (es : List EntD) : Prop := ∀ e ∈ es, 0 ≤ e.page ∧ e.page < N ∧ e.ver = 1 + e.page % 2
theorem InPg.inX {N : Nat} {es : List EntD} (h : InPg N es) {u : Nat → Int} (hu : ∀ j, j < N → cnt es j ≤ u j) : InX N u es := ⟨h, hu⟩
theorem uF_inX {N : Nat} {es : List EntD} (h : InPg N es) : InX N (uF es) es := ⟨h, fun j _ => by unfold uF; omega⟩
theorem uF_good {N : Nat} {es : List EntD} (hl : es.length ≤ 900) : Pages.Good N 1000 (SP N (uF es)) := SP_good fun j _ => by
  have := cnt_nonneg es j
  have := cnt_le es j
  unfold uF; omega
theorem fullP_SP (N : Nat) : fullP N = SP N (uF []) := by
  unfold fullP SP
  refine List.map_congr_left fun j _ => ?_
  have : uF [] j = 1 := by simp [uF, cnt]
  rw [this]; rfl
theorem PX.reg {W w : World} {pb xb k : Nat} {B B' : Int} {ps : List PageD} {es : List EntD} {FP FI : Nat → Prop} (h : PX W w pb xb k B ps es FP FI) (hg : Pages.Good k B' ps) : PX W w pb xb k B' ps es FP FI := ⟨h.p, h.x, hg, h.f, h.ap⟩
theorem mkP_ver {j : Nat} {u : Int} (h : 0 < u) : (mkP j u).ver = 1 + (j : Int) % 2 := by
  unfold mkP; rw [if_neg (by omega)]
theorem add_law {N : Nat} {es : List EntD} (h : InPg N es) {id v : Int} {t : List Int} (he : addE (SP N (uF es)) es id v t = 0) : addP (SP N (uF es)) es id v t = SP N (uF (es ++ [⟨v, t, id⟩])) ∧ addX (SP N (uF es)) es id v t = es ++ [⟨v, t, id⟩] ∧ InPg N (es ++ [⟨v, t, id⟩]) := by
  have hok : addOk (SP N (uF es)) id v = true := by
    unfold addE at he
    split at he
    · cases he
    · split at he
      · cases he
      · split at he
        · assumption
        · cases he
  unfold addOk at hok
  rw [Bool.and_eq_true, Bool.and_eq_true] at hok
  obtain ⟨⟨h1, h2⟩, _⟩ := hok
  rw [SP_is] at h1
  obtain ⟨a, b, c⟩ := of_decide_eq_true h1
  rw [SP_at a b, mkP_ver c] at h2
  have h2 : 1 + (id.toNat : Int) % 2 = v := by simpa using h2
  unfold addP addX
  rw [he, if_pos rfl, if_pos rfl]
  refine ⟨?_, rfl, fun e hx => ?_⟩
  · rw [SP_addU a b (by omega) (by omega)]
    refine SP_ext fun j _ => ?_
    unfold inc uF
    rw [cnt_append, cnt_one]
    show (if (j : Int) = id then 1 + cnt es j + 1 else 1 + cnt es j) = 1 + (cnt es j + if (j : Int) = id then 1 else 0)
    split <;> omega
  · rcases List.mem_append.1 hx with hx | hx
    · exact h e hx
    · rw [List.mem_singleton] at hx
      subst hx
      exact ⟨a, b, by show v = 1 + id % 2; omega⟩
theorem add_fail {ps : List PageD} {es : List EntD} {id v : Int} {t : List Int} (he : addE ps es id v t ≠ 0) : addP ps es id v t = ps ∧ addX ps es id v t = es := by
  unfold addP addX
  rw [if_neg he, if_neg he]
  exact ⟨rfl, rfl⟩
theorem uF_perm {N : Nat} {es fs : List EntD} (h : fs.Perm es) : SP N (uF fs) = SP N (uF es) := SP_ext fun j _ => by unfold uF; rw [cnt_perm h]
theorem Perm_len {es fs : List EntD} (h : fs.Perm es) : fs.length = es.length := h.length_eq
/-- The state between two deeds. -/
def StF (W w : World) (pb xb : Nat) (F : Nat → Prop) (n : Nat) : Prop := ∃ (es : List EntD) (FI : Nat → Prop), PX W w pb xb 8 1000 (SP 8 (uF es)) es F FI ∧ InPg 8 es ∧ es.length ≤ n
set_option maxRecDepth 100000 in
theorem PrefixFree_true (W : World) (o1 : Option Addr) (n1 c1 : Nat) (h1 : DatC Try.prog W t_S_coadjutorlaw23_Act [.slice o1 n1 c1]) :
    Calls Try.prog i_coadjutorlaw23_PrefixFree #[.slice o1 n1 c1] W (Ret fun v w' => v = .bool true ∧ Ch Non W w') := by
  obtain ⟨o1', c1', av, hcs1, _, _, hm1, hQ, ha⟩ := h1.sliceOf (e := t_coadjutorlaw23_Act) (enc := actX) (Q := fun y => Rd W y.o (y.l.map (.int .i64)) (fun _ => True) ∧ y.l.length ≤ y.c) (by kernel_rfl) (fun x hl hd => actX_dat hl hd)
  injection hcs1 with hcs1
  injection hcs1 with q1 q2 q3
  subst q1; subst q2; subst q3
  refine coadjutorlaw23_PrefixFree.calls _ _ _ ?_
  unfold coadjutorlaw23_PrefixFree.vc
  refine step_call (awake_spec W) ?_
  rintro v w1 ⟨rfl, hC1⟩
  refine ⟨_, rfl, iteF rfl ?_⟩
  refine step_call (full_spec hC1 8 (by omega)) ?_
  rintro v w2 ⟨pb, ub, F, FU, rfl, hB⟩
  have hP := hB.p
  have hg := full_good 8
  clear hB
  refine ⟨_, _, rfl, ?_⟩
  refine step_call (New_spec hP hg) ?_
  rintro v w3 ⟨xb, rfl, hX, hc3⟩
  rw [fullP_SP] at hX
  have hS3 : StF W w3 pb xb F 0 := ⟨[], _, hX.reg (uF_good (by simp)), fun e he => (by cases he), by simp⟩
  clear hP hg hc3 hX
  refine ⟨_, rfl, fun w' => StF W w' pb xb F 40, ⟨fun i f w' => ∃ j : Nat, i = j ∧ j ≤ av.length ∧ j ≤ 40 ∧ f = av.length - j ∧ StF W w' pb xb F j, ⟨_, 0, rfl, Nat.zero_le _, by omega, rfl, hS3⟩, ?_⟩, ?_⟩
  · clear hS3
    rintro jk i f w4 ⟨j, rfl, hj, hj40, rfl, es, FI, hX, hI, hel⟩
    have hfin : StF W w4 pb xb F 40 := ⟨es, FI, hX, hI, by omega⟩
    refine ⟨fun hlt => ⟨fun h40 => ?_, fun _ => hfin⟩, fun _ => hfin⟩
    clear hfin
    have hlt : j < av.length := by have := of_decide_eq_true hlt; omega
    have h40 : j < 40 := by have := of_decide_eq_true h40; omega
    obtain ⟨p, hp, _, _, hcell⟩ := (ha.keepN hX.p.c).elem (sz := 4) (enc := actX) (fun _ => rfl) (by omega) hlt
    obtain ⟨hl, hlc⟩ := hQ _ (List.getElem_mem hlt)
    generalize av[j] = x at hcell hl hlc
    rw [← Int.toNat_natCast j] at hcell
    have h0 := hcell 0 _ rfl
    rw [add_none] at h0
    subst hp
    have hro : ∀ {w'}, Ch Non W w' → Rd w' x.o (x.l.map (.int .i64)) (fun i => i < W.heap.size) := fun hc => (hl.mono (fun i hi _ => hi)).keepN hc
    have hfar : ∀ {w' : World} {B : Int} {ps : List PageD} {es : List EntD} {FI : Nat → Prop}, PX W w' pb xb 8 B ps es F FI → ∀ i, i < w'.heap.size → i < W.heap.size → ¬ FI i := fun h i _ hi hf => by have := (h.f i hf).1; omega
    refine ⟨fun w' => StF W w' pb xb F (j + 1), ⟨⟨by omega, by omega⟩, ?_⟩, ?_⟩
    rotate_left
    · rintro jk w35 hS
      exact ⟨av.length - (j + 1), by omega, j + 1, by rw [wrap_id (by omega) (by omega)]; rfl, hlt, h40, rfl, hS⟩
    refine ⟨_, _, _, _, _, _, ⟨h0, hcell 1 _ rfl, hcell 2 _ rfl, hcell 3 _ rfl⟩, fun w5 e5 => ?_⟩
    have hA5 := Blk.new e5
    refine ⟨⟨hA5.ok 0 rfl, hA5.ok 1 rfl, hA5.ok 2 rfl, hA5.ok 3 rfl⟩, fun w6 e6 => ?_⟩
    have e7 : w6 = w5.setCells w4.heap.size 0 (actX x) := e6
    have hA6 := hA5.all (actX x) rfl e7
    have hA6 : Blk w6 w4.heap.size (actX x) 78 := hA6
    have hc46 : Ch Non w4 w6 := (Ch.alloc (F := Non) e5).trans (Ch.sets (F := (· = w4.heap.size)) e7 rfl) (fun i hi he => by omega)
    have haI : ¬ FI w4.heap.size := fun h => Nat.lt_irrefl _ (hX.lt _ h)
    have haP : ¬ F w4.heap.size := fun h => Nat.lt_irrefl _ (hX.p.lt _ h)
    clear e5 e6 e7 hA5 hcell h0
    generalize w4.heap.size = ab at hA6 haI haP ⊢
    have hX6 := hX.keepN hc46
    clear hX hc46
    refine ⟨_, _, _, hA6.cell 3 rfl, fun _ => ⟨rfl, hX6.p.c⟩, fun h40' => ?_⟩
    have hx40 : x.l.length ≤ 40 := by have := of_decide_eq_false h40'; omega
    refine ⟨_, hA6.cell 0 rfl, fun hk4 => ?_, fun hk4 => ⟨_, hA6.cell 0 rfl, fun hk5 => ?_, fun hk5 => ?_⟩⟩
    ·
      refine ⟨_, hA6.cell 2 rfl, _, _, _, hA6.cell 3 rfl, ?_⟩
      refine step_call (Find_spec hX6 (by omega) (by omega) (hro hX6.p.c) (hfar hX6) (by omega) x.ver hlc) ?_
      rintro v w7 ⟨FI7, FO, ⟨o7, c7, rfl, hr7⟩, hO7, hX7, hE7, hap7, hc7⟩
      obtain ⟨hperm, hfnd, hlen, hpgs⟩ := findR_law es x.ver x.l
      have hA7 : Blk w7 ab (actX x) 78 := hA6.keep hc7 (fun hh => hh.elim (fun hh => haI hh) (fun hh => haP hh))
      generalize findR es x.ver x.l = r at hr7 hX7 hperm hfnd hlen hpgs ⊢
      obtain ⟨es', out⟩ := r
      dsimp only at hr7 hX7 hperm hfnd hlen hpgs ⊢
      have hlive : ∀ y ∈ out, 0 ≤ y ∧ y < (8 : Nat) ∧ 1 ≤ uF es y.toNat := fun y hy => by
        obtain ⟨e, he, _, rfl⟩ := hpgs y hy
        exact (uF_inX hI).live he
      rw [SP_all hlive, if_pos rfl, SP_shareL hlive] at hX7
      have hX7 := hX7.reg (B' := 2000) (SP_good fun j _ => by
        have h1 := cnt_nonneg es j
        have h2 := cnt_le es j
        have h3 := List.count_le_length (a := (j : Int)) (l := out)
        unfold incL uF
        omega)
      have hOP : ∀ i, FO i → ¬ F i := fun i hi hf => absurd (hX6.p.lt i hf) (Nat.not_lt.2 (hO7 i hi).1)
      have hL10 : out.length ≤ 10 := by omega
      refine ⟨_, _, _, rfl, fun w' => Ch Non w7 w', ⟨fun w' => Ch Non w7 w', fun w8 e8 => ⟨Ch.drew e8, ?_⟩⟩, ?_⟩
      · rw [wrap_id (x := 4 * ((out.length : Nat) : Int)) (by omega) (by omega)]
        refine ⟨fun hpos => ?_, fun hz => ?_⟩
        · have hpos : 0 < out.length := by have := of_decide_eq_true hpos; omega
          have h4 : 4 * out.length < x.l.length := hlen.resolve_left (by omega)
          refine ⟨_, fun w' hc => (hA7.keepN hc).cell 2 rfl, _, _, _, fun w' hc => (hA7.keepN hc).cell 3 rfl, ⟨by omega, by omega⟩, ?_⟩
          have hX8 := hX7.keepN (Ch.drew e8)
          have hlt : (4 * ((out.length : Nat) : Int)).toNat - 0 = (x.l.take (4 * out.length)).length := by rw [List.length_take]; omega
          rw [hlt]
          refine step_call (Has_spec hX8.x (tokRd (hro hX8.p.c) hlc _) x.ver _) ?_
          rintro v w11 ⟨rfl, hc11⟩
          have hc711 := (Ch.drew (F := Non) e8).andN hc11
          have hhas : findI es' x.ver (x.l.take (4 * out.length)) ≥ 0 := by
            rw [findI_ge]
            obtain ⟨e, he, hh⟩ := hfnd (out.length - 1) (by omega)
            have : 4 * (out.length - 1) + 4 = 4 * out.length := by omega
            rw [this] at hh
            exact ⟨e, hperm.mem_iff.2 he, hh⟩
          refine ⟨_, rfl, hc711, iteF (by rw [decide_eq_true hhas]; rfl) ⟨_, _, _, (hA7.keepN hc711).cell 3 rfl, hc711, iteF (decide_eq_false ?_) hc711⟩⟩
          split <;> omega
        · have hz : out.length = 0 := by have := of_decide_eq_false hz; omega
          refine ⟨_, _, _, (hA7.keepN (Ch.drew e8)).cell 3 rfl, Ch.drew e8, iteF (decide_eq_false ?_) (Ch.drew e8)⟩
          rw [hz]
          split <;> omega
      · rintro jk w12 hc12
        refine ⟨fun i f w' => ∃ m : Nat, i = m ∧ m ≤ out.length ∧ f = out.length - m ∧ Ch Non w7 w', ⟨_, 0, rfl, Nat.zero_le _, rfl, hc12⟩, ?_⟩
        rintro jk i f w13 ⟨m, rfl, hm, rfl, hc13⟩
        refine ⟨fun hlt => ?_, fun hge => ?_⟩
        · have hlt : m < out.length := by have := of_decide_eq_true hlt; omega
          refine ⟨fun w' => Ch Non w7 w', fun w14 e14 => ⟨hc13.andN (Ch.drew e14), ⟨by omega, by omega⟩, ?_⟩⟩
          refine Rd.keeps (j := (m : Int).toNat * 1) (xs := out) (S := fun w' => Ch Non w7 w') (fun w' hc => hr7.keepN hc) hc13 (by simpa using hlt) fun p hp => ⟨_, hp, _, fun w' hc => (hA7.keepN hc).cell 2 rfl, ?_⟩
          have hmx : out[(m : Int).toNat * 1]'(by simpa using hlt) = out[m] := by congr 1; omega
          rw [hmx]
          have hc14 := hc13.andN (Ch.drew (F := Non) e14)
          refine step_call (Version_spec (hX7.p.r.keepN hc14) _) ?_
          rintro v w17 ⟨rfl, rfl⟩
          have hy := hlive out[m] (List.getElem_mem hlt)
          obtain ⟨e, he, hev, hep⟩ := hpgs out[m] (List.getElem_mem hlt)
          have hpg := (hI e he).2.2
          have hpos : 0 < incL (uF es) out 1 out[m].toNat := by unfold incL; omega
          have hval : (if isB (SP 8 (incL (uF es) out 1)) out[m] then (pgAt (SP 8 (incL (uF es) out 1)) out[m]).ver else 0) = x.ver := by
            rw [SP_is, decide_eq_true ⟨hy.1, hy.2.1, hpos⟩, if_pos rfl, SP_at hy.1 hy.2.1, mkP_ver hpos]
            omega
          rw [hval]
          exact ⟨_, rfl, hc14, iteF (by simp) ⟨out.length - (m + 1), by omega, m + 1, by rw [wrap_id (by omega) (by omega)]; rfl, hlt, rfl, hc14⟩⟩
        · have hX13 := hX7.keepN hc13
          have hcov : ∀ y ∈ out, 0 ≤ y ∧ y < (8 : Nat) ∧ (out.count y : Int) ≤ incL (uF es) out 1 y.toNat := fun y hy => by
            obtain ⟨a, b, c⟩ := hlive y hy
            refine ⟨a, b, ?_⟩
            unfold incL
            have : ((y.toNat : Nat) : Int) = y := by omega
            rw [this]; omega
          have hall : allB (SP 8 (incL (uF es) out 1)) out = true := SP_all fun y hy => by
            obtain ⟨a, b, c⟩ := hlive y hy
            refine ⟨a, b, ?_⟩
            unfold incL; omega
          refine step_call (Drop_spec hX13.p.r hX13.p.lt (hr7.keepN hc13) (fun i hi => by have := (hO7 i hi).2; have := hc13.size; omega) (fun i _ hi hf => hOP i hi hf) (by omega) (by rw [SP_len]; omega) (by omega) hX13.g.bnd c7) ?_
          rintro v w18 ⟨rfl, hr18, hc18⟩
          rw [hall, SP_over hcov] at hr18 ⊢
          have hr18 : PoolR w18 pb (dropL (SP 8 (incL (uF es) out 1)) out) F := hr18
          have hback : dropL (SP 8 (incL (uF es) out 1)) out = SP 8 (uF es') := by
            rw [SP_dropL hcov]
            refine SP_ext fun j _ => ?_
            unfold incL uF
            rw [cnt_perm hperm]; omega
          rw [hback] at hr18
          have hel : es'.length = es.length := Perm_len hperm
          exact ⟨_, rfl, iteF rfl ⟨es', FI7, hX13.pool hr18 hc18 (uF_good (by omega)), fun e he => hI e (hperm.mem_iff.1 he), by omega⟩⟩
    ·
      refine ⟨_, hA6.cell 2 rfl, _, _, _, hA6.cell 3 rfl, ?_⟩
      refine step_call (Find_spec hX6 (by omega) (by omega) (hro hX6.p.c) (hfar hX6) (by omega) x.ver hlc) ?_
      rintro v w7 ⟨FI7, FO, ⟨o7, c7, rfl, hr7⟩, hO7, hX7, hE7, hap7, hc7⟩
      obtain ⟨hperm, hfnd, hlen, hpgs⟩ := findR_law es x.ver x.l
      have hA7 : Blk w7 ab (actX x) 78 := hA6.keep hc7 (fun hh => hh.elim (fun hh => haI hh) (fun hh => haP hh))
      generalize findR es x.ver x.l = r at hr7 hX7 hperm hfnd hlen hpgs ⊢
      obtain ⟨es', out⟩ := r
      dsimp only at hr7 hX7 hperm hfnd hlen hpgs ⊢
      have hlive : ∀ y ∈ out, 0 ≤ y ∧ y < (8 : Nat) ∧ 1 ≤ uF es y.toNat := fun y hy => by
        obtain ⟨e, he, _, rfl⟩ := hpgs y hy
        exact (uF_inX hI).live he
      rw [SP_all hlive, if_pos rfl, SP_shareL hlive] at hX7
      have hX7 := hX7.reg (B' := 2000) (SP_good fun j _ => by
        have h1 := cnt_nonneg es j
        have h2 := cnt_le es j
        have h3 := List.count_le_length (a := (j : Int)) (l := out)
        unfold incL uF
        omega)
      have hOP : ∀ i, FO i → ¬ F i := fun i hi hf => absurd (hX6.p.lt i hf) (Nat.not_lt.2 (hO7 i hi).1)
      have hL10 : out.length ≤ 10 := by omega
      refine ⟨_, _, _, rfl, fun w' => Ch Non w7 w', ⟨fun w' => Ch Non w7 w', fun w8 e8 => ⟨Ch.drew e8, ?_⟩⟩, ?_⟩
      · rw [wrap_id (x := 4 * ((out.length : Nat) : Int)) (by omega) (by omega)]
        refine ⟨fun hpos => ?_, fun hz => ?_⟩
        · have hpos : 0 < out.length := by have := of_decide_eq_true hpos; omega
          have h4 : 4 * out.length < x.l.length := hlen.resolve_left (by omega)
          refine ⟨_, fun w' hc => (hA7.keepN hc).cell 2 rfl, _, _, _, fun w' hc => (hA7.keepN hc).cell 3 rfl, ⟨by omega, by omega⟩, ?_⟩
          have hX8 := hX7.keepN (Ch.drew e8)
          have hlt : (4 * ((out.length : Nat) : Int)).toNat - 0 = (x.l.take (4 * out.length)).length := by rw [List.length_take]; omega
          rw [hlt]
          refine step_call (Has_spec hX8.x (tokRd (hro hX8.p.c) hlc _) x.ver _) ?_
          rintro v w11 ⟨rfl, hc11⟩
          have hc711 := (Ch.drew (F := Non) e8).andN hc11
          have hhas : findI es' x.ver (x.l.take (4 * out.length)) ≥ 0 := by
            rw [findI_ge]
            obtain ⟨e, he, hh⟩ := hfnd (out.length - 1) (by omega)
            have : 4 * (out.length - 1) + 4 = 4 * out.length := by omega
            rw [this] at hh
            exact ⟨e, hperm.mem_iff.2 he, hh⟩
          refine ⟨_, rfl, hc711, iteF (by rw [decide_eq_true hhas]; rfl) ⟨_, _, _, (hA7.keepN hc711).cell 3 rfl, hc711, iteF (decide_eq_false ?_) hc711⟩⟩
          split <;> omega
        · have hz : out.length = 0 := by have := of_decide_eq_false hz; omega
          refine ⟨_, _, _, (hA7.keepN (Ch.drew e8)).cell 3 rfl, Ch.drew e8, iteF (decide_eq_false ?_) (Ch.drew e8)⟩
          rw [hz]
          split <;> omega
      · rintro jk w12 hc12
        refine ⟨fun i f w' => ∃ m : Nat, i = m ∧ m ≤ out.length ∧ f = out.length - m ∧ Ch Non w7 w', ⟨_, 0, rfl, Nat.zero_le _, rfl, hc12⟩, ?_⟩
        rintro jk i f w13 ⟨m, rfl, hm, rfl, hc13⟩
        refine ⟨fun hlt => ?_, fun hge => ?_⟩
        · have hlt : m < out.length := by have := of_decide_eq_true hlt; omega
          refine ⟨fun w' => Ch Non w7 w', fun w14 e14 => ⟨hc13.andN (Ch.drew e14), ⟨by omega, by omega⟩, ?_⟩⟩
          refine Rd.keeps (j := (m : Int).toNat * 1) (xs := out) (S := fun w' => Ch Non w7 w') (fun w' hc => hr7.keepN hc) hc13 (by simpa using hlt) fun p hp => ⟨_, hp, _, fun w' hc => (hA7.keepN hc).cell 2 rfl, ?_⟩
          have hmx : out[(m : Int).toNat * 1]'(by simpa using hlt) = out[m] := by congr 1; omega
          rw [hmx]
          have hc14 := hc13.andN (Ch.drew (F := Non) e14)
          refine step_call (Version_spec (hX7.p.r.keepN hc14) _) ?_
          rintro v w17 ⟨rfl, rfl⟩
          have hy := hlive out[m] (List.getElem_mem hlt)
          obtain ⟨e, he, hev, hep⟩ := hpgs out[m] (List.getElem_mem hlt)
          have hpg := (hI e he).2.2
          have hpos : 0 < incL (uF es) out 1 out[m].toNat := by unfold incL; omega
          have hval : (if isB (SP 8 (incL (uF es) out 1)) out[m] then (pgAt (SP 8 (incL (uF es) out 1)) out[m]).ver else 0) = x.ver := by
            rw [SP_is, decide_eq_true ⟨hy.1, hy.2.1, hpos⟩, if_pos rfl, SP_at hy.1 hy.2.1, mkP_ver hpos]
            omega
          rw [hval]
          exact ⟨_, rfl, hc14, iteF (by simp) ⟨out.length - (m + 1), by omega, m + 1, by rw [wrap_id (by omega) (by omega)]; rfl, hlt, rfl, hc14⟩⟩
        · have hX13 := hX7.keepN hc13
          have hcov : ∀ y ∈ out, 0 ≤ y ∧ y < (8 : Nat) ∧ (out.count y : Int) ≤ incL (uF es) out 1 y.toNat := fun y hy => by
            obtain ⟨a, b, c⟩ := hlive y hy
            refine ⟨a, b, ?_⟩
            unfold incL
            have : ((y.toNat : Nat) : Int) = y := by omega
            rw [this]; omega
          have hall : allB (SP 8 (incL (uF es) out 1)) out = true := SP_all fun y hy => by
            obtain ⟨a, b, c⟩ := hlive y hy
            refine ⟨a, b, ?_⟩
            unfold incL; omega
          refine step_call (Drop_spec hX13.p.r hX13.p.lt (hr7.keepN hc13) (fun i hi => by have := (hO7 i hi).2; have := hc13.size; omega) (fun i _ hi hf => hOP i hi hf) (by omega) (by rw [SP_len]; omega) (by omega) hX13.g.bnd c7) ?_
          rintro v w18 ⟨rfl, hr18, hc18⟩
          rw [hall, SP_over hcov] at hr18 ⊢
          have hr18 : PoolR w18 pb (dropL (SP 8 (incL (uF es) out 1)) out) F := hr18
          have hback : dropL (SP 8 (incL (uF es) out 1)) out = SP 8 (uF es') := by
            rw [SP_dropL hcov]
            refine SP_ext fun j _ => ?_
            unfold incL uF
            rw [cnt_perm hperm]; omega
          rw [hback] at hr18
          have hel : es'.length = es.length := Perm_len hperm
          exact ⟨_, rfl, iteF rfl ⟨es', FI7, hX13.pool hr18 hc18 (uF_good (by omega)), fun e he => hI e (hperm.mem_iff.1 he), by omega⟩⟩
    · refine step_call (Len_spec hX6.x) ?_
      rintro v w31 ⟨rfl, rfl⟩
      refine ⟨_, rfl, _, hA6.cell 1 rfl, _, hA6.cell 2 rfl, _, _, _, hA6.cell 3 rfl, ?_⟩
      refine step_call (Add_spec hX6 (by omega) (by omega) (hro hX6.p.c) (by omega) x.id x.ver x.c) ?_
      rintro v w32 ⟨rfl, hX32, hc32⟩
      have hA32 : Blk w32 ab (actX x) 78 := hA6.keep hc32 (fun hh => hh.elim (fun hh => haI hh) (fun hh => haP hh))
      refine ⟨_, rfl, fun hz => ?_, fun hz => ?_⟩
      · have hz : addE (SP 8 (uF es)) es x.id x.ver x.l = 0 := by simpa using hz
        obtain ⟨e1', e2', hI'⟩ := add_law hI hz
        rw [e1', e2'] at hX32
        refine step_call (Len_spec hX32.x) ?_
        rintro v w33 ⟨rfl, rfl⟩
        refine ⟨_, rfl, iteF (by rw [wrap_id (by omega) (by omega), List.length_append]; simp) ⟨_, hA32.cell 2 rfl, _, _, _, hA32.cell 3 rfl, ?_⟩⟩
        refine step_call (Has_spec hX32.x (hro hX32.p.c) x.ver x.c) ?_
        rintro v w34 ⟨rfl, hc34⟩
        have hhas : findI (es ++ [⟨x.ver, x.l, x.id⟩]) x.ver x.l ≥ 0 := by
          rw [findI_ge]
          exact ⟨⟨x.ver, x.l, x.id⟩, by simp, by simp [hasB]⟩
        have hel' : (es ++ [(⟨x.ver, x.l, x.id⟩ : EntD)]).length = es.length + 1 := by rw [List.length_append]; rfl
        exact ⟨_, rfl, iteF (by rw [decide_eq_true hhas]; rfl) ⟨_, _, (hX32.keepN hc34).reg (uF_good (by omega)), hI', by omega⟩⟩
      · have hz : addE (SP 8 (uF es)) es x.id x.ver x.l ≠ 0 := by simpa using hz
        obtain ⟨e1', e2'⟩ := add_fail hz
        rw [e1', e2'] at hX32
        exact ⟨_, _, hX32.reg (uF_good (by omega)), hI, by omega⟩
  clear hS3 ha hQ h1
  rintro jk w36 ⟨es, FI, hX, hI, hel⟩
  have hcz : ∀ m : Nat, ∀ j, j < 8 → 0 ≤ (if j < m then 0 else 1) + cnt es j ∧ (if j < m then 0 else 1) + cnt es j ≤ 1000 := fun m j _ => by
    have := cnt_nonneg es j
    have := cnt_le es j
    split <;> omega
  refine ⟨fun i f w' => ∃ m : Nat, i = m ∧ m ≤ 8 ∧ f = 8 - m ∧ PX W w' pb xb 8 1000 (SP 8 (fun j => (if j < m then 0 else 1) + cnt es j)) es F FI, ⟨_, 0, rfl, by omega, rfl, by
    have : (fun j => (if j < 0 then 0 else 1) + cnt es j) = uF es := by
      funext j; unfold uF; rw [if_neg (by omega)]
    rw [this]; exact hX⟩, ?_⟩
  clear hX
  rintro jk i f w37 ⟨m, rfl, hm, rfl, hX⟩
  refine ⟨fun hlt w38 a38 => ?_, fun hge => ?_⟩
  · have hlt : m < 8 := by have := of_decide_eq_true hlt; omega
    have r38 : Rd w38 (some ⟨w37.heap.size, 0, none⟩) (([(m : Int)] : List Int).map (.int .i64)) (· = w37.heap.size) := (Blk.new a38).rd
    have hs38 : w37.heap.size < w38.heap.size := (Blk.new a38).lt
    have hlt37 := hX.p.lt
    have hX38 := hX.keepN (Ch.alloc a38)
    have hmm : ((m : Nat) : Int).toNat = m := Int.toNat_natCast m
    have hum : 1 ≤ (fun j => (if j < m then 0 else 1) + cnt es j) ((m : Nat) : Int).toNat := by
      have := cnt_nonneg es m
      rw [hmm]
      dsimp only
      rw [if_neg (Nat.lt_irrefl _)]; omega
    have hall : allB (SP 8 (fun j => (if j < m then 0 else 1) + cnt es j)) [(m : Int)] = true := SP_all fun y hy => by
      rw [List.mem_singleton] at hy
      subst hy
      exact ⟨by omega, by omega, hum⟩
    have hov : overB (SP 8 (fun j => (if j < m then 0 else 1) + cnt es j)) [(m : Int)] = false := SP_over fun y hy => by
      rw [List.mem_singleton] at hy
      subst hy
      refine ⟨by omega, by omega, ?_⟩
      rw [List.count_singleton_self]; exact hum
    refine step_call (Drop_spec (l := [(m : Int)]) hX38.p.r hX38.p.lt r38 (fun i hi => by omega) (fun i _ hi hf => by have := hlt37 i hf; omega) (by simp) (by rw [SP_len]; omega) (by omega) hX38.g.bnd 1) ?_
    rintro v w39 ⟨rfl, hr39, hc39⟩
    rw [hall, hov] at hr39 ⊢
    have hr39 : PoolR w39 pb (dropU (SP 8 (fun j => (if j < m then 0 else 1) + cnt es j)) (m : Int)) F := hr39
    rw [SP_dropU (by omega) (by omega) hum] at hr39
    have he : SP 8 (inc (fun j => (if j < m then 0 else 1) + cnt es j) (m : Int) (-1)) = SP 8 (fun j => (if j < m + 1 then 0 else 1) + cnt es j) := SP_ext fun j _ => by
      unfold inc
      by_cases hjm : j = m
      · subst hjm
        rw [if_pos rfl]
        dsimp only
        rw [if_neg (Nat.lt_irrefl _), if_pos (by omega)]; omega
      · rw [if_neg (by omega)]
        dsimp only
        by_cases h2 : j < m
        · rw [if_pos h2, if_pos (by omega)]
        · rw [if_neg h2, if_neg (by omega)]
    rw [he] at hr39
    exact ⟨0, rfl, iteF rfl ⟨8 - (m + 1), by omega, m + 1, by rw [wrap_id (by omega) (by omega)]; rfl, hlt, rfl, hX38.pool hr39 hc39 (SP_good (hcz (m + 1)))⟩⟩
  have hm8 : m = 8 := by have := of_decide_eq_false hge; omega
  subst hm8
  have hcn : SP 8 (fun j => (if j < 8 then 0 else 1) + cnt es j) = SP 8 (cnt es) := SP_ext fun j hj => by
    rw [if_pos hj]; omega
  rw [hcn] at hX
  clear hcn hcz
  refine step_call (Len_spec hX.x) ?_
  rintro v w40 ⟨rfl, rfl⟩
  refine ⟨_, rfl, fun n f w' => ∃ es : List EntD, n = es.length ∧ f = es.length ∧ es.length ≤ 40 ∧ InPg 8 es ∧ PX W w' pb xb 8 1000 (SP 8 (cnt es)) es F FI, ⟨_, es, rfl, rfl, hel, hI, hX⟩, ?_⟩
  clear hX hI hel
  rintro jk n f w41 ⟨es, rfl, rfl, hel, hI, hX⟩
  refine step_call (Evict_spec hX (by omega) (by omega) (by omega)) ?_
  rintro v w42 ⟨rfl, hX42, _⟩
  refine ⟨_, rfl, fun hlt => ?_, fun hge => ?_⟩
  · have hlt : evI (SP 8 (cnt es)) es < es.length := of_decide_eq_true hlt
    have hev : evP (SP 8 (cnt es)) es = dropQ (SP 8 (cnt es)) es[evI (SP 8 (cnt es)) es].page := by unfold evP; rw [List.getElem?_eq_getElem hlt]
    rw [hev] at hX42
    generalize evI (SP 8 (cnt es)) es = q at hlt hX42
    have hIx : InX 8 (cnt es) es := ⟨hI, fun j _ => Int.le_refl _⟩
    obtain ⟨a, b, c⟩ := hIx.live (List.getElem_mem hlt)
    rw [SP_dropQ a b c] at hX42
    have he : SP 8 (inc (cnt es) es[q].page (-1)) = SP 8 (cnt (es.eraseIdx q)) := SP_ext fun j _ => by
      have := cnt_erase hlt j
      unfold inc
      split
      · rename_i h; rw [if_pos h] at this; omega
      · rename_i h; rw [if_neg h] at this; omega
    rw [he] at hX42
    have hl : (es.eraseIdx q).length = es.length - 1 := by rw [List.length_eraseIdx, if_pos hlt]
    exact ⟨es.length - 1, by omega, es.eraseIdx q, by rw [wrap_id (by omega) (by omega), hl]; omega, hl.symm, by omega, fun e he => hI e (List.mem_of_mem_eraseIdx he), hX42⟩
  have hge : ¬ evI (SP 8 (cnt es)) es < es.length := of_decide_eq_false hge
  have hev : evP (SP 8 (cnt es)) es = SP 8 (cnt es) := by unfold evP; rw [List.getElem?_eq_none (by omega)]
  rw [hev, List.eraseIdx_of_length_le (by omega)] at hX42
  refine step_call (Len_spec hX42.x) ?_
  rintro v w43 ⟨rfl, rfl⟩
  refine ⟨_, rfl, iteF (by simp) ?_⟩
  have hIx : InX 8 (cnt es) es := ⟨hI, fun j _ => Int.le_refl _⟩
  obtain ⟨f1, g1⟩ := hIx.forget 1
  refine step_call (Forget_spec hX42 (by omega) (by omega) (by omega) 1) ?_
  rintro v w44 ⟨rfl, hX44, _⟩
  rw [f1] at hX44
  have l1 : (es.filter (keepE 1)).length ≤ es.length := List.length_filter_le _ _
  obtain ⟨f2, g2⟩ := g1.forget 2
  have hnil : (es.filter (keepE 1)).filter (keepE 2) = [] := List.filter_eq_nil_iff.2 (fun e he hk => by
    obtain ⟨he, hk1⟩ := List.mem_filter.1 he
    have := (hI e he).2.2
    unfold keepE at hk hk1
    have h1 : e.ver ≠ 1 := by simpa using hk1
    have h2 : e.ver ≠ 2 := by simpa using hk
    have := (hI e he).1
    omega)
  refine ⟨_, rfl, ?_⟩
  refine step_call (Forget_spec hX44 (by omega) (by omega) (by omega) 2) ?_
  rintro v w45 ⟨rfl, hX45, _⟩
  rw [f2, hnil] at hX45
  rw [hnil]
  refine ⟨_, rfl, iteT (by rw [wrap_id (by simp only [List.length_nil]; omega) (by simp only [List.length_nil]; omega)]; simp only [List.length_nil, beq_iff_eq]; omega) ?_⟩
  refine step_call (Len_spec hX45.x) ?_
  rintro v w46 ⟨rfl, rfl⟩
  refine ⟨_, rfl, iteT rfl ?_⟩
  refine step_call (Free_spec hX45.p.r) ?_
  rintro v w47 ⟨rfl, rfl⟩
  have hfree : SP 8 (decL (decL (cnt es) (es.filter (fun e => e.ver == 1))) ((es.filter (keepE 1)).filter (fun e => e.ver == 2))) = SP 8 (fun _ => 0) := SP_ext fun j _ => by
    have h1 := cnt_filter 1 es j
    have h2 := cnt_filter 2 (es.filter (keepE 1)) j
    rw [hnil] at h2
    have h3 : cnt [] j = 0 := rfl
    unfold decL
    omega
  rw [hfree]
  exact ⟨8, rfl, rfl, hX45.p.c⟩
end Go.Proofs.Ytpcddfhfchempaa.Prefix
