import Derived.Test.YtkbikekbaboclaaGreatCrewV
import Derived.Test.YtkbikekbaboclaaGreatVcCrewS
set_option linter.unusedVariables false
set_option linter.unusedSimpArgs false
namespace Go.Proofs.YtkbikekbaboclaaGreat.Crew
open Go Go.Proofs V Vc Step Pages Prefix Brain Conf Stp Go.RowKit
open Ward (AskD AskP askE AskR ask_one asks_one)
theorem mod3 (x : Int) : 3 ≤ IntKind.i64.wrap (3 + IntKind.i64.wrap (Int.tmod (IntKind.u64.wrap x) 10)) ∧ IntKind.i64.wrap (3 + IntKind.i64.wrap (Int.tmod (IntKind.u64.wrap x) 10)) ≤ 12 := by
 rw [wrap_u64, tmod_pos (Int.emod_nonneg _ (by omega))]
 have h1 := Int.emod_nonneg (x % 18446744073709551616) (show (10 : Int) ≠ 0 by omega)
 have h2 := Int.emod_lt_of_pos (x % 18446744073709551616) (show (0 : Int) < 10 by omega)
 rw [wrap_id (x := _ % (10 : Int)) (by omega) (by omega), wrap_id (by omega) (by omega)]
 omega
theorem ver_brain {q0 q1 : Nat × ByteArray} {ver : Int} (h : 1 ≤ ver ∧ ver ≤ 2) : ∃ q, q ∈ [q0, q1] ∧ [brE q0, brE q1][(Int.tmod ver 2).toNat]? = some (brE q) ∧ q.2 = mdsP q0 q1 2 ver ∧ 0 ≤ Int.tmod ver 2 ∧ Int.tmod ver 2 < 2 := by
 by_cases hv1 : ver = 1
 ·subst hv1; exact ⟨q1, by simp, rfl, rfl, by decide, by decide⟩
 ·obtain rfl : ver = 2 := by omega
  exact ⟨q0, by simp, rfl, rfl, by decide, by decide⟩
def MI (W w : World) (cb pb xb k : Nat) (md : Mds) (oa : Option Addr) (al : List (AskD × AskP)) (o : Option Addr) (n c j dn lo : Nat) : Prop :=
 ∃ (qs : List (AskD × AskP)) (T : Nat → Prop) (ps : List PageD) (es : List EntD) (rs : List RunD) (R : Nat → Nat → Prop), St W w cb pb xb k c25 md ps es rs R ∧ WaitR W w R o n c qs T ∧ AllR w R oa al T ∧ SInv (al.map (·.1)) (qs.map (·.1)) rs dn ∧ j ≤ 100 + 12 * dn + headF rs ∧ lo ≤ rs.length
def FI (W w : World) (cb pb xb k : Nat) (md : Mds) (o : Option Addr) (n c j : Nat) : Prop :=
 ∃ (qs : List (AskD × AskP)) (T : Nat → Prop) (ps : List PageD) (es : List EntD) (R : Nat → Nat → Prop), St W w cb pb xb k c25 md ps es [] R ∧ WaitR W w R o n c qs T ∧ qs.length = j ∧ OkL k (qs.map (·.1))
def FinI (W w : World) (cb pb xb k : Nat) (md : Mds) (al : List AskD) (dn : Nat) : Prop :=
 ∃ (wa : List AskD) (ps : List PageD) (es : List EntD) (rs : List RunD) (R : Nat → Nat → Prop), St W w cb pb xb k c25 md ps es rs R ∧ SInv al wa rs dn
set_option maxRecDepth 100000 in
set_option maxHeartbeats 4000000 in
theorem CrewSays_true (W : World) (ws : ByteArray) (_ : ws.size ≤ 140737488351232) (o1 : Option Addr) (n1 c1 : Nat) (h1 : DatC Tryz.prog W t_S_ward_Ask [.slice o1 n1 c1]) (pages : Int) (_ : (Lit.int .i64 pages).wf = true) (o2 : Option Addr) (n2 c2 : Nat) (h2 : DatC Tryz.prog W t_S_int [.slice o2 n2 c2]) :
  Calls Tryz.prog i_coadjutorlaw25_CrewSays #[.string ws, .slice o1 n1 c1, .int .i64 pages, .slice o2 n2 c2] W (Ret fun v w' => v = .bool true ∧ Ch Non W w') := by
 obtain ⟨o1', c1', ys, hcs1, _, _, _, hQ, ha⟩ := h1.sliceOf (e := t_ward_Ask) (enc := askE) (Q := fun y => AskI W y) (by kernel_rfl) (fun x hl hd => ask_dat hd)
 injection hcs1 with hcs1
 injection hcs1 with q1 q2 q3
 subst q1; subst q2; subst q3
 obtain ⟨o2', c2', pk, e2, _, _, _, _, hpk⟩ := h2.ints (k := .i64) (e := t_int) (by kernel_rfl) (by kernel_rfl)
 injection e2 with e2
 injection e2 with q1 q2 q3
 subst q1; subst q2; subst q3
 refine coadjutorlaw25_CrewSays.calls _ _ _ _ _ _ _ _ ?_
 unfold coadjutorlaw25_CrewSays.vc
 refine step_call (awake_spec W) ?_
 rintro v w1 ⟨rfl, hc1⟩
 refine ⟨_, rfl, iteF rfl ⟨fun _ => ⟨rfl, hc1⟩, fun hy8 => ⟨fun _ => ⟨rfl, hc1⟩, fun hp100 => ⟨by decide, ?_⟩⟩⟩⟩
 have hy8 := of_decide_eq_false hy8
 have hp100 := of_decide_eq_false hp100
 refine step_call (models_spec w1 ws) ?_
 rintro v w2 ⟨q0, q1, rfl, hBr2, hc2⟩
 refine ⟨_, _, _, _, _, _, _, _, _, _, _, _, _, _, _, _, rfl, setup25 hBr2 fun W6 hc26 hBA hBr _ => ?_⟩
 have hc06 := (hc1.andN hc2).andN hc26
 have hmd : ∀ v, Md c25 (mdsP q0 q1 2 v) := mdsP_ok hBr
 obtain ⟨md, hmdE⟩ : ∃ md, md = mdsP q0 q1 2 := ⟨_, rfl⟩
 rw [← hmdE] at hmd
 have hvm : md.vm = 2 := by rw [hmdE]; rfl
 generalize w2.heap.size = bA at hBA
 obtain ⟨hn3, hn12⟩ := mod3 pages
 generalize IntKind.i64.wrap (3 + IntKind.i64.wrap (Int.tmod (IntKind.u64.wrap pages) 10)) = n at hn3 hn12
 refine step_call (St.new (W := W6) (w := W6) (cf := c25) (md := md) (Ch.refl _ _) n) ?_
 rintro v w7 ⟨_, _, h7⟩
 obtain ⟨cb, pb, xb, R, rfl, hS7, hRn⟩ := h7 (by omega)
 clear h7
 obtain ⟨k, rfl⟩ : ∃ k : Nat, n = k := ⟨n.toNat, by omega⟩
 rw [Int.toNat_natCast] at hS7
 refine ⟨_, rfl, fun w8 e8 => ?_⟩
 have hW8 : WaitR W6 w8 R (some ⟨w7.heap.size, 0, none⟩) 0 0 [] (fun i => i = w7.heap.size) :=
  ⟨rfl, Own.made e8 rfl (by decide) rfl, fun i hi => ⟨by rw [hi]; exact hS7.ch.size, by rw [hi, e8]; exact (Blk.new rfl).lt, fun k hk => by have := (hS7.lt i ⟨k, hk⟩).2; omega⟩, fun q hq => (by cases hq)⟩
 have hS8 := hS7.keepN (Ch.alloc e8)
 refine ⟨fun o n c i vk w' => ∃ j : Nat, i = j ∧ j ≤ ys.length ∧ vk = ys.length - j ∧ FI W6 w' cb pb xb k md o n c j, ⟨_, 0, rfl, Nat.zero_le _, rfl, _, _, _, _, R, hS8, hW8, rfl, fun j hj => by simp at hj⟩, ?_⟩
 clear hS8 hW8 hS7 hRn R
 rintro jk wo wn wc i vk w9 ⟨j, rfl, hj, rfl, qs, T, ps, es, R, hS, hW, hql, hok⟩
 have hc09 := hc06.andN hS.ch
 refine ⟨fun hlt => ?_, fun hge => ?_⟩
 ·have hlt : j < ys.length := by have := of_decide_eq_true hlt; omega
  obtain ⟨p, hp, _, _, hcell⟩ := (ha.keepN hc09).elem (sz := 5) (enc := askE) (fun _ => rfl) (by omega) hlt
  have hq := hQ _ (List.getElem_mem hlt)
  generalize ys[j] = x at hcell hq
  rw [← Int.toNat_natCast j] at hcell
  have h0 := hcell 0 _ rfl
  rw [add_none] at h0
  subst hp
  refine ⟨⟨by omega, by omega⟩, _, _, _, _, _, _, _, _, _, ⟨h0, hcell 1 _ rfl, hcell 2 _ rfl, hcell 3 _ rfl, hcell 4 _ rfl⟩, ?_⟩
  obtain ⟨hx1, hx2, _, _, _, _, hx3, hx4⟩ := hq
  refine step_call (Copy_any (hx1.keepN hc09) (hx2.keepN hc09) hx3 hx4) ?_
  rintro v w10 ⟨p, rfl, hcp, hc10⟩
  obtain ⟨⟨a0, a1, xs, most, ds⟩, xp⟩ := x
  dsimp only at hcp ⊢
  refine ⟨_, _, _, _, _, _, _, _, _, rfl, fun w11 e11 => ?_⟩
  have hA11 := Blk.new e11
  have s10 := hc10.size
  obtain ⟨tA, htA⟩ : ∃ n, w10.heap.size = n := ⟨_, rfl⟩
  have l1011 := hA11.lt
  rw [htA] at hA11 l1011 s10 ⊢
  refine ⟨⟨hA11.ok 0 rfl, hA11.ok 1 rfl, hA11.ok 2 rfl, hA11.ok 3 rfl, hA11.ok 4 rfl⟩, fun w12 e12 => ?_⟩
  have e12' : w12 = w11.setCells tA 0 (askE (⟨a0, a1, xs, most, ds⟩, p)) := e12
  have hA12 := hA11.all (askE (⟨a0, a1, xs, most, ds⟩, p)) rfl e12'
  have hc1012 : Ch Non w10 w12 := (Ch.alloc (F := Non) e11).trans (Ch.sets (F := (· = tA)) e12' rfl) (fun i hi he => by omega)
  refine ⟨hA12.ok 0 rfl, fun w13 e13 => ?_⟩
  have hA13 := hA12.set e13
  refine ⟨_, hA13.cell 1 rfl, by decide, hA13.ok 1 rfl, fun w14 e14 => ?_⟩
  obtain ⟨v1, v2⟩ := modP a1 (n := 2) (by omega)
  generalize IntKind.i64.wrap (1 + IntKind.i64.wrap (Int.tmod (IntKind.u64.wrap a1) 2)) = ver at v1 v2 e14
  have hA14 := hA13.set e14
  have hid : IntKind.i64.wrap ((j : Int) + 1) = j + 1 := wrap_id (by omega) (by omega)
  rw [hid] at hA14
  have hA14 : Blk w14 tA (askE (⟨j + 1, ver, xs, most, ds⟩, p)) t_ward_Ask := hA14
  have hc1014 : Ch Non w10 w14 := (hc1012.trans (Ch.set (F := (· = tA)) e13 rfl) (fun i hi he => by omega)).trans (Ch.set (F := (· = tA)) e14 rfl) (fun i hi he => by omega)
  have hc914 := hc10.andN hc1014
  have hS14 := hS.keepN hc914
  have hcp14 : AskW w14 (⟨a0, a1, xs, most, ds⟩, p) (New w9 w10) := by
   obtain ⟨b1, b2, b3⟩ := hcp
   exact ⟨b1.keepN hc1014, b2.keepN hc1014, b3⟩
  obtain ⟨hxr, hdr, hx1, hx2, hd1, hd2⟩ := hcp14
  dsimp only at hxr hdr hx1 hx2 hd1 hd2
  obtain ⟨q, hqm, hqc, hqv, hqp⟩ := ver_brain (q0 := q0) (q1 := q1) ⟨v1, v2⟩
  rw [← hmdE] at hqv
  have hok15 : ∀ w', Ch Non w14 w' → Value.bool true = .bool true ∧ Ch Non W w' := fun w' hc => ⟨rfl, hc06.andN (hS14.ch.andN hc)⟩
  refine ⟨fun w' => Ch Non w14 w', fun w15 e15 => ⟨Ch.drew e15, _, _, _, fun w' k => (hA14.keepN k).cell 2 rfl, fun _ => hok15 _ (Ch.drew e15), fun hx40 => ⟨_, _, _, fun w' k => (hA14.keepN k).cell 4 rfl, fun _ => hok15 _ (Ch.drew e15), fun hd32 => ?_⟩⟩⟩
  have hx40 := of_decide_eq_false hx40
  have hd32 := of_decide_eq_false hd32
  dsimp only at hx40 hd32
  have hc15 : Ch Non w14 w15 := Ch.drew e15
  refine ⟨_, fun w' k => (hA14.keepN k).cell 1 rfl, by decide, hqp, some ⟨q.1, 0, none⟩, fun w' k => by rw [Nat.mul_one, add_at, Nat.zero_add]; exact ((hBA.keepN hS14.ch).keepN k).cell _ hqc, _, fun w' k => (hA14.keepN k).cell 3 rfl, _, _, _, fun w' k => (hA14.keepN k).cell 2 rfl, ?_⟩
  refine step_call (Gen.Check_spec (((hBr q hqm).1.keepN hS14.ch).keepN hc15) (ts := xs) ⟨_, _, rfl, hx1, hx2, hxr.keepN hc15⟩ (by omega) most) ?_
  rintro v w22 ⟨rfl, hc22⟩
  have hc1422 := hc15.andN hc22
  have hA22 := hA14.keepN hc1422
  refine ⟨_, rfl, hc1422, fun _ => hok15 _ hc1422, fun hck => ?_⟩
  have hck : Gen.checkP c25 most xs = 0 := by simpa using hck
  refine ⟨_, _, _, _, _, _, _, _, _, ⟨hA22.cell 0 rfl, hA22.cell 1 rfl, hA22.cell 2 rfl, hA22.cell 3 rfl, hA22.cell 4 rfl⟩, ?_⟩
  refine step_call (Ward.Need_spec w22 (⟨j + 1, ver, xs, most, ds⟩, p) (by dsimp only; omega)) ?_
  rintro v w23 ⟨rfl, hc23⟩
  have hc1423 := hc1422.andN hc23
  have hA23 := hA22.keepN hc23
  refine ⟨_, rfl, fun _ => hok15 _ hc1423, fun hnd => ?_⟩
  have hnd := of_decide_eq_false hnd
  dsimp only at hnd
  have hc923 := hc914.andN hc1423
  have hS23 := hS.keepN hc923
  have hW23 := hW.keepN hc923
  refine ⟨_, _, _, _, _, _, _, _, _, ⟨hA23.cell 0 rfl, hA23.cell 1 rfl, hA23.cell 2 rfl, hA23.cell 3 rfl, hA23.cell 4 rfl⟩, fun w24 e24 => ?_⟩
  have hask : AskC w23 (⟨j + 1, ver, xs, most, ds⟩, p) (Dt T R) := by
   have hs9 := hc10.size
   have hnew : ∀ i, New w9 w10 i → Dt T R i := fun i hi => ⟨fun ht => by have := (hW.t i ht).2.1; have := hi.1; omega, fun hm => by have := (hS.lt i (mut_all i hm)).2; have := hi.1; omega⟩
   exact ⟨⟨(hxr.keepN hc1423).mono (fun i _ hi => hnew i hi), (hdr.keepN hc1423).mono (fun i _ hi => hnew i hi), by dsimp only; omega, by dsimp only; omega⟩, hx1, hx2, hd1, hd2⟩
  obtain ⟨o', c', w25, hr25, hW25, hc25⟩ := hW23.push hS23.ch.size (fun i hi => (hS23.lt i hi).2) hask (by omega) e24
  have hS25 := hS23.far hc25 (fun k i hk ht => (hW.t i ht).2.2 k hk) (fun i hi ht => by have := (hW.t i ht).1; omega)
  refine ⟨_, _, _, w25, hr25, ys.length - (j + 1), by omega, j + 1, by rw [hid]; rfl, by omega, rfl, _, _, ps, es, R, hS25, hW25, by rw [List.length_append]; simp [hql], fun m hm => ?_⟩
  have hm' : m < qs.length + 1 := by simpa using hm
  simp only [List.map_append, List.map_cons, List.map_nil]
  by_cases hmq : m < qs.length
  ·have := hok m (by simpa using hmq)
   rw [List.getElem_append_left (by simpa using hmq)]
   exact this
  ·obtain rfl : m = j := by omega
   rw [List.getElem_append_right (by simp; omega)]
   simp only [List.length_map, List.getElem_singleton]
   exact ⟨by first | trivial | rfl, ⟨v1, v2⟩, ⟨by dsimp only; omega, by dsimp only; omega⟩, by dsimp only; omega, hck, by omega⟩
 ·obtain rfl : j = ys.length := by have := of_decide_eq_false hge; omega
  intro w26 e26
  have hAll26 := Own.made (e := t_ward_Ask) (sz := 5) (n := 0) (F := (· = w9.heap.size)) e26 rfl (by decide) rfl
  have hc926 : Ch Non w9 w26 := Ch.alloc e26
  have hW26 := hW.keepN hc926
  have hWn := hW.ln
  obtain ⟨oa, ca, w27, hr27, hown, hc2627⟩ := Own.appendRd (m := wn) (c2 := wc) el_S_ward_Ask hAll26 t_S_ward_Ask hW26.own.rd hW26.own.len (asks_one qs) (by unfold maxLen; omega) (by omega)
  have hc927 : Ch Non w9 w27 := hc926.trans hc2627 (fun i hi he => by omega)
  have s26 := hc926.size
  have hA27 : AllR w27 R oa qs T := by
   refine ⟨hown.rd.mono (fun i hi hx => ?_), fun q hq => (hW.ask q hq).keepN hc927⟩
   have hge : w9.heap.size ≤ i := by
    rcases hx with hx | hx
    ·omega
    ·have := hx.1; omega
   exact ⟨fun ht => by have := (hW.t i ht).2.1; omega, fun hm => by have := (hS.lt i (mut_all i hm)).2; omega⟩
  have hn0 : 0 + wn = ys.length := by omega
  rw [hn0] at hr27
  have hal : (qs.map (·.1)).length = ys.length := by rw [List.length_map, hql]
  refine ⟨_, _, _, w27, hr27, fun d w' => d = ys.length ∧ FinI W6 w' cb pb xb k md (qs.map (·.1)) ys.length, ⟨fun o n c d i vk w' => ∃ dn j : Nat, d = dn ∧ i = j ∧ vk = 3000 - j ∧ MI W6 w' cb pb xb k md oa qs o n c j dn 0, ⟨_, 0, 0, rfl, rfl, rfl, qs, T, ps, es, [], R, hS.keepN hc927, hW.keepN hc927, hA27, ⟨fun a ha => by simpa using ha, ?_, by simp⟩, Nat.zero_le _, Nat.le_refl _⟩, ?_⟩, ?_⟩
  ·simp only [List.map_nil, List.append_nil]
   unfold List.Nodup
   rw [List.pairwise_iff_getElem]
   intro a b ha hb hab he
   simp only [List.length_map] at ha hb
   have h1 := (hok a (by rw [List.length_map]; omega)).1
   have h2 := (hok b (by rw [List.length_map]; omega)).1
   rw [List.getElem_map (f := AskD.id), List.getElem_map (f := AskD.id)] at he
   omega
  ·clear hS hW hAll26 hW26 hown hA27 hr27 hc926 hc2627 hc927 hWn
   rintro jk wo1 wn1 wc1 d i vk w28 ⟨dn, j, rfl, rfl, rfl, hM⟩
   refine ⟨fun h3000 => ⟨fun hdn => ?_, fun hdn => ?_⟩, fun hge => ?_⟩
   rotate_left
   ·obtain ⟨qs1, T, ps, es, rs, R, hS, hW, hA, hV, _, _⟩ := hM
    have hdn := of_decide_eq_false hdn
    have hl := hV.len
    rw [hal] at hl
    obtain rfl : dn = ys.length := by omega
    exact ⟨rfl, _, ps, es, rs, R, hS, hV⟩
   ·obtain ⟨qs1, T, ps, es, rs, R, hS, hW, hA, hV, hj, _⟩ := hM
    have hge := of_decide_eq_false hge
    have hl := hV.len
    have hh : headF rs ≤ 1000 := by
     cases rs with
     | nil => exact Nat.zero_le _
     | cons r l => exact (hS.pages hmd (r := r) (by simp)).2.1
    omega
   have h3000 := of_decide_eq_true h3000
   have hdn := of_decide_eq_true hdn
   refine ⟨fun o n c w' => MI W6 w' cb pb xb k md oa qs o n c j dn 1, ⟨fun o n c vk w' => vk = n ∧ MI W6 w' cb pb xb k md oa qs o n c j dn 0, ⟨_, rfl, hM⟩, ?_⟩, ?_⟩
   ·clear hM
    rintro jk wo wn wc vk w29 ⟨rfl, qs1, T, ps, es, rs, R, hS, hW, hA, hV, hj, _⟩
    refine ⟨fun hgt => ?_, fun hle => ?_⟩
    ·have hgt := of_decide_eq_true hgt
     refine step_call hS.ids ?_
     rintro v w30 ⟨⟨o1, c1, rfl, _, _, _⟩, hc30⟩
     have hS30 := hS.keepN hc30
     have hW30 := hW.keepN hc30
     have hA30 := hA.keepN hc30
     refine ⟨_, _, _, rfl, fun h3 => ?_, fun h3 => ?_⟩
     ·have h3 := of_decide_eq_true h3
      rw [List.length_map] at h3
      have hln := hW.ln
      obtain ⟨q, l, rfl⟩ : ∃ q l, qs1 = q :: l := by
       cases qs1 with
       | nil => simp at hln; omega
       | cons q l => exact ⟨q, l, rfl⟩
      obtain ⟨p, hp, hF, hlp, hcell⟩ := Rd.elemK (al := q :: l) hW30.own.rd (j := 0) (by simp)
      simp only [Nat.zero_mul, add_none, List.getElem_cons_zero] at hcell
      subst hp
      have hnp : ¬ MutF R p.block := fun ⟨m, _, hm⟩ => (hW30.t _ hF).2.2 m hm
      obtain ⟨ho, _⟩ := hok.get (hV.sub q.1 (by simp))
      obtain ⟨b, hqm, hqc, hqv, hqp⟩ := ver_brain (q0 := q0) (q1 := q1) ho.ver
      rw [← hmdE] at hqv
      have nb : ¬ MutF R bA := fun hm => by have := (hS.lt bA (mut_all _ hm)).1; have := hBA.lt; omega
      have hB30 := hBA.keepN hS30.ch
      have h00 := fun w' k => hcell (MutF R) w' k hnp 0 _ rfl
      simp only [add_none] at h00
      refine ⟨fun w' => Ch (MutF R) w30 w', fun w31 e31 => ⟨Ch.drew e31, ⟨by omega, by omega⟩, ?_⟩⟩
      refine ⟨_, fun w' k => hcell _ w' k hnp 1 _ rfl, by decide, hqp, some ⟨b.1, 0, none⟩, fun w' k => by rw [Nat.mul_one, add_at, Nat.zero_add]; exact (hB30.keep k nb).cell _ hqc, ⟨by omega, by omega⟩, _, _, _, _, _, _, _, _, _, ⟨h00, fun w' k => hcell _ w' k hnp 1 _ rfl, fun w' k => hcell _ w' k hnp 2 _ rfl, fun w' k => hcell _ w' k hnp 3 _ rfl, fun w' k => hcell _ w' k hnp 4 _ rfl⟩, ?_⟩
      have hd31 : Ch Non w30 w31 := Ch.drew e31
      have hjv := hV.joinV hok (by omega)
      refine step_call ((hS30.keepN hd31).join (bb := b.1) (a := q) (hqv ▸ (hBr b hqm).1) ((hW30.keepN hd31).ask q (by simp)) (fun i _ hd => hd.2) (fun _ => by rw [hvm]; exact ho.ver.2)) ?_
      rintro v w35 ⟨rfl, ps', es', rs', R', hS35, hG, _, hyes⟩
      obtain ⟨_, _, rfl⟩ := hyes hjv
      refine ⟨_, rfl, hd31.any.same hG.ch, fun hn => by rw [hjv] at hn; exact absurd hn (by decide), fun _ => ⟨⟨by omega, by omega⟩, vk - 1, by omega, rfl, l, T, ps', es', _, R', hS35, ((hW30.keepN hd31).grow hG hS35.dat).tail, (hA30.keepN hd31).grow hG hS35.dat, hV.join rfl, Nat.le_trans hj (Nat.add_le_add_left headF_join _), Nat.zero_le _⟩⟩
     ·have h3 := of_decide_eq_false h3
      rw [List.length_map] at h3
      exact ⟨qs1, T, ps, es, rs, R, hS30, hW30, hA30, hV, hj, by omega⟩
    ·have hle := of_decide_eq_false hle
     have hln := hW.ln
     have hl := hV.len
     rw [hal, List.length_map] at hl
     exact ⟨qs1, T, ps, es, rs, R, hS, hW, hA, hV, hj, by omega⟩
   clear hM
   rintro jk wo wn wc w36 hM
   refine ⟨fun x w' => MI W6 w' cb pb xb k md oa qs wo wn wc j dn 1 ∧ (pk.length ≤ j → x = 0), ⟨fun hlt => ⟨⟨by omega, by have := of_decide_eq_true hlt; omega⟩, ?_⟩, fun hge => ⟨hM, fun _ => rfl⟩⟩, ?_⟩
   ·have hlt := of_decide_eq_true hlt
    have hjl : j < pk.length := by omega
    obtain ⟨qs1, T, ps, es, rs, R, hS, hr⟩ := hM
    refine (hpk.keepN (hc06.andN hS.ch)).at (j := (j : Int).toNat * 1) (v := .int .i64 pk[j]) (by simp [hjl]) fun p hp => ⟨_, hp, ⟨qs1, T, ps, es, rs, R, hS, hr⟩, fun hge => by omega⟩
   clear hM
   rintro jk x w37 ⟨⟨qs1, T, ps, es, rs, R, hS, hW, hA, hV, hj, hlo⟩, hx0⟩
   refine step_call hS.ids ?_
   rintro v w38 ⟨⟨o1, c1, rfl, _, _, hr⟩, hc38⟩
   have hS38 := hS.keepN hc38
   have hW38 := hW.keepN hc38
   have hA38 := hA.keepN hc38
   obtain ⟨r, l, rfl⟩ : ∃ r l, rs = r :: l := by
    cases rs with
    | nil => simp at hlo
    | cons r l => exact ⟨r, l, rfl⟩
   refine ⟨_, _, _, rfl, ⟨by omega, by simp⟩, hr.at0 (v := .int .i64 r.ask.id) rfl fun p hp => ⟨_, hp, ?_⟩⟩
   have hil := (pickI_tmod x (l := (r :: l).length) (by simp)).2.2.2.2
   obtain ⟨i, hi⟩ : ∃ i, pickI x (r :: l).length = i := ⟨_, rfl⟩
   rw [hi] at hil
   refine step_call (hS38.pick hmd (by omega) (by simp) x hi hil) ?_
   rintro v w39 ⟨cr, t, m, R', oo, oc, ao, ac, aq, TA, rfl, _, hS39, hL, hT, hG, _, _⟩
   have hW39 := hW38.grow hG hS39.dat
   have hA39 := hA38.grow hG hS39.dat
   obtain ⟨hV39, haway⟩ := hV.pick hil hL
   have haway := haway r l rfl
   refine ⟨_, _, _, _, _, _, _, _, _, _, rfl, fun w40 e40 => ?_⟩
   have hT40 := Blk.new e40
   have hc3940 : Ch Non w39 w40 := Ch.alloc e40
   refine ⟨⟨hT40.ok 0 rfl, hT40.ok 1 rfl, hT40.ok 2 rfl, hT40.ok 3 rfl, hT40.ok 4 rfl⟩, fun w41 e41 => ?_⟩
   have e41' : w41 = w40.setCells w39.heap.size 0 (turnV t oo oc ao aq.length ac) := e41
   have hT41 := hT40.all (turnV t oo oc ao aq.length ac) rfl e41'
   have hc3941 : Ch Non w39 w41 := hc3940.trans (Ch.sets (F := (· = w39.heap.size)) e41' rfl) (fun i hi he => by omega)
   have hS41 := hS39.keepN hc3941
   have hW41 := hW39.keepN hc3941
   have hA41 := hA39.keepN hc3941
   have hrd41 := hT.rd.keepN hc3941
   have s3839 := hG.ch.size
   have ntb : ¬ T w39.heap.size := fun ht => by have := (hW38.t _ ht).2.1; omega
   obtain ⟨tb, htb⟩ : ∃ n, w39.heap.size = n := ⟨_, rfl⟩
   rw [htb] at hT41 ntb ⊢
   have hlen39 := hV39.len
   rw [hal, List.length_append, List.length_map, ← hT.aw, List.length_map] at hlen39
   refine ⟨fun hn => absurd hn (by decide), fun _ => ⟨fun o n c jj vk w' => ∃ (jn : Nat) (T' : Nat → Prop), jj = jn ∧ jn ≤ aq.length ∧ vk = aq.length - jn ∧ WaitR W6 w' R' o n c (qs1 ++ aq.take jn) T' ∧ Ch T w41 w' ∧ (∀ i, T' i → Ext T w41 w' i), ⟨_, 0, T, rfl, Nat.zero_le _, rfl, by rw [List.take_zero, List.append_nil]; exact hW41, Ch.refl _ _, fun i hi => .inl hi⟩, ?_⟩⟩
   rintro jk wo wn wc jj vk w42 ⟨jn, T', rfl, hjn, rfl, hW42, hc42, hT'⟩
   have hT42 := hT41.keep hc42 ntb
   have hS42 := hS41.far hc42 (fun k i hk ht => (hW41.t i ht).2.2 k hk) (fun i hi ht => by have := (hW41.t i ht).1; omega)
   refine ⟨_, _, _, hT42.cell 4 rfl, fun hlt => ?_, fun hge => ?_⟩
   ·have hlt : jn < aq.length := by have := of_decide_eq_true hlt; omega
    obtain ⟨p, hp, hF, hlp, hcell⟩ := Rd.elemK hrd41 hlt
    subst hp
    have hnp : ¬ T p.block := fun ht => by have := (hW38.t _ ht).2.1; have := (hT.ta _ hF).1; omega
    have hcell := hcell T w42 hc42 hnp
    have hmem : aq[jn] ∈ aq := List.getElem_mem hlt
    have hid := haway aq[jn].1 (by rw [← hT.aw]; exact List.mem_map.2 ⟨_, hmem, rfl⟩)
    have hask : AskC w42 aq[jn] (Dt T' R') := ((hT.ask _ hmem).keepN hc3941).step hc42 (fun k _ hk ht => (hW41.t k ht).2.2 2 hk) (fun k _ hk => ⟨fun ht => (hW42.t k ht).2.2 2 hk, hS42.dat k hk⟩)
    have htk : aq.take (jn + 1) = aq.take jn ++ [aq[jn]] := by rw [List.take_add_one, List.getElem?_eq_getElem hlt]; rfl
    generalize aq[jn] = q at hcell hid hask htk
    rw [← Int.toNat_natCast jn] at hcell
    have h0 := hcell 0 _ rfl
    rw [add_none] at h0
    refine ⟨_, _, _, hT42.cell 4 rfl, ⟨by omega, by omega⟩, _, h0, fun he => absurd (eq_of_beq he) hid, fun _ => ⟨_, _, _, hT42.cell 4 rfl, ⟨by omega, by omega⟩, _, _, _, _, _, _, _, _, _, ⟨h0, hcell 1 _ rfl, hcell 2 _ rfl, hcell 3 _ rfl, hcell 4 _ rfl⟩, fun w43 e43 => ?_⟩⟩
    obtain ⟨o', c', w44, hr44, hW44, hc44⟩ := hW42.push hS42.ch.size (fun i hi => (hS42.lt i hi).2) hask (by rw [List.length_append, List.length_take]; omega) e43
    have s42 := hc42.size
    refine ⟨_, _, _, w44, hr44, aq.length - (jn + 1), by omega, jn + 1, Ext T' w42 w44, by rw [wrap_id (by omega) (by omega)]; rfl, hlt, rfl, by rw [htk, ← List.append_assoc]; exact hW44, hc42.trans hc44 (fun k hk ht => ?_), fun k hk => ?_⟩
    ·rcases hT' k ht with h | h
     ·exact h
     ·have := h.1; omega
    ·rcases hk with hk | hk
     ·rcases hT' k hk with h | h
      ·exact .inl h
      ·exact .inr ⟨h.1, Nat.lt_of_lt_of_le h.2 hc44.size⟩
     ·exact .inr ⟨Nat.le_trans s42 hk.1, hk.2⟩
   ·obtain rfl : jn = aq.length := by have := of_decide_eq_false hge; omega
    rw [List.take_length] at hW42
    have hA42 := hA41.ext hc42 hT'
    rw [← hT.aw, ← List.map_append] at hV39
    have hrd := (hS.v.run r (by simp)).2.1
    have hr12 : r.done ≤ 10 := by
     have h1 := hrd.len
     have h2 := hrd.dn
     have h3 : (r.toks.length : Int) < 12 := h1
     omega
    have hjm : j + 1 ≤ 100 + 12 * (if t.done = true then dn + 1 else dn) + headF cr.rs := by
     by_cases hjp : j < pk.length
     ·omega
     ·have hx0 := hx0 (by omega)
      subst hx0
      have hi0 : i = 0 := by rw [← hi]; unfold pickI; simp
      subst hi0
      have hj : j ≤ 100 + 12 * dn + r.done := hj
      rcases headF_pick hL (by simp) with h | ⟨h, h2⟩
      ·rw [if_pos h]; omega
      ·have h2 : headF cr.rs = r.done + 1 := h2
       rw [if_neg (by rw [h]; decide)]; omega
    have hwj : IntKind.i64.wrap ((j : Int) + 1) = ((j + 1 : Nat) : Int) := by rw [wrap_id (by omega) (by omega)]; rfl
    refine ⟨_, hT42.cell 1 rfl, fun hd => ?_, fun hd => ?_⟩
    ·have hd : t.done = false := by simpa using hd
     rw [hd, if_neg (by decide)] at hV39 hjm
     exact ⟨3000 - (j + 1), by omega, dn, j + 1, rfl, hwj, rfl, _, T', cr.ps, cr.es, cr.rs, R', hS42, hW42, hA42, hV39, hjm, Nat.zero_le _⟩
    ·have hd : t.done = true := by simpa using hd
     rw [hd, if_pos rfl] at hV39 hjm
     obtain ⟨_, _, ho, _⟩ := hL.done hd
     have hri : (r :: l)[i]? = some (r :: l)[i] := List.getElem?_eq_getElem hil
     have ho := ho _ hri
     have hti := hL.id _ hri
     have hmem : (r :: l)[i].ask ∈ qs.map (·.1) := hV.sub _ (List.mem_append_right _ (List.mem_map.2 ⟨_, List.getElem_mem hil, rfl⟩))
     generalize (r :: l)[i] = rr at ho hti hmem
     obtain ⟨hoka, jj, hjj, hgj⟩ := hok.get hmem
     obtain ⟨hjl, hgj⟩ := List.getElem?_eq_some_iff.1 hgj
     have hjl : jj < qs.length := by simpa using hjl
     rw [List.getElem_map] at hgj
     have hw1 : IntKind.i64.wrap (t.id - 1) = jj := by rw [wrap_id (by omega) (by omega)]; omega
     obtain ⟨p, hp, hF, hlp, hcell⟩ := Rd.elemK hA42.rd hjl
     subst hp
     have hcell := hcell Non w42 (Ch.refl _ _) id
     have hask := hA42.ask qs[jj] (List.getElem_mem hjl)
     generalize qs[jj] = q at hcell hask hgj
     rw [← Int.toNat_natCast jj] at hcell
     have h0 := hcell 0 _ rfl
     rw [add_none] at h0
     refine ⟨_, hT42.cell 0 rfl, ?_⟩
     show (0 ≤ IntKind.i64.wrap (t.id - 1) ∧ _) ∧ _
     rw [hw1]
     refine ⟨⟨by omega, by omega⟩, _, _, _, _, _, _, _, _, _, ⟨h0, hcell 1 _ rfl, hcell 2 _ rfl, hcell 3 _ rfl, hcell 4 _ rfl⟩, fun w45 e45 => ?_⟩
     have hB45 := Blk.new e45
     refine ⟨⟨hB45.ok 0 rfl, hB45.ok 1 rfl, hB45.ok 2 rfl, hB45.ok 3 rfl, hB45.ok 4 rfl⟩, fun w46 e46 => ?_⟩
     have e46' : w46 = w45.setCells w42.heap.size 0 (askE q) := e46
     have hB46 := hB45.all (askE q) rfl e46'
     have hc46 : Ch Non w42 w46 := (Ch.alloc (F := Non) e45).trans (Ch.sets (F := (· = w42.heap.size)) e46' rfl) (fun i hi he => by omega)
     have hS46 := hS42.keepN hc46
     rw [← hgj] at hoka
     obtain ⟨b, hqm, hqc, hqv, hqp⟩ := ver_brain (q0 := q0) (q1 := q1) hoka.ver
     rw [← hmdE] at hqv
     refine ⟨fun w' => Ch Non w46 w', fun w47 e47 => ⟨Ch.drew e47, _, fun w' k => (hB46.keepN k).cell 1 rfl, by decide, hqp, some ⟨b.1, 0, none⟩, fun w' k => by rw [Nat.mul_one, add_at, Nat.zero_add]; exact ((hBA.keepN hS46.ch).keepN k).cell _ hqc, _, _, _, fun w' k => (hB46.keepN k).cell 2 rfl, _, fun w' k => (hB46.keepN k).cell 3 rfl, _, _, _, fun w' k => (hB46.keepN k).cell 4 rfl, ?_⟩⟩
     have hc4247 : Ch Non w42 w47 := hc46.andN (Ch.drew e47)
     obtain ⟨⟨hxr, hdr, hxl, hdl⟩, hx1, hx2, hd1, hd2⟩ := hask.keepN hc4247
     refine step_call (Gen.Gen_spec (ts := q.1.prompt) (draws := q.1.draws) ((hBr b hqm).1.keepN (hS42.keepN hc4247).ch) ⟨_, _, rfl, hx1, hx2, hxr⟩ (by omega) q.1.most ⟨_, _, rfl, hd1, hd2, hdr⟩) ?_
     rintro v w53 hGn
     obtain ⟨u, rfl, hu⟩ := hGn.yes hoka.ck
     have hu' := hu
     obtain ⟨uo, uc, rfl, _, _, _⟩ := hu
     have hc4253 := hc4247.andN hGn.ch
     have hT53 := hT42.keepN hc4253
     refine ⟨_, _, _, _, rfl, (Ch.drew e47).andN hGn.ch, fun hn => absurd hn (by decide), fun _ => ⟨_, _, _, hT53.cell 3 rfl, ?_⟩⟩
     have hout : IV w53 (.slice oo t.out.length oc) t.out (AllF R') := ((hT.out.keepN hc3941).keep hc42 (fun k _ hk ht => by obtain ⟨m, hm⟩ := hk; exact (hW41.t k ht).2.2 m hm)).keepN hc4253
     refine step_call (IntsT.ints25_spec hu' hout) ?_
     rintro v w54 ⟨rfl, hc54⟩
     have hc4254 := hc4253.andN hc54
     have heq : Gen.sayP c25 b.2 (Gen.drawT q.1.draws) q.1.most q.1.prompt = t.out := by
      rw [ho, ← hgj, hqv]; rfl
     refine ⟨_, rfl, ⟨fun hn => (by rw [decide_eq_true heq] at hn; cases hn), fun _ => ⟨3000 - (j + 1), by omega, dn + 1, j + 1, by rw [wrap_id (by omega) (by omega)]; rfl, hwj, rfl, _, T', cr.ps, cr.es, cr.rs, R', hS42.keepN hc4254, hW42.keepN hc4254, hA42.keepN hc4254, hV39, hjm, Nat.zero_le _⟩⟩⟩
  ·rintro jk d w55 ⟨rfl, wa, ps, es, rs, R, hS, hV⟩
   have hlen := hV.len
   rw [hal] at hlen
   obtain rfl : rs = [] := List.eq_nil_of_length_eq_zero (by omega)
   refine iteT (beq_self_eq_true _) (step_call hS.ids ?_)
   rintro v w56 ⟨⟨o1, c1, rfl, _, _, _⟩, hc56⟩
   have hS56 := hS.keepN hc56
   refine ⟨_, _, _, rfl, iteT rfl (step_call hS56.free ?_)⟩
   rintro v w57 ⟨rfl, rfl⟩
   refine ⟨_, rfl, step_call hS56.kept ?_⟩
   rintro v w58 ⟨rfl, rfl⟩
   have hfe := hS56.v.inv.free_eq
   refine ⟨_, rfl, ?_, hc06.andN hS56.ch⟩
   rw [wrap_id (by omega) (by omega)]
   have : ((freeN ps : Int) + (es.length : Int)) = k := by omega
   rw [this]; simp
end Go.Proofs.YtkbikekbaboclaaGreat.Crew
