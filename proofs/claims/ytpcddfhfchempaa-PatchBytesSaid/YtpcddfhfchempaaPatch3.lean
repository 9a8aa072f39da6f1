/- For all bytes and all deeds: what layer 19's Parse answers, and what the document's layer 19 does; the conditions stand in each theorem. -/
import Derived.Test.YtpcddfhfchempaaPatchLaw1
import Derived.Test.YtpcddfhfchempaaPenRef
import Derived.Test.YtpcddfhfchempaaGrow
import Derived.Test.YtpcddfhfchempaaVcPatch2
set_option linter.unusedVariables false
set_option linter.unusedSimpArgs false
namespace Go.Proofs.Ytpcddfhfchempaa.Patch
open Go Go.Proofs Go.Proofs.Ytpcddfhfchempaa.V Go.Proofs.Ytpcddfhfchempaa.Vc Go.Proofs.Ytpcddfhfchempaa.Pen Go.RowKit

def fromE (k : UInt8) (st : St) : Nat × St := if k.toNat = 2 then (0, st) else numE st 2147483647
def restE (k : UInt8) (f : Nat) (st : St) : OpD × St := if k.toNat = 1 then (⟨k.toNat, f, (numE st 2147483647).1, ByteArray.empty⟩, (numE st 2147483647).2) else (⟨k.toNat, f, 0, str (textE st 8192).1⟩, (textE st 8192).2)
def readE (st : St) : OpD × St := restE (byteE st).1 (fromE (byteE st).1 (byteE st).2).1 (fromE (byteE st).1 (byteE st).2).2
def parseL : Nat → St → List OpD → Option (List OpD × St)
  | 0, st, acc => some (acc, st)
  | n + 1, st, acc => if (readE st).2.2 = true ∨ badB (readE st).1 = true then none else parseL n (readE st).2 (acc ++ [(readE st).1])
def parseR (l : List UInt8) : Option (List OpD) := (parseL (numE (l, false) 256).1 (numE (l, false) 256).2 []).bind fun p => if endE p.2 = 0 then some p.1 else none
theorem numE_le {st : St} {most : Int} (h : 0 ≤ most) : ((numE st most).1 : Int) ≤ most := by
  unfold numE
  split
  · exact h
  · split
    · exact h
    · dsimp only; omega
theorem numE_bad0 {st : St} (h : st.2 = true) (most : Int) : (numE st most).2 = ([], true) := by
  have : takeE st 4 = (none, ([], true)) := by unfold takeE; rw [if_pos (.inl h)]
  unfold numE; rw [this]
theorem textE_bad0 {st : St} (h : st.2 = true) (most : Int) : (textE st most).2 = ([], true) := by
  unfold textE
  rw [numE_bad0 h]; rfl
theorem readE_bad {st : St} (h : (takeE st 1).2.2 = true) : (readE st).2.2 = true := by
  have h1 := takeE_bad.1 h
  have h2 : byteE st = (0, ([], true)) := by unfold byteE; rw [h1]; rfl
  unfold readE
  rw [h2]
  have h3 : (fromE 0 ([], true)).2.2 = true := by
    unfold fromE
    rw [if_neg (by decide), numE_bad0 rfl]
  unfold restE
  rw [if_neg (by decide)]
  show (textE _ _).2.2 = true
  rw [textE_bad0 h3]
theorem flat_snoc (acc : List OpD) (y : OpD) : (acc.map opEnc).flatten ++ opEnc y = ((acc ++ [y]).map opEnc).flatten := by simp
theorem parseL_len : ∀ (n : Nat) (st : St) (acc : List OpD) {p : List OpD × St}, parseL n st acc = some p → p.1.length = acc.length + n
  | 0, st, acc, p, h => by injection h with h; subst h; rfl
  | n + 1, st, acc, p, h => by
    rw [parseL] at h
    split at h
    · cases h
    · have := parseL_len n _ _ h
      rw [this, List.length_append, List.length_singleton]; omega
section
variable {w : World} {e : Nat} {st : St}
theorem read_spec (h : EyeR w e st) : Calls Try.prog i_patch_read #[.pointer (some ⟨e, 0, none⟩)] w (Ret fun v w' => v = opAgg (readE st).1 ∧ EyeR w' e (readE st).2 ∧ Ch (· = e) w w') := by
  refine patch_read.calls _ ?_
  unfold patch_read.vc
  intro w1 e1
  have he := Blk.lt h
  have hA1 := Blk.new e1
  have hC1 : Ch (· = e) w w1 := Ch.alloc e1
  refine step_call (EyeByte_spec (Blk.alloc h e1)) ?_
  rintro v w2 ⟨rfl, hE2, hc2⟩
  have hC2 := hC1.same hc2
  have hA2 := hA1.keep hc2 (by omega)
  refine ⟨_, rfl, fun w3 e3 => ?_⟩
  have hO3 := Blk.new e3
  have hA3 := hA2.alloc e3
  have hE3 : EyeR w3 e _ := Blk.alloc hE2 e3
  have hC3 := hC2.same (Ch.alloc e3)
  have hob : w.heap.size < w2.heap.size := hA2.lt
  have hk256 := (byteE st).1.toNat_lt
  unfold readE
  generalize byteE st = B at hk256 hE3 ⊢
  obtain ⟨k, s2⟩ := B
  dsimp only at hk256 hE3 ⊢
  clear hE2 hA2 hA1
  generalize w2.heap.size = ob at hO3 hob ⊢
  generalize hrb : w.heap.size = rb at hA3 hob he ⊢
  refine ⟨⟨hO3.ok 0 rfl, hO3.ok 1 rfl, hO3.ok 2 rfl, hO3.ok 3 rfl⟩, fun w4 e4 => ?_⟩
  rw [wrap_id (x := (k.toNat : Int)) (by omega) (by omega)] at e4
  have e5 : w4 = w3.setCells ob 0 [.int .i64 (k.toNat : Int), .int .i64 0, .int .i64 0, .string ByteArray.empty] := e4
  have hO4 := hO3.all [.int .i64 (k.toNat : Int), .int .i64 0, .int .i64 0, .string ByteArray.empty] rfl e5
  have hc34 : Ch (· = ob) w3 w4 := Ch.sets e5 rfl
  have hA4 := hA3.keep hc34 (by omega)
  have hE4 : EyeR w4 e _ := Blk.keep hE3 hc34 (by omega)
  have hC4 : Ch (· = e) w w4 := hC3.trans hc34 (fun i hi h => by omega)
  clear hO3 hA3 hE3 hC3 hc34 e4 e5 e3 hC1 hc2 hC2
  refine ⟨fun w' => Blk w' ob [.int .i64 (k.toNat : Int), .int .i64 ((fromE k s2).1 : Int), .int .i64 0, .string ByteArray.empty] 126 ∧ Blk w' rb [.int .i64 0, .int .i64 0, .int .i64 0, .string ByteArray.empty] 126 ∧ EyeR w' e (fromE k s2).2 ∧ Ch (· = e) w w', ⟨_, hO4.cell 0 rfl, fun hk => ?_, fun hk => ?_⟩, ?_⟩
  · have hk : ¬ k.toNat = 2 := by simp at hk; omega
    refine step_call (EyeNum_spec hE4 _) ?_
    rintro v w5 ⟨rfl, hE5, hc5⟩
    have hO5 := hO4.keep hc5 (by omega)
    have hA5 := hA4.keep hc5 (by omega)
    refine ⟨_, rfl, hO5.ok 1 rfl, fun w6 e6 => ?_⟩
    have hc6 : Ch (· = ob) w5 w6 := Ch.set e6 rfl
    unfold fromE
    rw [if_neg hk]
    exact ⟨hO5.set e6, hA5.keep hc6 (by omega), Blk.keep hE5 hc6 (by omega), (hC4.same hc5).trans hc6 (fun i hi h => by omega)⟩
  · have hk : k.toNat = 2 := by simp at hk; omega
    unfold fromE
    rw [if_pos hk]
    exact ⟨hO4, hA4, hE4, hC4⟩
  clear hO4 hA4 hE4 hC4
  rintro jk w7 ⟨hO7, hA7, hE7, hC7⟩
  generalize fromE k s2 = G at hO7 hE7 ⊢
  obtain ⟨f, s3⟩ := G
  dsimp only at hO7 hE7 ⊢
  refine ⟨_, hO7.cell 0 rfl, fun hk => ?_, fun hk => ?_⟩
  · have hk : k.toNat = 1 := by simp at hk; omega
    unfold restE
    rw [if_pos hk]
    refine step_call (EyeNum_spec hE7 _) ?_
    rintro v w8 ⟨rfl, hE8, hc8⟩
    have hO8 := hO7.keep hc8 (by omega)
    have hA8 := hA7.keep hc8 (by omega)
    refine ⟨_, rfl, hO8.ok 2 rfl, fun w9 e9 => ?_⟩
    have hc9 : Ch (· = ob) w8 w9 := Ch.set e9 rfl
    have hO9 := hO8.set e9
    have hA9 := hA8.keep hc9 (by omega)
    have hE9 : EyeR w9 e _ := Blk.keep hE8 hc9 (by omega)
    have hC9 := (hC7.same hc8).trans hc9 (fun i hi h => by omega)
    refine ⟨_, _, _, _, ⟨hO9.cell 0 rfl, hO9.cell 1 rfl, hO9.cell 2 rfl, hO9.cell 3 rfl⟩, ⟨hA9.ok 0 rfl, hA9.ok 1 rfl, hA9.ok 2 rfl, hA9.ok 3 rfl⟩, fun w10 e10 => ?_⟩
    have e11 : w10 = w9.setCells rb 0 (opEnc ⟨k.toNat, f, (numE s3 2147483647).1, ByteArray.empty⟩) := e10
    have hA10 := hA9.all (opEnc ⟨k.toNat, f, (numE s3 2147483647).1, ByteArray.empty⟩) rfl e11
    have hc10 : Ch (· = rb) w9 w10 := Ch.sets e11 rfl
    exact ⟨_, _, _, _, ⟨hA10.cell 0 rfl, hA10.cell 1 rfl, hA10.cell 2 rfl, hA10.cell 3 rfl⟩, rfl, Blk.keep hE9 hc10 (by omega), hC9.trans hc10 (fun i hi h => by omega)⟩
  · have hk : ¬ k.toNat = 1 := by simp at hk; omega
    unfold restE
    rw [if_neg hk]
    refine step_call (EyeText_spec hE7 _) ?_
    rintro v w8 ⟨rfl, hE8, hc8⟩
    have hO8 := hO7.keep hc8 (by omega)
    have hA8 := hA7.keep hc8 (by omega)
    refine ⟨_, rfl, hO8.ok 3 rfl, fun w9 e9 => ?_⟩
    have hc9 : Ch (· = ob) w8 w9 := Ch.set e9 rfl
    have hO9 := hO8.set e9
    have hA9 := hA8.keep hc9 (by omega)
    have hE9 : EyeR w9 e _ := Blk.keep hE8 hc9 (by omega)
    have hC9 := (hC7.same hc8).trans hc9 (fun i hi h => by omega)
    refine ⟨_, _, _, _, ⟨hO9.cell 0 rfl, hO9.cell 1 rfl, hO9.cell 2 rfl, hO9.cell 3 rfl⟩, ⟨hA9.ok 0 rfl, hA9.ok 1 rfl, hA9.ok 2 rfl, hA9.ok 3 rfl⟩, fun w10 e10 => ?_⟩
    have e11 : w10 = w9.setCells rb 0 (opEnc ⟨k.toNat, f, 0, str (textE s3 8192).1⟩) := e10
    have hA10 := hA9.all (opEnc ⟨k.toNat, f, 0, str (textE s3 8192).1⟩) rfl e11
    have hc10 : Ch (· = rb) w9 w10 := Ch.sets e11 rfl
    exact ⟨_, _, _, _, ⟨hA10.cell 0 rfl, hA10.cell 1 rfl, hA10.cell 2 rfl, hA10.cell 3 rfl⟩, rfl, Blk.keep hE9 hc10 (by omega), hC9.trans hc10 (fun i hi h => by omega)⟩
theorem endE_zero {st : St} : endE st = 0 ∨ endE st = 5 := by
  unfold endE
  split
  · exact .inr rfl
  · split
    · exact .inl rfl
    · exact .inr rfl
theorem Parse_spec (w : World) (s : ByteArray) : Calls Try.prog i_patch_Parse #[.string s] w (Ret fun v w' => ∃ (o : Option Addr) (c : Nat), v = .tuple #[.slice o ((parseR s.data.toList).getD []).length c, .int .i64 (if (parseR s.data.toList).isSome then 0 else 5)] ∧ Rd w' o (((parseR s.data.toList).getD []).map opEnc).flatten (fun i => i < w'.heap.size) ∧ Ch Non w w') := by
  refine patch_Parse.calls _ ?_
  unfold patch_Parse.vc
  have sp := Of_spec w s.data.toList
  rw [str_of] at sp
  refine step_call sp ?_
  rintro v w1 ⟨e, rfl, rfl, hE1, hC1⟩
  have he1 : w.heap.size < w1.heap.size := Blk.lt hE1
  refine ⟨_, rfl, ?_⟩
  refine step_call (EyeNum_spec hE1 256) ?_
  rintro v w2 ⟨rfl, hE2, hc2⟩
  have hC2 : Ch Non w w2 := hC1.trans hc2 (fun i hi h => by omega)
  have hn := numE_le (st := (s.data.toList, false)) (most := 256) (by omega)
  have hno : ∀ w', parseR s.data.toList = none → Ch Non w w' → (∃ (o : Option Addr) (c : Nat), (Value.tuple #[.slice none 0 0, .int .i64 5]) = .tuple #[.slice o ((parseR s.data.toList).getD []).length c, .int .i64 (if (parseR s.data.toList).isSome then 0 else 5)] ∧ Rd w' o (((parseR s.data.toList).getD []).map opEnc).flatten (fun i => i < w'.heap.size) ∧ Ch Non w w') := fun w' h hc => by
    rw [h]; exact ⟨none, 0, rfl, Rd.nil _ _ _, hc⟩
  have hR : parseR s.data.toList = (parseL (numE (s.data.toList, false) 256).1 (numE (s.data.toList, false) 256).2 []).bind fun p => if endE p.2 = 0 then some p.1 else none := rfl
  generalize parseR s.data.toList = R at hR hno ⊢
  generalize numE (s.data.toList, false) 256 = N at hn hE2 hR ⊢
  obtain ⟨n, s0⟩ := N
  dsimp only at hn hE2 hR ⊢
  have hs2 : w1.heap.size ≤ w2.heap.size := hc2.size
  generalize hew : w.heap.size = e at hE2 he1 hc2 ⊢
  have hCG : ∀ w', Ch (· = e) w2 w' → Ch Non w w' := fun w' h => hC1.trans ((hc2.same h)) (fun i hi h => by omega)
  refine ⟨_, rfl, fun oA oN oC x k w' => ∃ (acc : List OpD) (st : St), oN = acc.length ∧ x = acc.length ∧ acc.length ≤ n ∧ k = n - acc.length ∧ parseL (n - acc.length) st acc = parseL n s0 [] ∧ Gr (· = e) w2 w' t_patch_Op 4 oA acc.length oC (acc.map opEnc).flatten ∧ EyeR w' e st, ⟨_, [], s0, rfl, rfl, Nat.zero_le _, rfl, rfl, Gr.nil (Ch.refl _ _), hE2⟩, ?_⟩
  rintro jk oA oN oC x k w3 ⟨acc, st, rfl, rfl, hle, rfl, hP, hG, hE3⟩
  refine ⟨fun hlt => ?_, fun hge => ?_⟩
  · have hlt : acc.length < n := by have := of_decide_eq_true hlt; omega
    obtain ⟨m, hm⟩ : ∃ m, n - acc.length = m + 1 := ⟨n - acc.length - 1, by omega⟩
    rw [hm, parseL] at hP
    refine step_call (read_spec hE3) ?_
    rintro v w4 ⟨rfl, hE4, hc4⟩
    generalize readE st = Y at hP hE4 ⊢
    obtain ⟨y, st4⟩ := Y
    dsimp only at hP hE4 ⊢
    have hG4 := hG.step hc4 (fun i hi => by omega)
    refine ⟨_, _, _, _, rfl, fun w5 e5 => ?_⟩
    have hO5 := Blk.new e5
    refine ⟨⟨hO5.ok 0 rfl, hO5.ok 1 rfl, hO5.ok 2 rfl, hO5.ok 3 rfl⟩, fun w6 e6 => ?_⟩
    have e7 : w6 = w5.setCells w4.heap.size 0 (opEnc y) := e6
    have hO6 := hO5.all (opEnc y) rfl e7
    have hc46 : Ch Non w4 w6 := (Ch.alloc (F := Non) e5).trans (Ch.sets (F := (· = w4.heap.size)) e7 rfl) (fun i hi he => by omega)
    have hG6 := hG4.keepN hc46
    have hE6 : EyeR w6 e st4 := Blk.keepN hE4 hc46
    generalize w4.heap.size = ob at hO6 ⊢
    refine step_call (Err_spec hE6) ?_
    rintro v w7 ⟨rfl, rfl⟩
    unfold errE
    refine ⟨_, rfl, fun hb => ?_, fun hb => ?_⟩
    · have hb : st4.2 = true := by cases h : st4.2 with
        | true => rfl
        | false => rw [h] at hb; simp at hb
      rw [if_pos (.inl hb)] at hP
      rw [← hP] at hR
      exact hno _ hR (hCG _ hG6.2)
    have hb : st4.2 = false := by cases h : st4.2 with
      | false => rfl
      | true => rw [h] at hb; simp at hb
    refine ⟨_, _, _, _, ⟨hO6.cell 0 rfl, hO6.cell 1 rfl, hO6.cell 2 rfl, hO6.cell 3 rfl⟩, ?_⟩
    refine step_call (Good_spec w7 (base := 2147483647) (by omega) y) ?_
    rintro v w8 ⟨rfl, hc8⟩
    have hbad : badB y = !goodOp 2147483647 y := rfl
    refine ⟨_, rfl, fun hg => ?_, fun hg => ?_⟩
    · rw [if_pos (.inr (by rw [hbad]; exact hg))] at hP
      rw [← hP] at hR
      exact hno _ hR (hCG _ (hG6.keepN hc8).2)
    rw [if_neg (by rw [hb, hbad, hg]; simp)] at hP
    have hO8 := hO6.keepN hc8
    have hG8 := hG6.keepN hc8
    refine ⟨_, _, _, _, ⟨hO8.cell 0 rfl, hO8.cell 1 rfl, hO8.cell 2 rfl, hO8.cell 3 rfl⟩, fun w9 e9 => ?_⟩
    obtain ⟨o', c', w10, hr, hG10, hc10⟩ := hG8.push el_S_patch_Op t_S_patch_Op e9 rfl rfl (by omega) (by omega)
    refine ⟨o', _, c', w10, hr, n - (acc.length + 1), by omega, acc ++ [y], st4, by simp, ?_, by simp; omega, by simp, ?_, ?_, ?_⟩
    · rw [wrap_id (by omega) (by omega)]; simp
    · rw [← hP, show n - (acc ++ [y]).length = m by simp; omega]
    · rw [List.length_append, List.length_singleton, ← flat_snoc]; exact hG10
    · exact Blk.keep (Blk.keepN hE6 hc8) hc10 (fun h => by have := h.1; omega)
  · have hge := of_decide_eq_false hge
    have hl : n - acc.length = 0 := by omega
    rw [hl, parseL] at hP
    rw [← hP] at hR
    refine step_call (End_spec hE3) ?_
    rintro v w4 ⟨rfl, rfl⟩
    have hR : R = if endE st = 0 then some acc else none := hR
    refine ⟨_, rfl, fun h => ?_, fun h => ?_⟩
    · have h0 : ¬ endE st = 0 := by simpa using h
      rw [if_neg h0] at hR
      have h5 : endE st = 5 := endE_zero.resolve_left h0
      rw [h5]
      exact hno _ hR (hCG _ hG.2)
    · have h0 : endE st = 0 := by simpa using h
      rw [if_pos h0] at hR
      subst hR
      exact ⟨oA, oC, rfl, hG.rd.mono (fun i hi _ => hi), hCG _ hG.2⟩
end
end Go.Proofs.Ytpcddfhfchempaa.Patch
