/-
  The example of chapter 33 that its laws check, and 'damaged'.
  Conditions: none.
-/
import Derived.Test.YtfbhbnolnjcaiaaWritten
namespace Go.Proofs.Ytfbhbnolnjcaiaa
open Go.RowKit Go.Sort
set_option maxHeartbeats 4000000
set_option maxRecDepth 20000

def awN : Nm := ⟨⟨#[97]⟩, ⟨#[97]⟩, ⟨#[97]⟩⟩
def awE : Ent := ⟨0, 1, 5, 0, [awN]⟩
theorem awE_check : checkE awE = 0 := by decide
theorem awE_body : (bodyE awE).length ≤ 190 := by
  have h := head_len (e := awE) (by unfold I64 awE; simp) (by unfold I64 awE; simp) (by unfold I64 awE; simp) (by unfold I64 awE; simp) (by simp [awE])
  have k1 := item_len (s := awN.a.data.toList) (by simp [awN])
  have g1 : awN.a.data.toList.length = 1 := rfl
  have e1 : namesItems awE.names = item awN.a.data.toList ++ item awN.a.data.toList ++ item awN.a.data.toList := by simp [awE, awN, namesItems, nameItems]
  rw [bodyE, List.length_append, e1]
  simp only [List.length_append]; omega
theorem awE_ok : (encE awE).1 = 0 := by rw [enc_ok awE_check (by have := awE_body; omega)]
theorem awE_app : appJ [] awE = (0, bytesE [awE]) := app_bytes (l := []) (by simp [EncOk]) (by simp) awE_ok
theorem awE_read : readJ (bytesE [awE]) = ([awE], (bytesE [awE]).length) := readJ_bytes (by simp [EncOk, awE_ok]) (by simp)
theorem awE_pos : 0 < (bytesE [awE]).length := by
  obtain ⟨_, h, _⟩ := enc_fits (e := awE) (x := (encE awE).2) (Prod.ext awE_ok rfl)
  have := wrap_pos (bodyE awE)
  simp only [bytesE, List.append_nil, h]; exact this
theorem awE_len : (bytesE [awE]).length ≤ 4200 := by
  have := bytes_len (l := [awE]) (by simp [EncOk, awE_ok])
  simpa using this
theorem nms_awE (w : World) : NmsAt (w.alloc (.cells #[.string ⟨#[97]⟩, .string ⟨#[97]⟩, .string ⟨#[97]⟩] 68)) (fun _ => True) (.slice (some ⟨w.heap.size, 0, none⟩) 1 1) awE.names := by
  have e1 : nmsCells awE.names = [.string ⟨#[97]⟩, .string ⟨#[97]⟩, .string ⟨#[97]⟩] := rfl
  have e2 : awE.names.length = 1 := rfl
  unfold NmsAt
  rw [e1, e2]
  exact rd_name w _ _ _
theorem ents_awE {w : World} {v : Value} (h : NmsAt (w.alloc (.cells #[.int .i64 0, .int .i64 1, .int .i64 5, .int .i64 0, v] 103)) (fun _ => True) v awE.names) :
    EntsAt (w.alloc (.cells #[.int .i64 0, .int .i64 1, .int .i64 5, .int .i64 0, v] 103)) (fun _ => True) (.slice (some ⟨w.heap.size, 0, none⟩) 1 1) [(awE, v)] := by
  have e1 : entsCells [(awE, v)] = [.int .i64 0, .int .i64 1, .int .i64 5, .int .i64 0, v] := by simp [entsCells, entCells, awE]
  have e2 : [(awE, v)].length = 1 := rfl
  refine ⟨?_, fun p hp => ?_⟩
  · rw [e1, e2]; exact rd_ent w 0 1 5 0 v
  · rw [List.mem_singleton.1 hp]; exact h
theorem awake33 (w : World) : Calls Try.prog 26 #[] w fun e w' => e = .returned (.bool true) ∧ Ext w w' := by
  obtain ⟨L, hL⟩ : ∃ L, bytesE [awE] = L := ⟨_, rfl⟩
  have hap := awE_app
  have hrd := awE_read
  have hpos := awE_pos
  have hlen := awE_len
  rw [hL] at hap hrd hpos hlen
  obtain ⟨jb, hjb⟩ : ∃ jb, bs L = jb := ⟨_, rfl⟩
  have hjs : jb.size = L.length := by rw [← hjb, bs_size]
  have hjd : jb.data.toList = L := by rw [← hjb]; rfl
  have Hap := Lib.hid hap
  have Hrd := Lib.hid hrd
  have Hjb := Lib.hid hjb
  have Hjs := Lib.hid hjs
  have Hjd := Lib.hid hjd
  clear hap hrd hjb hjs hjd hL
  go_enter Try.func26, Try.ntmps26
  go_wp2_with fail
  refine (append_any (S := fun _ => True) ⟨#[]⟩ awE _ (by decide) _ (NmsAt.ext (nms_awE w) ((Ext.refl _).alloc _)) (by have := awE_body; omega)).mono ?_
  rintro x w1 ⟨rfl, hx1⟩
  rw [show (⟨#[]⟩ : ByteArray).data.toList = [] from rfl, Hap.out]
  simp only
  rw [Hjb.out]
  have Hnm1 := Lib.hid (NmsAt.ext (nms_awE w) (Ext.trans ((Ext.refl _).alloc _) hx1))
  have Hx1 := Lib.hid (Ext.trans (((Ext.refl w).alloc (.cells #[.string ⟨#[97]⟩, .string ⟨#[97]⟩, .string ⟨#[97]⟩] 68)).alloc _) hx1)
  have hc0 : w1.cell? ⟨w.heap.size + 1, 0, none⟩ = some (.int .i64 0) := (hx1.cell (by simp)).trans (by go_simp)
  have hc1 : w1.cell? ⟨w.heap.size + 1, 1, none⟩ = some (.int .i64 1) := (hx1.cell (by simp)).trans (by go_simp)
  have hc2 : w1.cell? ⟨w.heap.size + 1, 2, none⟩ = some (.int .i64 5) := (hx1.cell (by simp)).trans (by go_simp)
  have hc3 : w1.cell? ⟨w.heap.size + 1, 3, none⟩ = some (.int .i64 0) := (hx1.cell (by simp)).trans (by go_simp)
  have hc4 : w1.cell? ⟨w.heap.size + 1, 4, none⟩ = some (.slice (some ⟨w.heap.size, 0, none⟩) 1 1) := (hx1.cell (by simp)).trans (by go_simp)
  have hw1 : w.heap.size + 1 < w1.heap.size := by have := hx1.size; simp at this; omega
  clear hx1
  go_wp2_with fail
  refine (read_any jb (by have := Hjs.out; omega) _).mono ?_
  rintro x w2 ⟨hx2, v, ps, rfl, hps, hents⟩
  rw [Hjd.out, Hrd.out] at hps
  rw [Hjd.out, Hrd.out]
  obtain ⟨A, C, rfl⟩ := hents.shape
  simp only at hps
  have hpl : ps.length = 1 := by have := congrArg List.length hps; simpa using this
  have d0 := (hx2.cell (p := ⟨w.heap.size + 1, 0, none⟩) hw1).trans hc0
  have d1 := (hx2.cell (p := ⟨w.heap.size + 1, 1, none⟩) hw1).trans hc1
  have d2 := (hx2.cell (p := ⟨w.heap.size + 1, 2, none⟩) hw1).trans hc2
  have d3 := (hx2.cell (p := ⟨w.heap.size + 1, 3, none⟩) hw1).trans hc3
  have d4 := (hx2.cell (p := ⟨w.heap.size + 1, 4, none⟩) hw1).trans hc4
  have Hents := Lib.hid hents
  have Hps := Lib.hid hps
  have Hnm2 := Lib.hid (NmsAt.ext (Hnm1.out.ext hx2) ((Ext.refl _).alloc (.cells #[.int .i64 0, .int .i64 1, .int .i64 5, .int .i64 0, .slice (some ⟨w.heap.size, 0, none⟩) 1 1] 103)))
  have Hx2 := Lib.hid (Hx1.out.trans hx2)
  have hjs := Hjs.out
  have hpos' : (0 : Int) < (L.length : Int) := by omega
  have Hr := Lib.hid (ents_awE Hnm2.out)
  clear hx2 hents hps hc0 hc1 hc2 hc3 hc4 Hnm1 Hx1
  simp only
  go_wp2_with fail
  have he : ps.map Prod.fst = [(awE, Value.slice (some ⟨w.heap.size, 0, none⟩) 1 1)].map Prod.fst := by rw [Hps.out, List.map_cons, List.map_nil]
  have hq := Hents.out.ext ((Ext.refl _).alloc (.cells #[.int .i64 0, .int .i64 1, .int .i64 5, .int .i64 0, .slice (some ⟨w.heap.size, 0, none⟩) 1 1] 103))
  have hcall := same_ents _ _ ps _ he _ _ _ hq Hr.out
  clear hq
  rw [hpl] at hcall
  with_reducible refine hcall.mono ?_
  rintro x w3 ⟨rfl, hx3⟩
  have Hx3 := Lib.hid (Ext.trans (Hx2.out.alloc _) hx3)
  clear hx3
  go_wp2_with fail
  go_ret
  exact ⟨rfl, Hx3.out⟩
def DamPost (s : ByteArray) (w : World) (x : Ending) (w' : World) : Prop := ∃ r : ByteArray, x = .returned (.string r) ∧ r.size ≤ s.size + 1 ∧ Ext w w'
theorem damaged_any (s : ByteArray) (how at_ v : Int) (hs : s.size ≤ 140737488351232) (w : World) : Calls Try.prog 22 #[.string s, .int .i64 how, .int .i64 at_, .int .i64 v] w (DamPost s w) := by
  obtain ⟨x, hx, hx1⟩ : ∃ x : Nat, pickI v 256 = (x : Int) ∧ x < 256 := ⟨(pickI v 256).toNat, by have := pickI_bd v 256 (by omega); omega, by have := pickI_bd v 256 (by omega); omega⟩
  have hcv := conv_one (w := w) hx1
  have hmod : (x : Int) % 256 = (x : Int) := by omega
  obtain ⟨b, hb⟩ : ∃ b, bs [UInt8.ofNat x] = b := ⟨_, rfl⟩
  rw [hb] at hcv
  have hb1 : b.size = 1 := by rw [← hb, bs_size]; rfl
  have Hb1 := Lib.hid hb1
  have Hx := Lib.hid hx
  clear hx hb hb1
  have hone : (⟨#[]⟩ : ByteArray).size = 0 := rfl
  by_cases hs0 : s = ⟨#[]⟩
  · subst hs0
    go_enter Try.func22, Try.ntmps22
    go_wp2_with (go_at_call 7; refine (pick_any _ _ (by omega) (by omega) _).mono ?_; rintro e w' ⟨rfl, rfl⟩; rw [Hx.out])
    go_ret
    exact ⟨b, rfl, by rw [Hb1.out]; omega, (Ext.refl _).alloc _⟩
  · have hpos : 0 < s.size := by
      rcases Nat.eq_zero_or_pos s.size with h | h
      · exact absurd (ByteArray.ext (Array.eq_empty_of_size_eq_zero h)) hs0
      · exact h
    obtain ⟨k, hk, hk1⟩ : ∃ k : Nat, pickI at_ (s.size : Int) = (k : Int) ∧ k < s.size := ⟨(pickI at_ s.size).toNat, by have := pickI_bd at_ s.size (by omega); omega, by have := pickI_bd at_ s.size (by omega); omega⟩
    have Hk := Lib.hid hk
    clear hk
    have hm : pickI how 3 = 0 ∨ pickI how 3 = 1 ∨ pickI how 3 = 2 := by have := pickI_bd how 3 (by omega); omega
    have hemp : s.toList.isEmpty = false := by
      rw [ByteArray.toList_eq]
      cases h : s.data.toList with
      | nil => exact absurd (ByteArray.ext (Array.ext' h)) hs0
      | cons => rfl
    have hbs := Hb1.out
    have hno1 : ¬ 9223372036854775807 < s.size + b.size := by omega
    have hno2 : ¬ 9223372036854775807 < (s.extract 0 k).size + b.size := by rw [ByteArray.size_extract]; omega
    have hno3 : ¬ 9223372036854775807 < (s.extract 0 k ++ b).size + (s.extract (k + 1) s.size).size := by rw [ByteArray.size_append, ByteArray.size_extract, ByteArray.size_extract]; omega
    have Hno3 := Lib.hid (show (s.extract 0 k ++ b ++ s.extract (k + 1) s.size).size ≤ s.size + 1 by rw [ByteArray.size_append, ByteArray.size_append, ByteArray.size_extract, ByteArray.size_extract]; omega)
    have Hno2 := Lib.hid (show (s.extract 0 k).size ≤ s.size + 1 by rw [ByteArray.size_extract]; omega)
    have Hno1 := Lib.hid (show (s ++ b).size ≤ s.size + 1 by rw [ByteArray.size_append]; omega)
    have q0 : (0 : Int) ≤ (k : Int) := by omega
    have q1 : (k : Int) ≤ (s.size : Int) := by omega
    have q2 : (k : Int) + 1 ≤ (s.size : Int) := by omega
    rcases hm with hm | hm | hm
    all_goals
      have Hm := Lib.hid hm
      clear hm
      go_enter Try.func22, Try.ntmps22
      go_wp2_with (go_at_call 7; refine (pick_any _ _ (by omega) (by omega) _).mono ?_; rintro e w' ⟨rfl, rfl⟩; first | rw [Hm.out] | rw [Hx.out] | rw [Hk.out])
    · go_quiet (fail)
      go_wp2_with fail
      go_ret
      exact ⟨_, rfl, Hno3.out, ((Ext.refl _).alloc _).drewN _⟩
    · go_ret
      exact ⟨_, rfl, Hno2.out, (Ext.refl _).alloc _⟩
    · go_ret
      exact ⟨_, rfl, Hno1.out, (Ext.refl _).alloc _⟩
end Go.Proofs.Ytfbhbnolnjcaiaa
