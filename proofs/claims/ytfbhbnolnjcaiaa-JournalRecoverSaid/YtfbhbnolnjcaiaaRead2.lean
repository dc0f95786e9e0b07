/-
  Read of the reference (33.3) returns the entries that the plain law reads, and the number of their bytes.
  Conditions: the journal is within a process's reach.
-/
import Derived.Test.YtfbhbnolnjcaiaaRead
import Derived.Test.YtfbhbnolnjcaiaaFirst2
namespace Go.Proofs.Ytfbhbnolnjcaiaa
open Go.RowKit Go.Sort
set_option maxHeartbeats 4000000
set_option maxRecDepth 20000

set_option maxRecDepth 100000
theorem rread_any (s : ByteArray) (hs : s.size ≤ 140737488351232) (w : World) : Calls Try.prog 53 #[.string s] w (ReadPost s w) := by
  have hst : RdSt w w s.data.toList (.slice none 0 0) 0 [] := ⟨World.ownsRow_nil _ _ _ _, by simp, Ext.refl _, Nat.zero_le _, by simp, by simp⟩
  have Hst := Lib.hid hst
  clear hst
  go_enter Try.func53, Try.ntmps53
  go_wp2_with fail
  go_loopw [4, 5] (fun v o wr => ∃ t ps, o = .int .i64 (t : Nat) ∧ RdSt w wr s.data.toList v t ps) (fun v _ _ => 4096 - (match v with | .slice _ n _ => n | _ => 0))
  case atStart => exact ⟨0, [], rfl, Hst.out⟩
  case round =>
    clear Hst
    obtain ⟨t, ps, rfl, hst⟩ := hrel
    obtain ⟨a, c, rfl⟩ := own_shape hst.own
    have hle := hst.le
    have hlen := hst.len
    have hLl : s.data.toList.length = s.size := rfl
    have Hst := Lib.hid hst
    clear hst
    by_cases hlt : ps.length < 4096
    · have hd : decide ((ps.length : Int) < 4096) = true := by simp; omega
      have hd' : (ps.length : Int) < 4096 := by omega
      have q0 : (0 : Int) ≤ (t : Int) := by omega
      have q1 : (t : Int) ≤ (s.size : Int) := by omega
      obtain ⟨sub, hsub⟩ : ∃ sub, s.extract t s.size = sub := ⟨_, rfl⟩
      have hsl : sub.data.toList = s.data.toList.drop t := by
        rw [← hsub, ByteArray.data_extract, Array.toList_extract]
        show List.extract s.data.toList t s.size = _
        rw [List.extract_eq_take_drop, List.take_of_length_le (by rw [List.length_drop]; omega)]
      have hss : sub.size ≤ 140737488351232 := by
        have : sub.data.toList.length = sub.size := rfl
        rw [hsl, List.length_drop] at this
        omega
      have Hsl := Lib.hid hsl
      clear hsl
      go_wp2_with fail
      refine (rfirst_any sub hss _).mono ?_
      rintro x w1 ⟨hx, ⟨e, n, u, hf, rfl, hnm⟩ | ⟨hf, e, A, k, c2, rfl⟩⟩
      · obtain ⟨A, c2, rfl⟩ := hnm.shape
        have hf' : firstP (s.data.toList.drop t) = some (e, n) := by rw [← Hsl.out]; exact hf
        have hpos := first_pos (firstP_of hf')
        rw [List.length_drop] at hpos
        obtain ⟨hpos, hnl⟩ := hpos
        have hw3 : wrap64 ((t : Int) + (n : Int)) = ((t + n : Nat) : Int) := by unfold wrap64; omega
        have Hf := Lib.hid hf'
        have hxa : Ext w1 ((w1.alloc (.cells #[.int .i64 e.cl, .int .i64 e.op, .int .i64 e.ttl, .int .i64 e.tick, .slice A e.names.length c2] 103)).alloc (.cells #[.int .i64 e.cl, .int .i64 e.op, .int .i64 e.ttl, .int .i64 e.tick, .slice A e.names.length c2] 103)) := ((Ext.refl _).alloc _).alloc _
        have Hx := Lib.hid (hx.trans hxa)
        have Hnm := Lib.hid (hnm.ext hxa)
        have Hown := Lib.hid (((Rd.of_own (S := fun _ => True) Hst.out.own (fun _ _ => trivial)).ext (hx.trans hxa)))
        have hown2 := Lib.hid (Hst.out.own.kept (hx.trans hxa).grownN (by cases hb : (Value.slice a ps.length c).ownBlock with | none => exact .inl rfl | some k => exact .inr (by simp)))
        have hrl := rd_ent (w1.alloc (.cells #[.int .i64 e.cl, .int .i64 e.op, .int .i64 e.ttl, .int .i64 e.tick, .slice A e.names.length c2] 103)) e.cl e.op e.ttl e.tick (.slice A e.names.length c2)
        rw [show (w1.alloc (.cells #[.int .i64 e.cl, .int .i64 e.op, .int .i64 e.ttl, .int .i64 e.tick, .slice A e.names.length c2] 103)).heap.size = w1.heap.size + 1 by simp] at hrl
        have hbz : w.heap.size ≤ ((w1.alloc (.cells #[.int .i64 e.cl, .int .i64 e.op, .int .i64 e.ttl, .int .i64 e.tick, .slice A e.names.length c2] 103)).alloc (.cells #[.int .i64 e.cl, .int .i64 e.op, .int .i64 e.ttl, .int .i64 e.tick, .slice A e.names.length c2] 103)).heap.size := by have := Hst.out.ext.size; have := hx.size; simp; omega
        obtain ⟨i0, hi, hz0, hz1, hz2⟩ := info_parts info_ent
        clear hxa hx hnm hf hf' Hown
        unfold entV
        have hn0 : ((n : Int) == 0) = false := by simp; omega
        have hn1 : ¬ (n : Int) = 0 := by omega
        go_wp2_with (at_builtin; refine wpList_append_rd _ rfl _ _ 56 rfl w.heap.size 103 i0 _ 5 56 und_ents hi hz0 hz1 hz2 rfl (by decide) _ ps.length _ rfl hown2.out (fun _ => True) _ 1 _ rfl hrl (by simp [Value.oneCell']) (by unfold maxLen; omega) (by omega) hbz ?_; intro v' w3 ha; obtain ⟨a3, c3, hv3⟩ := own_shape ha.own; subst hv3)
        have Hend := Lib.hid (Hst.out.more Hx.out Hf.out Hnm.out hlt ha)
        clear ha hrl hown2 hbz
        go_roundw
        case rel => exact ⟨t + n, _, by first | rfl | (rw [hw3]), by simpa using Hend.out⟩
        case measure => simp; omega
      · have hx' := hx.alloc (.cells #[.int .i64 e.cl, .int .i64 e.op, .int .i64 e.ttl, .int .i64 e.tick, .slice A k c2] 103)
        have Hfin := Lib.hid (RdSt.fin (s := s) (w := w) (w' := w1.alloc (.cells #[.int .i64 e.cl, .int .i64 e.op, .int .i64 e.ttl, .int .i64 e.tick, .slice A k c2] 103)) (v := .slice a ps.length c) (t := t) (ps := ps) ⟨Hst.out.own.kept hx'.grownN (by cases hb : (Value.slice a ps.length c).ownBlock with | none => exact .inl rfl | some k => exact .inr (by simp)), fun p hp => (Hst.out.nms p hp).ext hx', Hst.out.ext.trans hx', Hst.out.le, Hst.out.len, Hst.out.val⟩ (readF_stop fun e n => firstP_none (by rw [← Hsl.out]; exact hf) e n))
        clear hx'
        clear hf hx
        unfold entV
        go_wp2_with fail
        go_ret2
        exact Hfin.out
    · have hd : decide ((ps.length : Int) < 4096) = false := by simp; omega
      have hd' : ¬ (ps.length : Int) < 4096 := by omega
      have hz : 4096 - ps.length = 0 := by omega
      have Hfin := Lib.hid (Hst.out.fin (by rw [hz]; rfl))
      clear hz
      go_wp2_with fail
      go_ret2
      exact Hfin.out
end Go.Proofs.Ytfbhbnolnjcaiaa
