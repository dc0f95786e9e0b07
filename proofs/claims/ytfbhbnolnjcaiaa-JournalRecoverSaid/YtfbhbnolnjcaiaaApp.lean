/-
  Append of the program (33.4) returns what the plain law says.
  Conditions: the entry's names read as a list, and all is within a process's reach.
-/
import Derived.Test.YtfbhbnolnjcaiaaRead
namespace Go.Proofs.Ytfbhbnolnjcaiaa
open Go.RowKit Go.Sort
set_option maxHeartbeats 4000000
set_option maxRecDepth 20000

theorem enc_len {e : Ent} {x : List UInt8} (h : encE e = (0, x)) : x.length ≤ 4200 := by
  obtain ⟨f, rfl, _⟩ := enc_fits h
  have hb := f.body
  have hs := sumB_lt (bodyE e)
  have c1 := code_ten (v := ((bodyE e).length : Nat)) (by omega) (by omega)
  have c2 := code_ten (v := (sumB (bodyE e) : Nat)) (by omega) (by omega)
  rw [wrapE, List.length_append, item, List.length_append]
  omega
theorem app_bad {s : List UInt8} {e : Ent} (h : (encE e).1 ≠ 0) : appJ s e = ((encE e).1, []) := by unfold appJ; rw [if_pos h]
theorem app_full {s : List UInt8} {e : Ent} (h : (encE e).1 = 0) (h2 : 4096 ≤ (readJ s).1.length ∨ 32768 < (readJ s).2 + (encE e).2.length) : appJ s e = (7, []) := by unfold appJ; rw [if_neg (by simp [h]), if_pos h2]
theorem app_ok {s : List UInt8} {e : Ent} (h : (encE e).1 = 0) (h2 : ¬ (4096 ≤ (readJ s).1.length ∨ 32768 < (readJ s).2 + (encE e).2.length)) : appJ s e = (0, s.take (readJ s).2 ++ (encE e).2) := by unfold appJ; rw [if_neg (by simp [h]), if_neg h2]
theorem extract_zero (s : ByteArray) (t : Nat) : s.extract 0 t = bs (s.data.toList.take t) := by
  apply ByteArray.ext
  rw [ByteArray.data_extract]
  apply Array.ext'
  rw [Array.toList_extract]
  show List.extract s.data.toList 0 t = s.data.toList.take t
  rw [List.extract_eq_take_drop]; simp
set_option maxRecDepth 100000
theorem append_any {S : Nat → Prop} (s : ByteArray) (e : Ent) (v : Value) (hs : s.size ≤ 140737488351232) (w : World) (hn : NmsAt w S v e.names) (hsz : (bodyE e).length + 100 ≤ 140737488355328) :
    Calls Try.prog 55 #[.string s, entV e v] w fun x w' => x = .returned (.tuple #[.string (bs (appJ s.data.toList e).2), .int .i64 (appJ s.data.toList e).1]) ∧ Ext w w' := by
  obtain ⟨A, c, rfl⟩ := hn.shape
  have hx0 : Ext w (w.alloc (.cells #[.int .i64 e.cl, .int .i64 e.op, .int .i64 e.ttl, .int .i64 e.tick, .slice A e.names.length c] 103)) := (Ext.refl w).alloc _
  have Hn := Lib.hid (hn.ext hx0)
  have Hx0 := Lib.hid hx0
  obtain ⟨code, ys, hcy⟩ : ∃ code ys, encE e = (code, ys) := ⟨_, _, rfl⟩
  have Hcy := Lib.hid hcy
  clear hn hx0
  unfold entV
  go_enter Try.func55, Try.ntmps55
  go_wp2_with fail
  refine (encode_any e (.slice A e.names.length c) _ Hn.out hsz).mono ?_
  rintro x w1 ⟨rfl, hx1⟩
  have Hx1 := Lib.hid (Hx0.out.trans hx1)
  rw [hcy]
  clear hx1 hcy Hx0 Hn
  simp only
  by_cases hc0 : code = 0
  · subst hc0
    have hyl := enc_len Hcy.out
    obtain ⟨n, hrn⟩ : ∃ n, (readJ s.data.toList).2 = n := ⟨_, rfl⟩
    obtain ⟨es, hre⟩ : ∃ es, (readJ s.data.toList).1 = es := ⟨_, rfl⟩
    have hrl : n ≤ s.size := by rw [← hrn]; exact (readF_le 4096 s.data.toList).1
    obtain ⟨yb, hyb⟩ : ∃ yb, bs ys = yb := ⟨_, rfl⟩
    have hysz : yb.size = ys.length := by rw [← hyb, bs_size]
    have Hyb := Lib.hid hyb
    have Hrn := Lib.hid hrn
    have Hre := Lib.hid hre
    have Hysz := Lib.hid hysz
    have hyl2 : yb.size ≤ 4200 := by omega
    rw [hyb]
    clear hyb hre hysz
    go_wp2_with fail
    refine (read_any s hs _).mono ?_
    rintro x w2 ⟨hx2, v2, ps, rfl, hps, hents⟩
    obtain ⟨_, A2, c2, hv2, _⟩ := hents.1
    subst hv2
    have hpl : ps.length = es.length := by rw [← Hre.out, ← hps, List.length_map]
    have Hx2 := Lib.hid (Hx1.out.trans hx2)
    rw [hrn]
    have Hpl := Lib.hid hpl
    clear hps hents hx2 Hx1 hrn hpl
    have hadd : wrap64 ((n : Int) + (yb.size : Int)) = (n : Int) + (yb.size : Int) := by unfold wrap64; omega
    by_cases hfull : 4096 ≤ ps.length ∨ 32768 < n + yb.size
    · have Hf := Lib.hid (app_full (s := s.data.toList) (e := e) (by rw [Hcy.out]) (by rw [Hrn.out, Hre.out, Hcy.out, ← Hpl.out, ← Hysz.out]; exact hfull))
      by_cases h1 : 4096 ≤ ps.length
      · have hd1 : decide ((4096 : Int) ≤ (ps.length : Int)) = true := by simp; omega
        clear hfull
        go_wp2_with fail
        go_ret2
        exact ⟨by rw [Hf.out]; rfl, Hx2.out⟩
      · have hd1 : decide ((4096 : Int) ≤ (ps.length : Int)) = false := by simp; omega
        have h2 : 32768 < n + yb.size := by rcases hfull with h | h; exact absurd h h1; exact h
        have hd2 : decide ((32768 : Int) < (n : Int) + (yb.size : Int)) = true := by simp; omega
        have hd3 : (32768 : Int) < (n : Int) + (yb.size : Int) := by omega
        clear hfull
        go_wp2_with fail
        go_ret2
        exact ⟨by rw [Hf.out]; rfl, Hx2.out⟩
    · have h1 : ¬ 4096 ≤ ps.length := fun h => hfull (.inl h)
      have h2 : ¬ 32768 < n + yb.size := fun h => hfull (.inr h)
      have Hf := Lib.hid (app_ok (s := s.data.toList) (e := e) (by rw [Hcy.out]) (by rw [Hrn.out, Hre.out, Hcy.out, ← Hpl.out, ← Hysz.out]; exact hfull))
      have hd1 : decide ((4096 : Int) ≤ (ps.length : Int)) = false := by simp; omega
      have hd2 : decide ((32768 : Int) < (n : Int) + (yb.size : Int)) = false := by simp; omega
      have hd3 : ¬ (32768 : Int) < (n : Int) + (yb.size : Int) := by omega
      have q0 : (0 : Int) ≤ (n : Int) := by omega
      have q1 : (n : Int) ≤ (s.size : Int) := by omega
      obtain ⟨hdb, hhd⟩ : ∃ hdb, s.extract 0 n = hdb := ⟨_, rfl⟩
      have hhs : hdb.size ≤ s.size := by rw [← hhd, ByteArray.size_extract]; omega
      have hno : ¬ 9223372036854775807 < hdb.size + yb.size := by omega
      have Hfin := Lib.hid (show hdb ++ yb = bs (appJ s.data.toList e).2 by
        rw [Hf.out, ← hhd, extract_zero, ← Hyb.out, Hrn.out, Hcy.out, bs_append])
      clear hfull
      go_wp2_with fail
      go_ret2
      exact ⟨by rw [← Hfin.out, Hf.out]; rfl, Hx2.out⟩
  · have Hbad := Lib.hid (app_bad (s := s.data.toList) (e := e) (by rw [Hcy.out]; exact hc0))
    have hcd : (code == 0) = false := by simpa using hc0
    go_wp2_with fail
    go_ret2
    exact ⟨by rw [Hbad.out, Hcy.out]; rfl, Hx1.out⟩
end Go.Proofs.Ytfbhbnolnjcaiaa
