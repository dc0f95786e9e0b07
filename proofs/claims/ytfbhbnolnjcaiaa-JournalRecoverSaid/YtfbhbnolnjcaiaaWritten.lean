/-
  Chapter 33's journals: what the plain law says of small entries, and what 'written' makes.
  Conditions: the list reads as integers.
-/
import Derived.Test.YtfbhbnolnjcaiaaKeepEnts
import Derived.Test.YtfbhbnolnjcaiaaKeepSame
import Derived.Test.YtfbhbnolnjcaiaaApp2
namespace Go.Proofs.Ytfbhbnolnjcaiaa
open Go.RowKit Go.Sort
set_option maxHeartbeats 4000000
set_option maxRecDepth 20000

/-! ### Plain laws -/
def EncOk (l : List Ent) : Prop := ∀ e ∈ l, (encE e).1 = 0
theorem enc_ok_len {e : Ent} (h : (encE e).1 = 0) : (encE e).2.length ≤ 4200 := enc_len (x := (encE e).2) (Prod.ext h rfl)
theorem bytes_len : ∀ {l : List Ent}, EncOk l → (bytesE l).length ≤ 4200 * l.length
  | [], _ => by simp [bytesE]
  | e :: l, h => by
    have h1 := enc_ok_len (h e (by simp))
    have h2 := bytes_len (l := l) fun x hx => h x (by simp [hx])
    rw [bytesE, List.length_append, List.length_cons]; omega
theorem readJ_bytes {l : List Ent} (h : EncOk l) (hl : l.length ≤ 4096) : readJ (bytesE l) = (l, (bytesE l).length) := by
  have := readF_bytes l 4096 [] hl h
  rw [readF_stop not_first_nil] at this
  unfold readJ
  simpa using this
theorem app_bytes {l : List Ent} {e : Ent} (h : EncOk l) (hl : l.length ≤ 5) (he : (encE e).1 = 0) : appJ (bytesE l) e = (0, bytesE (l ++ [e])) := by
  have h1 := readJ_bytes h (by omega)
  have h2 := bytes_len h
  have h3 := enc_ok_len he
  rw [app_ok he (by rw [h1]; simp only; omega), h1]
  simp [bytesE_append, bytesE]
theorem SmallE.i64 {e : Ent} (h : SmallE e) : I64 e.cl ∧ I64 e.op ∧ I64 e.ttl ∧ I64 e.tick := by
  obtain ⟨⟨_, _⟩, ⟨_, _⟩, ⟨_, _⟩, ⟨_, _⟩, _, _⟩ := h
  unfold I64; omega
theorem code_i64 {v : Int} (h : I64 v) : (code v).length ≤ 10 := by unfold I64 at h; exact code_ten h.1 h.2
theorem item_len {s : List UInt8} (h : s.length ≤ 9223372036854775807) : (item s).length ≤ s.length + 10 := by
  have := code_ten (v := (s.length : Int)) (by omega) (by omega)
  rw [item, List.length_append]; omega
theorem namesItems_small : ∀ {l : List Nm}, Small l → (namesItems l).length ≤ 35 * l.length
  | [], _ => by simp [namesItems]
  | n :: l, h => by
    obtain ⟨h1, h2, h3, _⟩ := h n (by simp)
    have h4 := namesItems_small (l := l) fun x hx => h x (by simp [hx])
    have g1 : n.a.data.toList.length = 2 := h1
    have g2 : n.u.data.toList.length = 2 := h2
    have g3 : n.k.data.toList.length = 1 := h3
    have k1 := item_len (s := n.a.data.toList) (by omega)
    have k2 := item_len (s := n.u.data.toList) (by omega)
    have k3 := item_len (s := n.k.data.toList) (by omega)
    rw [namesItems, List.length_append, nameItems, List.length_append, List.length_append, List.length_cons]; omega
theorem head_len {e : Ent} (h1 : I64 e.cl) (h2 : I64 e.op) (h3 : I64 e.ttl) (h4 : I64 e.tick) (h5 : e.names.length ≤ 9223372036854775807) : (headItems e).length ≤ 50 := by
  have := code_i64 h1
  have := code_i64 h2
  have := code_i64 h3
  have := code_i64 h4
  have := code_ten (v := (e.names.length : Int)) (by omega) (by omega)
  unfold headItems
  simp only [List.length_append]; omega
theorem small_body {e : Ent} (h : SmallE e) : (bodyE e).length ≤ 190 := by
  obtain ⟨h1, h2, h3, h4⟩ := h.i64
  have g := h.len
  have h5 := head_len h1 h2 h3 h4 (by omega)
  have h6 := namesItems_small h.names
  rw [bodyE, List.length_append]; omega
theorem enc_small {e : Ent} (h : SmallE e) : (encE e).1 = checkE e := by
  have := small_body h
  by_cases hc : checkE e = 0
  · rw [enc_ok hc (by omega), hc]
  · rw [enc_bad hc]
theorem bs_bytes (l : List Ent) : (bs (bytesE l)).data.toList = bytesE l := rfl

/-! ### A list that grows beside the list of all entries -/
structure WSt (w w' : World) (B : Nat) (va : Value) (qs : List (Ent × Value)) (v : Value) (ps : List (Ent × Value)) : Prop where
  own : w'.ownsRow B 103 5 v ps.length (entsCells ps)
  nms : ∀ p ∈ ps, NmsAt w' (fun b => w.heap.size ≤ b ∧ b < B) p.2 p.1.names
  all : EntsAt w' (fun b => w.heap.size ≤ b ∧ b < B) va qs
  ext : Ext w w'
  le : w.heap.size ≤ B
  big : B ≤ w'.heap.size
theorem WSt.start {w w' : World} {va : Value} {qs : List (Ent × Value)} (h : KSt w w' va qs w'.heap.size) : WSt w w' w'.heap.size va qs (.slice none 0 0) [] := by
  refine ⟨World.ownsRow_nil _ _ _ _, by simp, ⟨Rd.of_own h.own fun q hq => ?_, fun p hp => Rd.mono (h.nms p hp) fun k hk _ => by omega⟩, h.ext, h.ext.size, Nat.le_refl _⟩
  have := (h.own.lt q hq).1
  have := h.top q hq
  omega
theorem WSt.ext' {w w1 w2 : World} {B : Nat} {va v : Value} {qs ps : List (Ent × Value)} (h : WSt w w1 B va qs v ps) (x : Ext w1 w2) : WSt w w2 B va qs v ps :=
  ⟨own_ext h.own x, fun p hp => (h.nms p hp).ext x, h.all.ext x, h.ext.trans x, h.le, Nat.le_trans h.big x.size⟩
theorem WSt.more {w w1 w3 : World} {B : Nat} {va v v' : Value} {qs ps : List (Ent × Value)} {e : Ent} {u : Value} (h : WSt w w1 B va qs v ps) (hq : (e, u) ∈ qs)
    (ha : Appended w1 B 103 5 v (ps.length + 1) (entsCells ps ++ entCells (e, u)) v' w3) : WSt w w3 B va qs v' (ps ++ [(e, u)]) := by
  have hcg : Chg (fun b => B ≤ b) w1 w3 := (Chg.refl _ _).grown ha.grown (fun k hk => .inl (h.own.lt k hk).1)
  have hle := h.le
  refine ⟨?_, fun p hp => ?_, ⟨Rd.chg h.all.1 hcg fun k hk hb => by omega, fun p hp => Rd.chg (h.all.2 p hp) hcg fun k hk hb => by omega⟩, h.ext.chg_new hcg fun i hi => by omega, h.le, Nat.le_trans h.big hcg.size⟩
  · have := ha.own
    rw [entsCells_append]
    simpa [entsCells] using this
  · rcases List.mem_append.1 hp with hp | hp
    · exact Rd.chg (h.nms p hp) hcg fun k hk hb => by omega
    · simp only [List.mem_singleton] at hp
      subst hp
      exact Rd.chg (h.all.2 _ hq) hcg fun k hk hb => by omega
def WrittenPost (w : World) (x : Ending) (w' : World) : Prop :=
  Ext w w' ∧ ∃ v ps, x = .returned (.tuple #[.string (bs (bytesE (ps.map Prod.fst))), v]) ∧ EncOk (ps.map Prod.fst) ∧ ps.length ≤ 5 ∧ (∀ p ∈ ps, SmallE p.1) ∧ EntsAt w' (fun k => w.heap.size ≤ k) v ps
/-- The loop's list: small entries that were encoded. -/
structure WRel (w wr : World) (B : Nat) (va : Value) (qs : List (Ent × Value)) (v : Value) (ps : List (Ent × Value)) (i : Nat) : Prop where
  st : WSt w wr B va qs v ps
  ok : EncOk (ps.map Prod.fst)
  len : ps.length ≤ i
  le : i ≤ qs.length
  sm : ∀ p ∈ ps, SmallE p.1
set_option maxRecDepth 100000
theorem written_any (a : Option Addr) (len cap : Nat) (w : World) (hrow : RowIn w a len) : Calls Try.prog 20 #[.slice a len cap] w (WrittenPost w) := by
  have Hrow := Lib.hid hrow
  clear hrow
  go_enter Try.func20, Try.ntmps20
  go_wp2_with fail
  refine (kents_any _ _ _ _ Hrow.out).mono ?_
  rintro x w1 ⟨va, qs, rfl, hq5, hk⟩
  have Hsm := Lib.hid hk.sm
  obtain ⟨A, C, hva⟩ := hk.ents.shape
  have Hrel0 := Lib.hid (show WRel w w1 w1.heap.size va qs (.slice none 0 0) [] 0 from ⟨WSt.start hk, by simp [EncOk], Nat.le_refl _, Nat.zero_le _, by simp⟩)
  subst hva
  obtain ⟨B, hB⟩ : ∃ B, w1.heap.size = B := ⟨_, rfl⟩
  rw [hB] at Hrel0
  clear hk hB Hrow
  have hlm : qs.length ≤ 5 := hq5
  go_wp2_with fail
  go_loopw [4, 5, 15] (fun j v o wr => ∃ (i : Nat) (ps : List (Ent × Value)), j = .string (bs (bytesE (ps.map Prod.fst))) ∧ o = .int .i64 (i : Int) ∧ WRel w wr B (.slice A qs.length C) qs v ps i) (fun _ _ o _ => qs.length - (intOf o).toNat)
  case atStart => exact ⟨0, [], rfl, rfl, Hrel0.out⟩
  case round =>
    clear Hrel0
    obtain ⟨i, ps, rfl, rfl, hrl⟩ := hrel
    obtain ⟨a1, c1, rfl⟩ := own_shape hrl.st.own
    have hil := hrl.len
    have hile := hrl.le
    have Hrl := Lib.hid hrl
    clear hrl
    by_cases hin : i < qs.length
    · have hd : decide ((i : Int) < (qs.length : Int)) = true := by simpa using hin
      obtain ⟨g, o, c', hv, p1, p2, _, b1, hcell⟩ := Hrl.out.st.all.get (j := i) hin
      simp only [Value.slice.injEq, true_and] at hv
      obtain ⟨rfl, rfl⟩ := hv
      obtain ⟨⟨e, u⟩, hae⟩ : ∃ a, qs[i]? = some a := ⟨qs[i], by simp [hin]⟩
      have hmem := List.mem_of_getElem? hae
      obtain ⟨x1, x2, x3, x4, x5, xn⟩ := hcell _ hae
      simp only at x1 x2 x3 x4 x5 xn
      obtain ⟨A2, c2, rfl⟩ := xn.shape
      have hsme := Hsm.out _ hmem
      have i0 : (0 : Int) ≤ (i : Int) := by omega
      have i1 : (i : Int) < (qs.length : Int) := by omega
      unfold maxLen at p2
      have hx0 : Ext wr (wr.alloc (.cells #[.int .i64 e.cl, .int .i64 e.op, .int .i64 e.ttl, .int .i64 e.tick, .slice A2 e.names.length c2] 103)) := (Ext.refl wr).alloc _
      have Hn := Lib.hid (xn.ext hx0)
      have Hrl2 := Lib.hid (Hrl.out.st.ext' hx0)
      have Hsme := Lib.hid hsme
      have Hmem := Lib.hid hmem
      obtain ⟨jb, hjb⟩ : ∃ jb, bs (bytesE (ps.map Prod.fst)) = jb := ⟨_, rfl⟩
      have hjl : jb.size ≤ 140737488351232 := by
        have := bytes_len Hrl.out.ok
        rw [← hjb, bs_size]; simp at this; omega
      have Hjb := Lib.hid hjb
      rw [hjb]
      clear hcell hae xn hx0 hsme hmem hjb
      go_wp2_with fail
      refine (rappend_any jb e _ hjl _ Hn.out (by have := small_body Hsme.out; omega)).mono ?_
      rintro x w2 ⟨rfl, hx2⟩
      obtain ⟨code, ys, hcy⟩ : ∃ code ys, appJ jb.data.toList e = (code, ys) := ⟨_, _, rfl⟩
      rw [hcy]
      have Hrl3 := Lib.hid (Hrl2.out.ext' hx2)
      have hc0 : w2.cell? ⟨wr.heap.size, 0, none⟩ = some (.int .i64 e.cl) := (hx2.cell (by simp)).trans (by go_simp)
      have hc1 : w2.cell? ⟨wr.heap.size, 1, none⟩ = some (.int .i64 e.op) := (hx2.cell (by simp)).trans (by go_simp)
      have hc2 : w2.cell? ⟨wr.heap.size, 2, none⟩ = some (.int .i64 e.ttl) := (hx2.cell (by simp)).trans (by go_simp)
      have hc3 : w2.cell? ⟨wr.heap.size, 3, none⟩ = some (.int .i64 e.tick) := (hx2.cell (by simp)).trans (by go_simp)
      have hc4 : w2.cell? ⟨wr.heap.size, 4, none⟩ = some (.slice A2 e.names.length c2) := (hx2.cell (by simp)).trans (by go_simp)
      have Hcy := Lib.hid hcy
      clear hx2 hcy Hn Hrl2
      simp only
      have hjd : jb.data.toList = bytesE (ps.map Prod.fst) := by rw [← Hjb.out]; rfl
      have Hjd := Lib.hid hjd
      clear hjd
      by_cases hok : (encE e).1 = 0
      · have h1 := app_bytes (e := e) Hrl.out.ok (by simp; omega) hok
        rw [← Hjd.out, Hcy.out] at h1
        simp only [Prod.mk.injEq] at h1
        obtain ⟨rfl, hys⟩ := h1
        have Hys := Lib.hid hys
        have Hok := Lib.hid hok
        obtain ⟨i0', hi, hz0, hz1, hz2⟩ := info_parts info_ent
        obtain ⟨x9, hx9⟩ : ∃ x9, bs ys = x9 := ⟨_, rfl⟩
        have Hx9 := Lib.hid hx9
        rw [hx9]
        clear hys hok hx9
        have hbz : B ≤ (w2.alloc (.cells #[.int .i64 e.cl, .int .i64 e.op, .int .i64 e.ttl, .int .i64 e.tick, .slice A2 e.names.length c2] 103)).heap.size := by have := Hrl3.out.big; simp; omega
        have hrl := rd_ent w2 e.cl e.op e.ttl e.tick (.slice A2 e.names.length c2)
        go_wp2_with (at_builtin; refine wpList_append_rd _ rfl _ _ 56 rfl B 103 i0' _ 5 56 und_ents hi hz0 hz1 hz2 rfl (by decide) _ ps.length _ rfl (own_ext Hrl3.out.own ((Ext.refl _).alloc _)) (fun _ => True) _ 1 _ rfl hrl (by simp [Value.oneCell']) (by unfold maxLen; omega) (by omega) hbz ?_; intro v' w3 ha; obtain ⟨a3, c3, hv3⟩ := own_shape ha.own; subst hv3)
        have Hend := Lib.hid (show WRel w w3 B (.slice (some ⟨g, o, none⟩) qs.length C) qs (.slice a3 (ps.length + 1) c3) (ps ++ [(e, .slice A2 e.names.length c2)]) (i + 1) from by
          refine ⟨(Hrl3.out.ext' ((Ext.refl _).alloc _)).more Hmem.out ha, ?_, by simp; omega, by omega, fun p hp => ?_⟩
          · intro x hx
            simp only [List.map_append, List.map_cons, List.map_nil, List.mem_append, List.mem_singleton] at hx
            rcases hx with hx | rfl
            · exact Hrl.out.ok x hx
            · exact Hok.out
          · rcases List.mem_append.1 hp with hp | hp
            · exact Hrl.out.sm p hp
            · simp only [List.mem_singleton] at hp
              subst hp
              exact Hsme.out)
        clear ha hrl hbz Hrl3
        go_roundw
        case rel => exact ⟨i + 1, ps ++ [(e, .slice A2 e.names.length c2)], by rw [← Hx9.out, Hys.out]; simp, by go_num, by simpa using Hend.out⟩
        case measure => simp [intOf]; omega
      · have h1 := app_bad (s := jb.data.toList) hok
        rw [Hcy.out] at h1
        simp only [Prod.mk.injEq] at h1
        obtain ⟨rfl, rfl⟩ := h1
        have hcn : ((encE e).1 == (0 : Int)) = false := by simpa using hok
        have Hend := Lib.hid (show WRel w w2 B (.slice (some ⟨g, o, none⟩) qs.length C) qs (.slice a1 ps.length c1) ps (i + 1) from ⟨Hrl3.out, Hrl.out.ok, by omega, by omega, Hrl.out.sm⟩)
        clear Hrl3
        go_wp2_with fail
        go_roundw
        case rel => exact ⟨i + 1, ps, by rw [Hjb.out], by go_num, Hend.out⟩
        case measure => simp [intOf]; omega
    · have hd : decide ((i : Int) < (qs.length : Int)) = false := by simp; omega
      go_wp2_with fail
      go_ret2
      exact ⟨Hrl.out.st.ext, _, ps, rfl, Hrl.out.ok, by omega, Hrl.out.sm, Rd.of_own Hrl.out.st.own fun q hq => by have := (Hrl.out.st.own.lt q hq).1; have := Hrl.out.st.le; omega, fun p hp => Rd.mono (Hrl.out.st.nms p hp) fun k hk _ => hk.1⟩
end Go.Proofs.Ytfbhbnolnjcaiaa
