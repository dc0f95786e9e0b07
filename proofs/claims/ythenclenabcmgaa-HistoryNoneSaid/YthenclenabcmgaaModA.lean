/-
  The model's map of records; model.Check, New, Get, Len and their references' Check, New (28.1, 28.3).
  Conditions: none.
-/
import Derived.Test.YthenclenabcmgaaJudge
namespace Go.Proofs.Ythenclenabcmgaa
open Go.RowKit Go.Sort
open Go.Maps (Keyed string_keyed)
open Go.ChangeMaps Go.MapKept Go.WideMaps
set_option maxHeartbeats 1000000
set_option maxRecDepth 20000

theorem und_map : Try.prog.underlying 69 = some (.map 9 26) := by kernel_rfl
theorem str_key : Keyed Try.prog 9 := string_keyed Try.underlying9
theorem zero_rec (w : World) : (zeroValue 26).run Try.prog w = .ok (rcV default) w := by kernel_rfl
def recR : Value → Option (DataW Unit × List MemPlace)
  | .agg ⟨[.int .i64 st, .int .i64 ow, .string nm, .int .i64 dl]⟩ => some (rcD ⟨st, ow, nm, dl⟩, [])
  | _ => none
theorem recR_mk (r : Rc) : recR (rcV r) = some (rcD r, []) := rfl
theorem recR_inv {v : Value} {z : DataW Unit × List MemPlace} (h : recR v = some z) : ∃ r, v = rcV r ∧ z = (rcD r, []) := by
  unfold recR at h
  split at h
  · simp only [Option.some.injEq] at h; subst h; exact ⟨⟨_, _, _, _⟩, rfl, rfl⟩
  · simp at h
theorem owns_tight {w : World} {b n : Nat} {D : DataW Unit} (h : w.ownsMap Try.prog 9 recR b n D) : w.ownsMap Try.prog 9 recR b (Maps.size D) D := by
  obtain ⟨es, clock, hb, F, hs, rfl⟩ := h
  refine ⟨es, clock, hb, F, ?_, rfl⟩
  simp [Maps.size, length_sorted]
/-- The map in block m holds these records. -/
def MapAt (w : World) (m : Nat) (l : List Kp) : Prop := ∃ D, w.ownsMap Try.prog 9 recR m l.length D ∧ MapIs D l
theorem MapAt.lt {w : World} {m : Nat} {l : List Kp} (h : MapAt w m l) : m < w.heap.size := by
  obtain ⟨D, h, _⟩ := h
  exact h.lt
theorem MapAt.keep {w w' : World} {m : Nat} {l : List Kp} (h : MapAt w m l) (hk : w'.heap[m]? = w.heap[m]?) : MapAt w' m l := by
  obtain ⟨D, ⟨es, clock, hb, r⟩, h2⟩ := h
  exact ⟨D, ⟨es, clock, hk.trans hb, r⟩, h2⟩
theorem MapAt.chg {S : Nat → Prop} {w w' : World} {m : Nat} {l : List Kp} (h : MapAt w m l) (c : Chg S w w') (hm : ¬ S m) : MapAt w' m l := h.keep (c.block m h.lt hm)
theorem MapAt.ext {w w' : World} {m : Nat} {l : List Kp} (h : MapAt w m l) (x : Ext w w') : MapAt w' m l := h.keep (x.block h.lt)
theorem MapAt.look {w : World} {m : Nat} {l : List Kp} (h : MapAt w m l) {key : ByteArray} (hk : key.size ≤ maxLen) : (Instr.lookup 69 (.map (some m)) (.string key) false).run Try.prog w = .ok (rcV (getK l key)) w := by
  obtain ⟨D, h1, h2⟩ := h
  obtain ⟨v, ps, hrun, hv⟩ := h1.lookup str_key und_map (zero_rec w) (recR_mk default) (keyOf_string_mk Try.underlying9 hk)
  obtain ⟨r, rfl, hz⟩ := recR_inv hv
  have := h2.get key
  simp only [Prod.mk.injEq] at hz
  rw [show Lit.string (kb key) = Lit.string key.data.toList from rfl, hz.1] at this
  rw [← rcD_inj this]
  exact hrun
theorem MapAt.len {w : World} {m : Nat} {l : List Kp} (h : MapAt w m l) (ty : TypeId) : (Builtin.len_ #[69] ty #[.map (some m)]).run Try.prog w = .ok (.int .i64 (l.length : Int)) w := by
  obtain ⟨D, h1, h2⟩ := h
  have := h1.len und_map ty
  rw [h2.size] at this
  exact this
theorem MapAt.put {w : World} {m : Nat} {l : List Kp} (h : MapAt w m l) (hl : l.length < maxLen) {key : ByteArray} (hk : key.size ≤ maxLen) {r : Rc} (hr : r.st ≠ 0) :
    ∃ w', (Instr.mapUpdate 69 (.map (some m)) (.string key) (rcV r)).run Try.prog w = .ok () w' ∧ MapAt w' m (putK l key r) ∧ Chg (· = m) w w' ∧ w'.heap.size = w.heap.size := by
  obtain ⟨D, h1, h2⟩ := h
  obtain ⟨w', hrun, h3, h4⟩ := h1.store str_key und_map hl (keyOf_string_mk Try.underlying9 hk) (recR_mk r)
  have h5 := h2.put key r hr
  have h6 := owns_tight h3
  rw [show (Lit.string key.data.toList) = .string (kb key) from rfl, h5.size] at h6
  refine ⟨w', hrun, ⟨_, h6, h5⟩, (Chg.refl _ w).grown h4.grown fun k hk => .inl (by simpa using hk.symm), ?_⟩
  obtain ⟨_, _, _, _, _, rfl⟩ := h4
  simp [setBlock]
theorem MapAt.del {w : World} {m : Nat} {l : List Kp} (h : MapAt w m l) {key : ByteArray} (hk : key.size ≤ maxLen) {r : Rc} (hr : r.st = 0) (ty : TypeId) :
    ∃ w', (Builtin.delete_ #[69, 9] ty #[.map (some m), .string key]).run Try.prog w = .ok (.tuple #[]) w' ∧ MapAt w' m (putK l key r) ∧ Chg (· = m) w w' ∧ w'.heap.size = w.heap.size := by
  obtain ⟨D, h1, h2⟩ := h
  obtain ⟨w', hrun, h3, h4⟩ := h1.drop str_key und_map (keyOf_string_mk Try.underlying9 hk) ty
  have h5 := h2.del key r hr
  have h6 := owns_tight h3
  rw [show (Lit.string key.data.toList) = .string (kb key) from rfl, h5.size] at h6
  refine ⟨w', hrun, ⟨_, h6, h5⟩, (Chg.refl _ w).grown h4.grown fun k hk => .inl (by simpa using hk.symm), ?_⟩
  obtain ⟨_, _, _, _, _, rfl⟩ := h4
  simp [setBlock]
theorem mapAt_made (w : World) : MapAt (w.alloc (.map #[] 0)) w.heap.size [] := ⟨_, World.ownsMap_made w _ _ _, MapIs.empty⟩
/-- The model in block b, its map in block m. -/
structure ModAt (w : World) (b m : Nat) (cl cap : Int) (l : List Kp) : Prop where
  c0 : w.cell? ⟨b, 0, none⟩ = some (.int .i64 cl)
  c1 : w.cell? ⟨b, 1, none⟩ = some (.int .i64 cap)
  c2 : w.cell? ⟨b, 2, none⟩ = some (.map (some m))
  lt : b < w.heap.size
  ne : b ≠ m
  map : MapAt w m l
theorem ModAt.chg {S : Nat → Prop} {w w' : World} {b m : Nat} {cl cap : Int} {l : List Kp} (h : ModAt w b m cl cap l) (c : Chg S w w') (hb : ¬ S b) (hm : ¬ S m) : ModAt w' b m cl cap l :=
  ⟨(c.cell (p := ⟨b, 0, none⟩) h.lt hb).trans h.c0, (c.cell (p := ⟨b, 1, none⟩) h.lt hb).trans h.c1, (c.cell (p := ⟨b, 2, none⟩) h.lt hb).trans h.c2, Nat.lt_of_lt_of_le h.lt c.size, h.ne, h.map.chg c hm⟩
theorem ModAt.ext {w w' : World} {b m : Nat} {cl cap : Int} {l : List Kp} (h : ModAt w b m cl cap l) (x : Ext w w') : ModAt w' b m cl cap l := h.chg (x.chg (fun _ => False)) (fun h => h) (fun h => h)
theorem ModAt.turn {w w' : World} {b m : Nat} {cl cap : Int} {l l' : List Kp} (h : ModAt w b m cl cap l) (c : Chg (· = m) w w') (hm : MapAt w' m l') : ModAt w' b m cl cap l' :=
  ⟨(c.cell (p := ⟨b, 0, none⟩) h.lt h.ne).trans h.c0, (c.cell (p := ⟨b, 1, none⟩) h.lt h.ne).trans h.c1, (c.cell (p := ⟨b, 2, none⟩) h.lt h.ne).trans h.c2, Nat.lt_of_lt_of_le h.lt c.size, h.ne, hm⟩

/-- The error of a configuration (28.1). -/
def confE (cl cap : Int) : Int := if cl < 1 ∨ 64 < cl ∨ cap < 1 ∨ 64 < cap then 3 else 0
theorem conf_cases (cl cap : Int) : (decide (cl < 1) = true ∧ confE cl cap = 3) ∨ (decide (cl < 1) = false ∧ decide (64 < cl) = true ∧ confE cl cap = 3) ∨ (decide (cl < 1) = false ∧ decide (64 < cl) = false ∧ decide (cap < 1) = true ∧ confE cl cap = 3) ∨
    (decide (cl < 1) = false ∧ decide (64 < cl) = false ∧ decide (cap < 1) = false ∧ decide (64 < cap) = true ∧ confE cl cap = 3) ∨ (decide (cl < 1) = false ∧ decide (64 < cl) = false ∧ decide (cap < 1) = false ∧ decide (64 < cap) = false ∧ confE cl cap = 0) := by
  by_cases h1 : cl < 1
  · exact .inl ⟨by simpa using h1, by simp [confE, h1]⟩
  by_cases h2 : 64 < cl
  · exact .inr (.inl ⟨by simpa using h1, by simpa using h2, by simp [confE, h2]⟩)
  by_cases h3 : cap < 1
  · exact .inr (.inr (.inl ⟨by simpa using h1, by simpa using h2, by simpa using h3, by simp [confE, h3]⟩))
  by_cases h4 : 64 < cap
  · exact .inr (.inr (.inr (.inl ⟨by simpa using h1, by simpa using h2, by simpa using h3, by simpa using h4, by simp [confE, h4]⟩)))
  · exact .inr (.inr (.inr (.inr ⟨by simpa using h1, by simpa using h2, by simpa using h3, by simpa using h4, by simp [confE]; omega⟩)))
theorem mcheck_any (cl cap : Int) (w : World) : Calls Try.prog 26 #[.agg #[.int .i64 cl, .int .i64 cap]] w fun e w' => e = .returned (.int .i64 (confE cl cap)) ∧ Ext w w' := by
  rcases conf_cases cl cap with ⟨d1, hc⟩ | ⟨d1, d2, hc⟩ | ⟨d1, d2, d3, hc⟩ | ⟨d1, d2, d3, d4, hc⟩ | ⟨d1, d2, d3, d4, hc⟩ <;> (
    rw [hc]
    clear hc
    go_enter Try.func26, Try.ntmps26
    go_wp2_with fail
    go_ret
    exact ⟨rfl, (by repeat' (first | exact Ext.refl _ | assumption | apply Ext.alloc | apply Ext.drewN | apply Ext.drew | (refine Ext.trans ?_ (by assumption)) | (refine ext_setCell ?_ (by first | (simp; done) | (simp; omega)) _)))⟩)
/-- What New returns. -/
def NewPost (cl cap : Int) (w : World) (e : Ending) (w' : World) : Prop :=
  (confE cl cap = 3 ∧ e = .returned (.tuple #[.pointer none, .int .i64 3]) ∧ Ext w w') ∨
  (confE cl cap = 0 ∧ ∃ b m, e = .returned (.tuple #[.pointer (some ⟨b, 0, none⟩), .int .i64 0]) ∧ ModAt w' b m cl cap [] ∧ w.heap.size ≤ b ∧ w.heap.size ≤ m ∧ Ext w w')
theorem confE_or (cl cap : Int) : confE cl cap = 3 ∨ confE cl cap = 0 := by unfold confE; split <;> simp
theorem mnew_any (cl cap : Int) (w : World) : Calls Try.prog 15 #[.agg #[.int .i64 cl, .int .i64 cap]] w (NewPost cl cap w) := by
  have hmm := @run_makeMap Try.prog
  have H := Lib.hid (Eq.refl (confE cl cap))
  rcases confE_or cl cap with hc | hc
  · go_enter Try.func15, Try.ntmps15
    go_wp2_with fail
    refine (mcheck_any cl cap _).mono ?_
    rintro x w1 ⟨rfl, hx1⟩
    rw [hc]
    have Hx1 := Lib.hid (((Ext.refl w).alloc _).trans hx1)
    have Hc := Lib.hid hc
    clear hx1 hc
    go_wp2_with fail
    go_ret2
    exact .inl ⟨Hc.out, rfl, Hx1.out⟩
  · go_enter Try.func15, Try.ntmps15
    go_wp2_with fail
    refine (mcheck_any cl cap _).mono ?_
    rintro x w1 ⟨rfl, hx1⟩
    rw [hc]
    have k0 : w1.cell? ⟨w.heap.size, 0, none⟩ = some (.int .i64 cl) := (hx1.cell (by simp)).trans (by go_simp)
    have k1 : w1.cell? ⟨w.heap.size, 1, none⟩ = some (.int .i64 cap) := (hx1.cell (by simp)).trans (by go_simp)
    have Hx1 := Lib.hid (((Ext.refl w).alloc _).trans hx1)
    have Hc := Lib.hid hc
    clear hx1 hc
    go_wp2_with fail
    go_ret2
    have hz := Hx1.out.size
    refine .inr ⟨Hc.out, w1.heap.size + 1, w1.heap.size, rfl, ⟨?_, ?_, ?_, by simp, by omega, ?_⟩, by omega, hz, (Hx1.out.alloc _).alloc _⟩
    · go_simp
    · go_simp
    · go_simp
    · exact (mapAt_made w1).ext ((Ext.refl _).alloc _)
end Go.Proofs.Ythenclenabcmgaa
