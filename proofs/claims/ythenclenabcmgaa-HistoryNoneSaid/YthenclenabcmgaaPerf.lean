/-
  One operation, performed again on the model, and its response compared (32.4).
  Conditions: as named.
-/
import Derived.Test.YthenclenabcmgaaHChk2
import Derived.Test.YthenclenabcmgaaModH
namespace Go.Proofs.Ythenclenabcmgaa
open Go.RowKit Go.Sort
set_option maxHeartbeats 8000000
set_option maxRecDepth 100000

def respEq (a b : Resp) : Bool := a.e == b.e && (a.at_ == b.at_ && (a.nm.toList == b.nm.toList && ((a.rc.st == b.rc.st && (a.rc.ow == b.rc.ow && (a.rc.nm.toList == b.rc.nm.toList && a.rc.dl == b.rc.dl))) && a.tick == b.tick)))
theorem run_neq_resp (a b : Resp) (w : World) : (binOp .neq 28 (respV a) (respV b)).run Try.prog w = .ok (.bool (!respEq a b)) w := by
  unfold respV
  go_simp
  repeat' split
  all_goals simp_all [respEq]
def respC (r : Resp) : List Value := [.int .i64 r.e, .int .i64 r.at_, .string r.nm, .int .i64 r.rc.st, .int .i64 r.rc.ow, .string r.rc.nm, .int .i64 r.rc.dl, .int .i64 r.tick]
theorem und_resp : (Try.prog.underlying 28).map TypeDesc.isRow = some true := by kernel_rfl
theorem info_resp : (Try.prog.info? 28).map (·.size) = some 8 := by kernel_rfl
theorem OpAt.resR {w : World} {b p : Nat} {o : Opn} (h : OpAt w b p o) : w.rangeAt b (p + 15) (respC o.res) := fun j v hv => by
  have hj : j < 8 := by have := (List.getElem?_eq_some_iff.1 hv).1; exact this
  rw [Nat.add_assoc, h.2 (15 + j) (by omega), ← hv]
  rcases (show j = 0 ∨ j = 1 ∨ j = 2 ∨ j = 3 ∨ j = 4 ∨ j = 5 ∨ j = 6 ∨ j = 7 by omega) with rfl | rfl | rfl | rfl | rfl | rfl | rfl | rfl <;> rfl
theorem OpAt.badR {w : World} {b p : Nat} {o : Opn} (h : OpAt w b p o) : w.rangeAt b (p + 4) (respC o.bad) := fun j v hv => by
  have hj : j < 8 := by have := (List.getElem?_eq_some_iff.1 hv).1; exact this
  rw [Nat.add_assoc, h.2 (4 + j) (by omega), ← hv]
  rcases (show j = 0 ∨ j = 1 ∨ j = 2 ∨ j = 3 ∨ j = 4 ∨ j = 5 ∨ j = 6 ∨ j = 7 by omega) with rfl | rfl | rfl | rfl | rfl | rfl | rfl | rfl <;> rfl
section
variable {ops : Array Oper} {rest : List Oper} {dst : Option Nat} {x y : Operand} {t : TypeId} {pos : String} {af : Array Edge} {a : Act} {w : World} {Q : Exit → Act → World → Prop} {b p : Nat} {r : Resp}
theorem run_loadResp {w : World} {b p : Nat} {r : Resp} (h : w.rangeAt b p (respC r)) : (Instr.loadAt 28 (.pointer (some ⟨b, p, none⟩))).run Try.prog w = .ok (respV r) w := by
  have hu := und_resp
  rw [Option.map_eq_some_iff] at hu
  obtain ⟨d, hu, hd⟩ := hu
  exact run_loadAt_mid w b p _ (respC r) d h hu hd (by rw [info_resp]; rfl)
theorem wpList_loadResp (h : w.rangeAt b p (respC r)) (hx : a.eval x = .pointer (some ⟨b, p, none⟩)) (hK : wpList Try.prog ops Q rest (a.put dst (respV r)) w) :
    wpList Try.prog ops Q ({ dst := dst, op := .load 28 x, type := t, pos := pos, after := af, guard := none } :: rest) a w := by
  have hu := und_resp
  rw [Option.map_eq_some_iff] at hu
  obtain ⟨d, hu, hd⟩ := hu
  exact wpList_load_mid rfl _ x rfl b p hx (respC r) d h hu hd (by rw [info_resp]; rfl) hK
theorem guard_resp (x y : Operand) (r1 r2 : Resp) (w : World) : (eqGuard .neq 28 x y (respV r1) (respV r2)).run Try.prog w = .ok () w := run_eqGuard_agg (P := Try.prog) w .neq 28 x y _ _ (by kernel_rfl)
theorem wpList_neqResp {r1 r2 : Resp} {s : TypeId} (hx : a.eval x = respV r1) (hy : a.eval y = respV r2) (hK : wpList Try.prog ops Q rest (a.put dst (.bool (!respEq r1 r2))) w) :
    wpList Try.prog ops Q ({ dst := dst, op := .binOp .neq 28 x y s, type := t, pos := pos, after := af, guard := none } :: rest) a w := by
  refine wpList_plain rfl fun _ hK' => ?_
  unfold Oper.wp execOp
  simp only [hx, hy, Sem.run_bind, guard_resp, run_neq_resp, Result.andThen_ok, Sem.run_pure]
  exact hK' _ _ hK
end
theorem yields_resp {ops : Array Oper} {S : World → Prop} {op : Oper} {a : Act} (hw : Region.wanted op (yielded ops a.tmps) = true) {x : Operand} (ho : op.op = .load 28 x) (b p : Nat) (hx : a.eval x = .pointer (some ⟨b, p, none⟩)) (r : Resp) (hS : ∀ w, S w → w.rangeAt b p (respC r)) : YieldsIf Try.prog ops S op (respV r) a := by
  have hu := und_resp
  rw [Option.map_eq_some_iff] at hu
  obtain ⟨d, hu, hd⟩ := hu
  exact yieldsIf_load_mid hw _ x ho b p hx (respC r) d hS hu hd (by rw [info_resp]; rfl)
theorem yields_neqR {ops : Array Oper} {S : World → Prop} {op : Oper} {a : Act} (hw : Region.wanted op (yielded ops a.tmps) = true) {x y : Operand} {s : TypeId} (ho : op.op = .binOp .neq 28 x y s) {r1 r2 : Resp} (hx : a.eval x = respV r1) (hy : a.eval y = respV r2) : YieldsIf Try.prog ops S op (.bool (!respEq r1 r2)) a :=
  .inl ⟨hw, fun w _ => by
    unfold execOp
    simp only [ho, hx, hy, Sem.run_bind, guard_resp, run_neq_resp, Result.andThen_ok, Sem.run_pure]⟩
theorem refused_op (o : Opn) (w : World) : Calls Try.prog 21 #[opV o] w fun e w' => e = .returned (.bool (o.bad.e != 0)) ∧ Ext w w' := refused_any o w

/-- The replay in block rb: its model and its tick. -/
structure RepAt (w : World) (rb b m : Nat) (cl cp : Int) (l : List Kp) (tick : Int) : Prop where
  c0 : w.cell? ⟨rb, 0, none⟩ = some (.pointer (some ⟨b, 0, none⟩))
  c1 : w.cell? ⟨rb, 1, none⟩ = some (.int .i64 tick)
  lt : rb < w.heap.size
  nb : rb ≠ b
  nm : rb ≠ m
  z1 : w.frozen? ⟨rb, 1, none⟩ = false
  mod : ModAt w b m cl cp l
theorem RepAt.ext {w w' : World} {rb b m : Nat} {cl cp : Int} {l : List Kp} {tick : Int} (h : RepAt w rb b m cl cp l tick) (x : Ext w w') : RepAt w' rb b m cl cp l tick :=
  ⟨(x.cell (p := ⟨rb, 0, none⟩) h.lt).trans h.c0, (x.cell (p := ⟨rb, 1, none⟩) h.lt).trans h.c1, Nat.lt_of_lt_of_le h.lt x.size, h.nb, h.nm, (x.frozen (p := ⟨rb, 1, none⟩) h.lt).trans h.z1, h.mod.ext x⟩
/-- What perform answers, and the records and the tick that it leaves. -/
def perfL (cl cp : Int) (l : List Kp) (tick : Int) (o : Opn) : Int × List Kp × Int :=
  if o.bad.e ≠ 0 then (if respEq o.res o.bad then 0 else 26, l, tick)
  else if o.res.tick < tick then (3, l, tick)
  else (if respEq (doR cl cp l o.cl o.op o.ttl o.res.tick o.ns) o.res then 0 else 26, doL cl cp l o.cl o.op o.ttl o.res.tick o.ns, o.res.tick)
def PerfPost (rb b m : Nat) (cl cp : Int) (l : List Kp) (tick : Int) (o : Opn) (w : World) (e : Ending) (w' : World) : Prop :=
  e = .returned (.int .i64 (perfL cl cp l tick o).1) ∧ RepAt w' rb b m cl cp (perfL cl cp l tick o).2.1 (perfL cl cp l tick o).2.2 ∧ Chg (fun k => k = m ∨ k = rb) w w'
theorem perform_any {S : Nat → Prop} (rb b m : Nat) (cl cp : Int) (l : List Kp) (tick : Int) (o : Opn) (w : World) (h : RepAt w rb b m cl cp l tick) (hl : l.length ≤ 100000) (hn : NmsAt w S o.nv o.ns) (hks : ∀ n ∈ o.ns, n.k.size ≤ maxLen) (hm : ¬ S m) (hrb : ¬ S rb) :
    Calls Try.prog 22 #[.pointer (some ⟨rb, 0, none⟩), opV o] w (PerfPost rb b m cl cp l tick o w) := by
  have hx1 : Ext w (w.alloc (opO o)) := (Ext.refl w).alloc _
  have hN := op_new w o
  have hne := run_neq_resp o.res o.bad
  have H1 := Lib.hid (h.ext hx1)
  have Hn1 := Lib.hid (Rd.ext hn hx1)
  have Hx1 := Lib.hid hx1
  have HN := Lib.hid hN
  have Hlt := Lib.hid h.lt
  have Hml := Lib.hid h.mod.map.lt
  clear hx1 hN h hn
  have hbox : opO o = .cells #[.int .i64 o.cl, .int .i64 o.op, .int .i64 o.ttl, o.nv, .int .i64 o.bad.e, .int .i64 o.bad.at_, .string o.bad.nm, .int .i64 o.bad.rc.st, .int .i64 o.bad.rc.ow, .string o.bad.rc.nm, .int .i64 o.bad.rc.dl, .int .i64 o.bad.tick, .int .i64 o.begun, .int .i64 o.dec, .int .i64 o.ans, .int .i64 o.res.e, .int .i64 o.res.at_, .string o.res.nm, .int .i64 o.res.rc.st, .int .i64 o.res.rc.ow, .string o.res.rc.nm, .int .i64 o.res.rc.dl, .int .i64 o.res.tick] 31 := rfl
  have Hbox := Lib.hid hbox
  clear hbox
  unfold opV
  go_enter Try.func22, Try.ntmps22
  go_upto_region 1 with fail
  rw [← Hbox.out]
  go_wp2_with (refine wpList_loadOp HN.out rfl ?_)
  refine (refused_op o _).mono ?_
  rintro x w2 ⟨rfl, hx2⟩
  have h2 := H1.out.ext hx2
  have hN2 := HN.out.ext hx2
  have Hn2 := Lib.hid (Rd.ext Hn1.out hx2)
  have Hx2 := Lib.hid (Hx1.out.trans hx2)
  have hes : w.heap.size < w2.heap.size := Nat.lt_of_lt_of_le (by simp) hx2.size
  obtain ⟨e, he⟩ : ∃ e, w.heap.size = e := ⟨_, rfl⟩
  have Hlt2 := Lib.hid (show rb < e by have := Hlt.out; omega)
  rw [he] at hN2 hes
  simp only [he]
  have HN2 := Lib.hid hN2
  have H2 := Lib.hid h2
  have He := Lib.hid he
  clear hN2 h2 hx2 Hx1 H1 HN Hn1 Hlt he
  by_cases hb : o.bad.e = 0
  · have hbq : (o.bad.e != 0) = false := by simp [hb]
    rw [hbq]
    have Hb := Lib.hid hb
    clear hb hbq
    have r0 := H2.out.c0
    have r1 := H2.out.c1
    have rz := H2.out.z1
    have e22 : w2.cell? ⟨e, 22, none⟩ = some (.int .i64 o.res.tick) := HN2.out.2 22 (by omega)
    by_cases ht : o.res.tick < tick
    · have hd : decide (o.res.tick < tick) = true := by simpa using ht
      have HP := Lib.hid (show perfL cl cp l tick o = (3, l, tick) by unfold perfL; rw [if_neg (by have := Hb.out; omega), if_pos ht])
      go_wp2_with fail
      go_region
      go_wp2_with fail
      go_ret
      unfold PerfPost
      rw [HP.out]
      exact ⟨rfl, H2.out.ext (Ext.refl _).drew, (Hx2.out.drew).chg _⟩
    · have hd : decide (o.res.tick < tick) = false := by simpa using ht
      have HP := Lib.hid (show perfL cl cp l tick o = (if respEq (doR cl cp l o.cl o.op o.ttl o.res.tick o.ns) o.res then 0 else 26, doL cl cp l o.cl o.op o.ttl o.res.tick o.ns, o.res.tick) by unfold perfL; rw [if_neg (by have := Hb.out; omega), if_neg ht])
      go_wp2_with fail
      go_region
      go_upto_region 8 with fail
      have hc3 : Chg (· = rb) w2 (w2.setCell ⟨rb, 1, none⟩ (.int .i64 o.res.tick)).drew := ((Chg.refl (· = rb) w2).setCell (.inl rfl) _).drew
      have g0 : (w2.setCell ⟨rb, 1, none⟩ (.int .i64 o.res.tick)).drew.cell? ⟨rb, 0, none⟩ = some (.pointer (some ⟨b, 0, none⟩)) := (World.cell?_setCell_other _ _ _ _ (by simp)).trans r0
      have g1 : (w2.setCell ⟨rb, 1, none⟩ (.int .i64 o.res.tick)).drew.cell? ⟨rb, 1, none⟩ = some (.int .i64 o.res.tick) := World.cell?_setCell_same _ _ _ r1
      obtain ⟨w3, hw3⟩ : ∃ W, (w2.setCell ⟨rb, 1, none⟩ (.int .i64 o.res.tick)).drew = W := ⟨_, rfl⟩
      rw [hw3] at hc3 g0 g1 ⊢
      have hne3 : rb ≠ e := by have := Hlt2.out; omega
      have hN3 := HN2.out.chg hc3 (fun h => hne3 h.symm)
      have hmod3 := H2.out.mod.chg hc3 (fun h => H2.out.nb h.symm) (fun h => H2.out.nm h.symm)
      have Hn3 := Lib.hid (Rd.chg Hn2.out hc3 (fun k hk e => hrb (e ▸ hk)))
      have hz3 : w3.frozen? ⟨rb, 1, none⟩ = false := by rw [← hw3]; exact (World.frozen?_setCell _ _ _ _).trans rz
      have k0 : w3.cell? ⟨e, 0, none⟩ = some (.int .i64 o.cl) := hN3.2 0 (by omega)
      have k1 : w3.cell? ⟨e, 1, none⟩ = some (.int .i64 o.op) := hN3.2 1 (by omega)
      have k2 : w3.cell? ⟨e, 2, none⟩ = some (.int .i64 o.ttl) := hN3.2 2 (by omega)
      have k3 : w3.cell? ⟨e, 3, none⟩ = some o.nv := hN3.2 3 (by omega)
      have k22 : w3.cell? ⟨e, 22, none⟩ = some (.int .i64 o.res.tick) := hN3.2 22 (by omega)
      have kr : w3.rangeAt e 15 (respC o.res) := by have := hN3.resR; rwa [Nat.zero_add] at this
      have hel : e < w3.heap.size := hN3.1
      have hrl : rb < w3.heap.size := Nat.lt_of_lt_of_le H2.out.lt hc3.size
      have HC3 := Lib.hid ((Hx2.out.chg (fun k => k = m ∨ k = rb)).trans (hc3.mono fun k _ h => .inr h))
      have HM3 := Lib.hid hmod3
      have hnm := H2.out.nm
      have hnb := H2.out.nb
      have hml := hmod3.map.lt
      have hem : e ≠ m := by have := He.out; have := Hml.out; omega
      refine wp_region_held_drew (S := fun w' => w'.cell? ⟨rb, 0, none⟩ = some (.pointer (some ⟨b, 0, none⟩)) ∧ w'.cell? ⟨e, 0, none⟩ = some (.int .i64 o.cl) ∧ w'.cell? ⟨e, 1, none⟩ = some (.int .i64 o.op) ∧ w'.cell? ⟨e, 2, none⟩ = some (.int .i64 o.ttl) ∧ w'.cell? ⟨e, 3, none⟩ = some o.nv ∧ w'.cell? ⟨e, 22, none⟩ = some (.int .i64 o.res.tick) ∧ w'.rangeAt e 15 (respC o.res)) (by kernel_rfl) ⟨g0, k0, k1, k2, k3, k22, kr⟩ (fun hHeld => ?_)
      refine wpAnyH_take (i := 0) (oi := _) (v := ?_) rfl (by kernel_rfl) (by kernel_rfl) (by kernel_rfl) (fun _ _ _ h => h) (Or.inl ⟨by rfl, ?_⟩) (by assumption) ?_; rotate_left; (focus ((intro w hSw; (try dsimp only at hSw); go_simp); (first | done | (with_reducible rfl)))); (try simp only [Act.put]); (try simp only [List.setIfInBounds_toArray])
      refine wpAnyH_take (i := 1) (oi := _) (v := ?_) rfl (by kernel_rfl) (by kernel_rfl) (by kernel_rfl) (fun _ _ _ h => h) (Or.inl ⟨by rfl, ?_⟩) (by assumption) ?_; rotate_left; (focus ((intro w hSw; (try dsimp only at hSw); go_simp); (first | done | (with_reducible rfl)))); (try simp only [Act.put]); (try simp only [List.setIfInBounds_toArray])
      refine wpAnyH_take (i := 2) (oi := _) (v := ?_) rfl (by kernel_rfl) (by kernel_rfl) (by kernel_rfl) (fun _ _ _ h => h) (Or.inl ⟨by rfl, ?_⟩) (by assumption) ?_; rotate_left; (focus ((intro w hSw; (try dsimp only at hSw); go_simp); (first | done | (with_reducible rfl)))); (try simp only [Act.put]); (try simp only [List.setIfInBounds_toArray])
      refine wpAnyH_take (i := 3) (oi := _) (v := ?_) rfl (by kernel_rfl) (by kernel_rfl) (by kernel_rfl) (fun _ _ _ h => h) (Or.inl ⟨by rfl, ?_⟩) (by assumption) ?_; rotate_left; (focus ((intro w hSw; (try dsimp only at hSw); go_simp); (first | done | (with_reducible rfl)))); (try simp only [Act.put]); (try simp only [List.setIfInBounds_toArray])
      refine wpAnyH_take (i := 4) (oi := _) (v := ?_) rfl (by kernel_rfl) (by kernel_rfl) (by kernel_rfl) (fun _ _ _ h => h) (Or.inl ⟨by rfl, ?_⟩) (by assumption) ?_; rotate_left; (focus ((intro w hSw; (try dsimp only at hSw); go_simp); (first | done | (with_reducible rfl)))); (try simp only [Act.put]); (try simp only [List.setIfInBounds_toArray])
      refine wpAnyH_take (i := 5) (oi := _) (v := ?_) rfl (by kernel_rfl) (by kernel_rfl) (by kernel_rfl) (fun _ _ _ h => h) (Or.inl ⟨by rfl, ?_⟩) (by assumption) ?_; rotate_left; (focus ((intro w hSw; (try dsimp only at hSw); go_simp); (first | done | (with_reducible rfl)))); (try simp only [Act.put]); (try simp only [List.setIfInBounds_toArray])
      refine wpAnyH_take (i := 6) (oi := _) (v := ?_) rfl (by kernel_rfl) (by kernel_rfl) (by kernel_rfl) (fun _ _ _ h => h) (Or.inl ⟨by rfl, ?_⟩) (by assumption) ?_; rotate_left; (focus ((intro w hSw; (try dsimp only at hSw); go_simp); (first | done | (with_reducible rfl)))); (try simp only [Act.put]); (try simp only [List.setIfInBounds_toArray])
      refine wpAnyH_take (i := 7) (oi := _) (v := ?_) rfl (by kernel_rfl) (by kernel_rfl) (by kernel_rfl) (fun _ _ _ h => h) (Or.inl ⟨by rfl, ?_⟩) (by assumption) ?_; rotate_left; (focus ((intro w hSw; (try dsimp only at hSw); go_simp); (first | done | (with_reducible rfl)))); (try simp only [Act.put]); (try simp only [List.setIfInBounds_toArray])
      refine wpAnyH_take (i := 8) (oi := _) (v := ?_) rfl (by kernel_rfl) (by kernel_rfl) (by kernel_rfl) (fun _ _ _ h => h) (Or.inl ⟨by rfl, ?_⟩) (by assumption) ?_; rotate_left; (focus ((intro w hSw; (try dsimp only at hSw); go_simp); (first | done | (with_reducible rfl)))); (try simp only [Act.put]); (try simp only [List.setIfInBounds_toArray])
      refine wpAnyH_take (i := 9) (oi := _) (v := ?_) rfl (by kernel_rfl) (by kernel_rfl) (by kernel_rfl) (fun _ _ _ h => h) (Or.inl ⟨by rfl, ?_⟩) (by assumption) ?_; rotate_left; (focus ((intro w hSw; (try dsimp only at hSw); go_simp); (first | done | (with_reducible rfl)))); (try simp only [Act.put]); (try simp only [List.setIfInBounds_toArray])
      refine wpAnyH_take (i := 10) (oi := _) (v := ?_) rfl (by kernel_rfl) (by kernel_rfl) (by kernel_rfl) (fun _ _ _ h => h) (Or.inl ⟨by rfl, ?_⟩) (by assumption) ?_; rotate_left; (focus ((intro w hSw; (try dsimp only at hSw); go_simp); (first | done | (with_reducible rfl)))); (try simp only [Act.put]); (try simp only [List.setIfInBounds_toArray])
      refine wpAnyH_take (i := 11) (oi := _) (v := ?_) rfl (by kernel_rfl) (by kernel_rfl) (by kernel_rfl) (fun _ _ _ h => h) (Or.inl ⟨by rfl, ?_⟩) (by assumption) ?_; rotate_left; (focus ((intro w hSw; (try dsimp only at hSw); go_simp); (first | done | (with_reducible rfl)))); (try simp only [Act.put]); (try simp only [List.setIfInBounds_toArray])
      refine wpAnyH_take (i := 12) (oi := _) (v := ?_) rfl (by kernel_rfl) (by kernel_rfl) (by kernel_rfl) (fun _ _ _ h => h) (Or.inl ⟨by rfl, ?_⟩) (by assumption) ?_; rotate_left; (focus ((intro w hSw; (try dsimp only at hSw); go_simp); (first | done | (with_reducible rfl)))); (try simp only [Act.put]); (try simp only [List.setIfInBounds_toArray])
      refine wpAnyH_take (i := 13) (oi := _) (v := ?_) rfl (by kernel_rfl) (by kernel_rfl) (by kernel_rfl) (fun _ _ _ h => h) (Or.inl ⟨by rfl, ?_⟩) (by assumption) ?_; rotate_left; (focus ((intro w hSw; (try dsimp only at hSw); go_simp); (first | done | (with_reducible rfl)))); (try simp only [Act.put]); (try simp only [List.setIfInBounds_toArray])
      refine wpAnyH_take (i := 14) (oi := _) (v := ?_) rfl (by kernel_rfl) (by kernel_rfl) (by kernel_rfl) (fun _ _ _ h => h) (Or.inl ⟨by rfl, ?_⟩) (by assumption) ?_; rotate_left; (focus ((intro w hSw; (try dsimp only at hSw); go_simp); (first | done | (with_reducible rfl)))); (try simp only [Act.put]); (try simp only [List.setIfInBounds_toArray])
      refine wpAnyH_take (i := 16) (oi := _) (v := ?_) rfl (by kernel_rfl) (by kernel_rfl) (by kernel_rfl) (fun _ _ _ h => h) (Or.inl ⟨by rfl, ?_⟩) (by assumption) ?_; rotate_left; (focus ((intro w hSw; (try dsimp only at hSw); go_simp); (first | done | (with_reducible rfl)))); (try simp only [Act.put]); (try simp only [List.setIfInBounds_toArray])
      refine wpAnyH_take (i := 17) (oi := { dst := some 43, op := Op.load 28 (Operand.tmp 42), type := 28, pos := "history.go:92", after := #[{ on := 16, ground := Ground.data }], guard := none }) (v := respV o.res) rfl (by kernel_rfl) (by kernel_rfl) (by kernel_rfl) (fun _ _ _ h => h) ?hy17 (by assumption) ?_
      case hy17 => exact yields_resp (x := Operand.tmp 42) rfl rfl e 15 (by simp [Act.eval]; done) o.res fun w h => h.2.2.2.2.2.2
      (try simp only [Act.put]); (try simp only [List.setIfInBounds_toArray])
      refine wpAnyH_ready (rs := [15]) (by kernel_rfl) (by simp) ?_; refine AllReadyH.cons (o := _) rfl (fun K hK => ?_) AllReadyH.nil; go_simp
      refine (mdo_any b m cl cp o.cl o.op o.ttl o.res.tick l o.nv o.ns _ (HM3.out.ext (Ext.refl w3).drew) hl hks (S := S) (Rd.drew Hn3.out) hm).mono ?_
      rintro x w4 ⟨rfl, hmod4, hc4⟩
      replace hc4 : Chg (· = m) w3 w4 := ((Ext.refl w3).drew.chg (· = m)).trans hc4
      have j0 := (hc4.cell (p := ⟨rb, 0, none⟩) hrl hnm).trans g0
      have j1 := (hc4.cell (p := ⟨rb, 1, none⟩) hrl hnm).trans g1
      have jz := (hc4.frozen (p := ⟨rb, 1, none⟩) hrl hnm).trans hz3
      replace k0 := (hc4.cell (p := ⟨e, 0, none⟩) hel hem).trans k0
      replace k1 := (hc4.cell (p := ⟨e, 1, none⟩) hel hem).trans k1
      replace k2 := (hc4.cell (p := ⟨e, 2, none⟩) hel hem).trans k2
      replace k3 := (hc4.cell (p := ⟨e, 3, none⟩) hel hem).trans k3
      replace k22 := (hc4.cell (p := ⟨e, 22, none⟩) hel hem).trans k22
      replace kr : w4.rangeAt e 15 (respC o.res) := fun j v hv => (hc4.cell (p := ⟨e, 15 + j, none⟩) hel hem).trans (kr j v hv)
      have HR4 := Lib.hid (show RepAt w4 rb b m cl cp (doL cl cp l o.cl o.op o.ttl o.res.tick o.ns) o.res.tick from ⟨j0, j1, Nat.lt_of_lt_of_le hrl hc4.size, hnb, hnm, jz, hmod4⟩)
      have HC4 := Lib.hid (HC3.out.trans (hc4.mono fun k _ h => .inl h))
      obtain ⟨R, hR⟩ : ∃ R, doR cl cp l o.cl o.op o.ttl o.res.tick o.ns = R := ⟨_, rfl⟩
      have HRe := Lib.hid hR
      rw [hR]
      clear hR hc4 hmod4 g0 g1 hz3 HM3 HC3 hN3 hmod3
      (try go_wp2_with fail); refine hK.out _ _ ?_ (fun hHeld => ?_); (focus ((try dsimp only); (first | done | go_keep))); clear hK K; try simp only [Act.put, List.setIfInBounds_toArray, List.set_cons_zero, List.set_cons_succ]
      refine wpAnyH_take (i := 18) (oi := { dst := some 44, op := Op.binOp BinOp.neq 28 (Operand.tmp 41) (Operand.tmp 43) 28, type := 4, pos := "history.go:92", after := #[{ on := 15, ground := Ground.data }, { on := 17, ground := Ground.data }], guard := none }) (v := .bool (!respEq R o.res)) rfl (by kernel_rfl) (by kernel_rfl) (by kernel_rfl) (fun _ _ _ h => h) ?hy18 (by assumption) ?_
      case hy18 => exact yields_neqR (x := Operand.tmp 41) (y := Operand.tmp 43) rfl rfl (by simp [Act.eval]; done) (by simp [Act.eval]; done)
      (try simp only [Act.put]); (try simp only [List.setIfInBounds_toArray])
      refine wpAnyH_done (by kernel_rfl) ?_ _
      clear hHeld k0 k1 k2 k3 k22 kr j0 j1 jz
      cases hq : respEq R o.res with
      | true =>
        go_wp2_with fail
        go_ret
        unfold PerfPost
        rw [HP.out, HRe.out, hq]
        exact ⟨rfl, HR4.out, HC4.out⟩
      | false =>
        go_wp2_with fail
        go_ret
        unfold PerfPost
        rw [HP.out, HRe.out, hq]
        exact ⟨rfl, HR4.out, HC4.out⟩
  · have hbq : (o.bad.e != 0) = true := by simp [hb]
    have hr := HN2.out.resR
    have hbd := HN2.out.badR
    rw [hbq]
    cases hq : respEq o.res o.bad with
    | true =>
      have HP := Lib.hid (show perfL cl cp l tick o = (0, l, tick) by unfold perfL; rw [if_pos hb, if_pos hq])
      go_wp2_with (first | (refine wpList_loadResp hr rfl ?_) | (refine wpList_loadResp hbd rfl ?_) | (refine wpList_neqResp rfl rfl ?_; rw [hq]))
      go_ret
      unfold PerfPost
      rw [HP.out]
      exact ⟨rfl, H2.out, Hx2.out.chg _⟩
    | false =>
      have HP := Lib.hid (show perfL cl cp l tick o = (26, l, tick) by unfold perfL; rw [if_pos hb, if_neg (by rw [hq]; simp)])
      go_wp2_with (first | (refine wpList_loadResp hr rfl ?_) | (refine wpList_loadResp hbd rfl ?_) | (refine wpList_neqResp rfl rfl ?_; rw [hq]))
      go_ret
      unfold PerfPost
      rw [HP.out]
      exact ⟨rfl, H2.out, Hx2.out.chg _⟩
end Go.Proofs.Ythenclenabcmgaa
