/-
  history.Order gives the operations that are decided, in the order of their decisions (32.3).
  Conditions: the operations lie in memory; few enough for one slice of numbers.
-/
import Derived.Test.YthenclenabcmgaaOrdA
import Derived.Test.YthenclenabcmgaaOrdP
import Derived.Deep.MidRow
import Derived.Deep.WholeRow
namespace Go.Proofs.Ythenclenabcmgaa
open Go.RowKit Go.Sort Go.Shelf
set_option maxHeartbeats 4000000
set_option maxRecDepth 100000

theorem OpAt.range {w : World} {b p : Nat} {o : Opn} (h : OpAt w b p o) : w.rangeAt b p (opC o) := fun j v hv => by
  rw [h.2 j (by have := (List.getElem?_eq_some_iff.1 hv).1; rwa [opC_len] at this), hv]
theorem und_op : (Try.prog.underlying 31).map TypeDesc.isRow = some true := by kernel_rfl
theorem info_op : (Try.prog.info? 31).map (·.size) = some 23 := by kernel_rfl
theorem opV_cells (o : Opn) : opV o = .agg (opC o).toArray := rfl
/-- The box of an operation. -/
def opO (o : Opn) : Obj := .cells (opC o).toArray 31
theorem op_new (w : World) (o : Opn) : OpAt (w.alloc (opO o)) w.heap.size 0 o := by
  refine ⟨by simp, fun k hk => ?_⟩
  unfold opO
  rw [Nat.zero_add, cell_of_row _ _ k (opC o).toArray 31 (0, 0) (heap_alloc_new w _)]
  simp
section
variable {ops : Array Oper} {rest : List Oper} {dst : Option Nat} {x y : Operand} {t : TypeId} {pos : String} {af : Array Edge} {a : Act} {w : World} {Q : Exit → Act → World → Prop} {b p : Nat} {o : Opn}
theorem wpList_loadOp (h : OpAt w b p o) (hx : a.eval x = .pointer (some ⟨b, p, none⟩)) (hK : wpList Try.prog ops Q rest (a.put dst (opV o)) w) :
    wpList Try.prog ops Q ({ dst := dst, op := .load 31 x, type := t, pos := pos, after := af, guard := none } :: rest) a w := by
  have hu := und_op
  rw [Option.map_eq_some_iff] at hu
  obtain ⟨d, hu, hd⟩ := hu
  exact wpList_load_mid rfl _ x rfl b p hx (opC o) d h.range hu hd (by rw [info_op]; rfl) hK
theorem wpList_storeOp {c : Array Value} (hc : c.size = 23) (hx : a.eval x = .pointer (some ⟨w.heap.size, 0, none⟩)) (hy : a.eval y = opV o) (hnv : o.nv.oneCell' = true) (hK : wpList Try.prog ops Q rest (a.put dst undef) (w.alloc (opO o))) :
    wpList Try.prog ops Q ({ dst := dst, op := .store 31 x y, type := t, pos := pos, after := af, guard := none } :: rest) a (w.alloc (.cells c 31)) := by
  refine wpList_plain rfl fun _ hK' => ?_
  unfold Oper.wp execOp
  rw [opV_cells] at hy
  have hall : (opC o).toArray.all (·.oneCell') = true := by
    have e : ∀ v ∈ opC o, v.oneCell' = true := by
      intro v hv
      simp only [opC, List.mem_cons, List.not_mem_nil, or_false] at hv
      rcases hv with rfl | rfl | rfl | rfl | rfl | rfl | rfl | rfl | rfl | rfl | rfl | rfl | rfl | rfl | rfl | rfl | rfl | rfl | rfl | rfl | rfl | rfl | rfl <;> first | exact hnv | rfl
    simpa using e
  have hrun := run_storeAt_new (P := Try.prog) w 31 c (opC o).toArray (by rw [info_op]; rfl) hc hall
  simp only [hx, hy, Sem.run_bind, hrun, Result.andThen_ok, Sem.run_pure]
  exact hK' _ _ hK
end
def natV (i : Nat) : Value := .int .i64 (i : Int)
/-- The slice v reads as these numbers. -/
def NatsAt (w : World) (S : Nat → Prop) (v : Value) (l : List Nat) : Prop := Rd w S 1 v l.length (l.map natV)

theorem insertion_none (A : Option Addr) (C : Nat) (fv : Value) (w : World) : Calls Try.prog 33 #[.slice A 0 C, .int .i64 0, .int .i64 0, fv] w fun e w' => e = .returned (.tuple #[]) ∧ w = w' := by
  go_enter Try.func33, Try.ntmps33
  go_wp2_with fail
  go_loopw [8] (fun v wr => v = .int .i64 1 ∧ w = wr) (fun _ _ => 0)
  case atStart => exact ⟨rfl, rfl⟩
  case round =>
    obtain ⟨rfl, rfl⟩ := hrel
    go_wp2_with fail
    go_end0
    exact ⟨rfl, rfl⟩
theorem stable_none (A : Option Addr) (C : Nat) (fv : Value) (w : World) : Calls Try.prog 29 #[.slice A 0 C, .int .i64 0, fv] w fun e w' => e = .returned (.tuple #[]) ∧ w = w' := by
  go_enter Try.func29, Try.ntmps29
  go_wp2_with fail
  go_loopw [7, 8] (fun u v wr => u = .int .i64 0 ∧ v = .int .i64 20 ∧ w = wr) (fun _ _ _ => 0)
  case atStart => exact ⟨rfl, rfl, rfl⟩
  case round =>
    obtain ⟨rfl, rfl, rfl⟩ := hrel
    go_wp2_with (go_at_call 33; refine (insertion_none _ _ _ _).mono ?_; rintro e w' ⟨rfl, rfl⟩)
    go_loopw [6] (fun v wr => v = .int .i64 20 ∧ w = wr) (fun _ _ => 0)
    case atStart => exact ⟨rfl, rfl⟩
    case round =>
      obtain ⟨rfl, rfl⟩ := hrel
      go_wp2_with fail
      go_end0
      exact ⟨rfl, rfl⟩
theorem sort_none (A : Option Addr) (C : Nat) (fv : Value) (w : World) : Calls Try.prog 23 #[.slice A 0 C, fv] w fun e w' => e = .returned (.tuple #[]) ∧ w = w' := by
  go_enter Try.func23, Try.ntmps23
  go_wp2_with (go_at_call 29; refine (stable_none _ _ _ _).mono ?_; rintro e w' ⟨rfl, rfl⟩)
  go_end0
  exact ⟨rfl, rfl⟩

def encF {n : Nat} (i : Fin n) : Value := natV i.val
theorem encF_one {n : Nat} : OneCell (encF (n := n)) := fun _ => rfl
theorem sw_chg {α : Type} [Inhabited α] {enc : α → Value} {w0 W : World} {blk off : Nat} {d : Array α} (h : SW enc w0 blk off d W) : Chg (· = blk) w0 W := by
  obtain ⟨m, os, rfl⟩ := h
  unfold sortWorld
  refine ⟨rfl, rfl, rfl, ?_, fun k hk hne => ?_⟩
  · show w0.heap.size ≤ ((putRow enc (Sort.ahead w0 m) blk off d).heap ++ os).size
    rw [Array.size_append, Sort.size_putRow]
    exact Nat.le_add_right _ _
  · show ((putRow enc (Sort.ahead w0 m) blk off d).heap ++ os)[k]? = _
    rw [Array.getElem?_append_left (by rw [Sort.size_putRow]; exact hk)]
    simp only [putRow, mapBlock, Sort.heap_ahead]
    rw [Array.getElem?_modify, if_neg (fun e => hne e.symm)]
/-- The decided operations, sorted. -/
theorem sorted_is {os : List Opn} {N : Nat} [Inhabited (Fin N)] {sz : Nat} {d0 d : Array (Fin N)} (h0 : d0.toList.map (·.val) = decd os os.length) (hsz : d0.size = sz) (h : Merged (fun i : Fin N => decAt os i.val) (fun i : Fin N => i.val) 0 sz d0 d) : d.toList.map (·.val) = ordL os := by
  obtain ⟨hp, hs⟩ := h
  have hds : d.size = sz := by rw [hp.1, hsz]
  have hperm : d.toList.Perm d0.toList := by
    have := hp.2.2
    rw [← hsz] at this
    have e1 : d0.extract 0 d0.size = d0 := by simp
    have e2 : d.extract 0 d0.size = d := by rw [hsz, ← hds]; simp
    rw [e1, e2] at this
    exact this
  have hnd : (d.toList.map (·.val)).Nodup := (hperm.map _).nodup_iff.2 (by rw [h0]; exact (decd_asc os os.length).imp fun h => Nat.ne_of_lt h)
  refine IsOrd.unique ⟨?_, fun i => ?_⟩ (ordL_is os)
  · rw [List.pairwise_iff_getElem]
    intro i j hi hj hij
    simp only [List.length_map, Array.length_toList] at hi hj
    have h1 := hs i j (Nat.zero_le _) hij (by omega)
    have hne : (d.toList.map (·.val))[i]'(by simpa using hi) ≠ (d.toList.map (·.val))[j]'(by simpa using hj) := by
      intro e
      have := (List.getElem_inj hnd).1 e
      omega
    simp only [List.getElem_map, Array.getElem_toList] at hne ⊢
    rw [getElem!_pos d i hi, getElem!_pos d j hj] at h1
    simp only [lxK, lxO, decide_eq_false_iff_not, decide_eq_true_eq] at h1 ⊢
    omega
  · rw [(hperm.map _).mem_iff, h0, mem_decd]
    exact ⟨fun h => h.2, fun h => ⟨decB_lt h, h⟩⟩

def OrdPost (os : List Opn) (w : World) (e : Ending) (w' : World) : Prop := ∃ v, e = .returned v ∧ NatsAt w' (fun k => w.heap.size ≤ k) v (ordL os) ∧ Ext w w'
theorem natsCells_one (l : List Nat) : ∀ u ∈ l.map natV, u.oneCell' = true := by
  intro u hu
  obtain ⟨i, _, rfl⟩ := List.mem_map.1 hu
  rfl
theorem OpsAt.mono {w : World} {S T : Nat → Prop} {v : Value} {l : List Opn} (h : OpsAt w S v l) (hST : ∀ k, S k → k < w.heap.size → T k) : OpsAt w T v l := ⟨Rd.mono h.1 hST, fun p hp => Rd.mono (h.2 p hp) hST⟩
theorem order_any {S : Nat → Prop} (v : Value) (os : List Opn) (w : World) (ho : OpsAt w S v os) (hn : os.length ≤ 1000000000000) :
    Calls Try.prog 14 #[v] w (OrdPost os w) := by
  obtain ⟨i0, hi0, hz0, hz1, hz2⟩ := info_parts info_int
  obtain ⟨A, C, rfl⟩ := ho.shape
  obtain ⟨n, hnn⟩ : ∃ n, os.length = n := ⟨_, rfl⟩
  have Hnn := Lib.hid hnn
  have Ho := Lib.hid (ho.mono (T := fun k => k < w.heap.size) fun k _ hk => hk)
  rw [hnn] at hn ⊢
  clear hnn ho
  go_enter Try.func14, Try.ntmps14
  go_wp2_with fail
  go_loopw [3, 8] (fun l o wr => ∃ i : Nat, i ≤ n ∧ o = .int .i64 (i : Int) ∧ wr.ownsRow (w.heap.size + 1) 3 1 l (decd os i).length ((decd os i).map natV) ∧ Ext w wr ∧ wr.cell? ⟨w.heap.size, 0, none⟩ = some (.slice A n C) ∧ w.heap.size < wr.heap.size) (fun _ o _ => n - (intOf o).toNat)
  case atStart => exact ⟨0, by omega, rfl, World.ownsRow_nil _ _ _ _, (Ext.refl w).alloc _, by go_simp, by simp⟩
  case round =>
    obtain ⟨i, hi, rfl, hrow, hx, hB, hBl⟩ := hrel
    by_cases hin : i < n
    · have hd : decide ((i : Int) < (n : Int)) = true := by simp; omega
      obtain ⟨o, hoi⟩ : ∃ o, os[i]? = some o := ⟨os[i]'(by rw [Hnn.out]; exact hin), by rw [List.getElem?_eq_getElem]⟩
      obtain ⟨g, p, c, hv, hc1, hc2, _, hA, hN⟩ := (Ho.out.ext hx).get hoi
      simp only [Value.slice.injEq] at hv
      obtain ⟨rfl, _, rfl⟩ := hv
      rw [Hnn.out] at hc1
      have hC : C ≤ 9223372036854775807 := by unfold maxLen at hc2; omega
      have HA := Lib.hid hA
      have hN2 := hN.shape
      obtain ⟨nA, nC, hnv⟩ := hN2
      have hone : o.nv.oneCell' = true := by rw [hnv]; rfl
      have hNew := op_new wr o
      have hNd := hNew.dec
      have hx1 : Ext w (wr.alloc (opO o)) := hx.alloc _
      have hrow1 := hrow.alloc (opO o)
      have hB1 : (wr.alloc (opO o)).cell? ⟨w.heap.size, 0, none⟩ = some (.slice (some ⟨g, p, none⟩) n C) := (((Ext.refl wr).alloc (opO o)).cell (p := ⟨w.heap.size, 0, none⟩) hBl).trans hB
      have hBl1 : w.heap.size < (wr.alloc (opO o)).heap.size := by simp; omega
      obtain ⟨la, lc, rfl⟩ := own_shape hrow
      have hlen := decd_len os i
      clear hN hnv hA
      by_cases hdec : o.dec = -1
      · have hdq : (o.dec != -1) = false := by simp [hdec]
        have Hnx := Lib.hid (show decd os (i + 1) = decd os i by rw [decd_next, if_neg (by simp [decB, decAt_of hoi, hdec])])
        have Hoi := Lib.hid hoi
        clear hoi hdec
        go_wp2_with (first | (refine wpList_loadOp HA.out rfl ?_) | (refine wpList_storeOp rfl rfl rfl hone ?_))
        go_roundw
        case rel => exact ⟨i + 1, by omega, by go_num, by rw [Hnx.out]; exact hrow1, hx1, hB1, hBl1⟩
        case measure => simp [intOf]; omega
      · have hdq : (o.dec != -1) = true := by simp [hdec]
        have Hnx := Lib.hid (show decd os (i + 1) = decd os i ++ [i] by rw [decd_next, if_pos (by simp [decB, decAt_of hoi, hdec])])
        have Hoi := Lib.hid hoi
        clear hoi hdec
        go_wp2_with (first | (refine wpList_loadOp HA.out rfl ?_) | (refine wpList_storeOp rfl rfl rfl hone ?_) | (at_builtin; refine wpList_append_own _ rfl _ _ 33 rfl (w.heap.size + 1) 3 i0 _ 1 8 und_ints hi0 hz0 hz1 hz2 rfl (by decide) _ _ _ rfl (hrow1.alloc _) ⟨wr.heap.size + 1, 0, none⟩ 1 1 [natV i] rfl rfl ?c1 ?c2 ?c3 ?c4 ?c5 ?_; rotate_left 5; intro v' w3 hown' hg3 hnil3; go_frame))
        go_roundw
        case rel =>
          refine ⟨i + 1, by omega, by go_num, ?_, (hx1.alloc _).grown hg3 (fun k hk => by have := (hrow1.lt k hk).1; omega), ?_, ?_⟩
          · rw [Hnx.out]
            simpa [natV] using hown'
          · have hne : ∀ k, (Value.slice la (decd os i).length lc).ownBlock = some k → w.heap.size ≠ k := fun k hk => by have := (hrow1.lt k hk).1; omega
            rw [World.cell?_of_block (a := ⟨w.heap.size, 0, none⟩) (hg3.block w.heap.size (by simp; omega) (fun e => hne _ e.symm rfl))]
            exact (((Ext.refl (wr.alloc (opO o))).alloc _).cell (p := ⟨w.heap.size, 0, none⟩) hBl1).trans hB1
          · have := hg3.size
            simp at this; omega
        case measure => simp [intOf]; omega
        case c1 =>
          intro j u hj
          have := cell_one_new (wr.alloc (opO o)) (natV i) 3 j u hj
          rw [show (wr.alloc (opO o)).heap.size = wr.heap.size + 1 by simp] at this
          exact this
        case c2 => simp [Value.oneCell', natV]
        case c3 => unfold maxLen; omega
        case c4 => omega
        case c5 => simp; omega
    · have hd : decide ((i : Int) < (n : Int)) = false := by simp; omega
      obtain rfl : i = n := by omega
      obtain ⟨la, lc, rfl⟩ := own_shape hrow
      have hlen := decd_len os i
      by_cases h0 : (decd os i).length = 0
      · have h1 : ordL os = [] := by
          have := ordL_is os
          have hm : ∀ j, j ∉ ordL os := fun j hj => by
            have h2 := (this.mem j).1 hj
            have h3 : j ∈ decd os i := mem_decd.2 ⟨by rw [← Hnn.out]; exact decB_lt h2, h2⟩
            rw [List.eq_nil_of_length_eq_zero h0] at h3
            simp at h3
          exact List.eq_nil_iff_forall_not_mem.2 hm
        have H1 := Lib.hid h1
        have Hrow := Lib.hid (Rd.of_own (S := fun k => w.heap.size ≤ k) hrow fun k hk => by have := (hrow.lt k hk).1; omega)
        have H0 := Lib.hid h0
        rw [h0]
        clear h0 h1 hrow
        go_wp2_with (go_at_call 23; refine (sort_none _ _ _ _).mono ?_; rintro e w' ⟨rfl, rfl⟩)
        go_ret
        refine ⟨_, rfl, ?_, hx⟩
        have hr := Hrow.out
        rw [H0.out, List.eq_nil_of_length_eq_zero H0.out] at hr
        unfold NatsAt
        rw [H1.out]
        exact hr
      · -- the row
        obtain ⟨m, hm⟩ : ∃ m, (decd os i).length = m := ⟨_, rfl⟩
        have hiN : 0 < i := by omega
        haveI : Inhabited (Fin i) := ⟨⟨0, hiN⟩⟩
        have hlt : ∀ j ∈ decd os i, j < i := fun j hj => (mem_decd.1 hj).1
        obtain ⟨d0, hd0⟩ : ∃ d0 : Array (Fin i), d0.toList.map (·.val) = decd os i := by
          refine ⟨((decd os i).attach.map fun x => (⟨x.1, hlt x.1 x.2⟩ : Fin i)).toArray, ?_⟩
          rw [List.toList_toArray, List.map_map]
          exact List.attach_map_subtype_val _
        have hsz : d0.size = m := by rw [← hm, ← hd0]; simp
        rcases hrow.2 with ⟨hv, hz⟩ | ⟨g, cap, cur, hv, hbase, hb, hnc, hcm, hcs, htk⟩
        · exact absurd hz h0
        simp only [Value.slice.injEq] at hv
        obtain ⟨rfl, _, rfl⟩ := hv
        have hcell : ∀ j, j < d0.size → wr.cell? ⟨g, 0 + j, none⟩ = some (encF d0[j]!) ∧ wr.frozen? ⟨g, 0 + j, none⟩ = false := by
          intro j hj
          have e1 : cur[j]? = some (encF d0[j]!) := by
            have h1 : (cur.toList.take ((decd os i).length * 1))[j]? = some (encF d0[j]!) := by
              rw [htk, List.getElem?_map, ← hd0, List.getElem?_map, Array.getElem?_toList, getElem!_pos d0 j hj, Array.getElem?_eq_getElem hj]
              rfl
            rw [List.getElem?_take, if_pos (by omega)] at h1
            simpa using h1
          rw [Nat.zero_add]
          exact ⟨(cell_of_row wr g j cur _ _ hb).trans e1, by simp [World.frozen?, hb]⟩
        have R : Row1 encF wr g 0 d0 := ⟨encF_one, hcell, (Array.getElem?_eq_some_iff.1 hb).1⟩
        have hBne : w.heap.size ≠ g := by omega
        have ho2 := Ho.out.ext hx
        have hcmp : CmpLays1 Try.prog 24 #[.pointer (some ⟨w.heap.size, 0, none⟩)] encF (cfK fun j : Fin i => decAt os j.val) g 0 m wr := by
          intro q obs dk hdk x y
          have hc := sw_chg (enc := encF) (w0 := wr) (blk := g) (off := 0) (d := dk) (W := sortWorld encF wr g 0 q dk obs) ⟨q, obs, rfl⟩
          obtain ⟨a, ha⟩ : ∃ a, os[x.val]? = some a := ⟨os[x.val]'(by rw [Hnn.out]; exact x.isLt), List.getElem?_eq_getElem _⟩
          obtain ⟨b, hb⟩ : ∃ a, os[y.val]? = some a := ⟨os[y.val]'(by rw [Hnn.out]; exact y.isLt), List.getElem?_eq_getElem _⟩
          have ho3 := ho2.chg hc (fun k hk e => by omega)
          have hB3 := (hc.cell (p := ⟨w.heap.size, 0, none⟩) hBl hBne).trans hB
          have hB4 : ∀ N, os.length = N → (sortWorld encF wr g 0 q dk obs).cell? ⟨w.heap.size, 0, none⟩ = some (.slice A N C) → (sortWorld encF wr g 0 q dk obs).cell? ⟨w.heap.size, 0, none⟩ = some (.slice A os.length C) := fun N e h => by rw [e]; exact h
          have := closure_any w.heap.size x.val y.val A C os a b _ (hB4 _ Hnn.out hB3) ho3 ha hb
          refine Calls.mono this ?_
          rintro e w' ⟨rfl, q', os', hw'⟩
          refine ⟨?_, q', os', hw'⟩
          rw [← decAt_of ha, ← decAt_of hb]
          rfl
        have hso := sort_stable_any encF (fun j : Fin i => decAt os j.val) (fun j : Fin i => j.val) m g 0 lc #[.pointer (some ⟨w.heap.size, 0, none⟩)] d0 wr hcmp R hsz (by omega) (fun p q hpq hq => by
          have hl := decd_asc os i
          rw [← hd0, List.pairwise_map] at hl
          have := List.pairwise_iff_getElem.1 hl p q (by simp; omega) (by simp; omega) hpq
          rw [getElem!_pos d0 p (by omega), getElem!_pos d0 q (by omega)]
          simpa using this)
        have HS := Lib.hid hso
        have Hd0 := Lib.hid hd0
        have Hm := Lib.hid hm
        have HC := Lib.hid hcell
        have HR := Lib.hid R
        rw [hm]
        clear hso hd0 hm hcell R hcmp hrow hb htk hlt
        go_wp2_with fail
        refine Calls.mono HS.out ?_
        rintro e w5 ⟨rfl, d, hSW, hds, hM⟩
        have hres := sorted_is (os := os) (by rw [Hd0.out, Hnn.out]) hsz hM
        have hch := sw_chg hSW
        have hx5 : Ext w w5 := hx.chg_new hch (fun k hk => by omega)
        have hh := hSW.holds HR.out.hblk HC.out (by omega)
        have Hres := Lib.hid hres
        have Hx5 := Lib.hid hx5
        have Hh := Lib.hid hh
        have hsz5 := hch.size
        clear hres hx5 hh hch hSW hM
        go_wp2_with fail
        go_ret
        refine ⟨_, rfl, ?_, Hx5.out⟩
        unfold NatsAt
        have hL : (ordL os).length = m := by rw [← Hres.out]; simp [hds]
        rw [hL]
        refine ⟨by simp [hL], _, _, rfl, by rw [← Hm.out]; exact hnc, hcm, fun _ => ⟨g, 0, rfl, by omega, Nat.lt_of_lt_of_le HR.out.hblk hsz5, fun j u hu => ?_⟩⟩
        have hj : j < d.size := by
          have := (List.getElem?_eq_some_iff.1 hu).1
          simp at this; omega
        have := (Hh.out j hj).1
        rw [this, ← hu, ← Hres.out, List.map_map, List.getElem?_map, Array.getElem?_toList, Array.getElem?_eq_getElem hj, getElem!_pos d j hj]
        rfl
end Go.Proofs.Ythenclenabcmgaa
