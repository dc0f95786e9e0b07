/-
  law32's awake.
  Conditions: none.
-/
import Derived.Test.YthenclenabcmgaaEx32
namespace Go.Proofs.Ythenclenabcmgaa
open Go.RowKit Go.Sort
set_option maxHeartbeats 8000000
set_option maxRecDepth 100000

theorem example_ops (w : World) : Calls Try.prog 4 #[] w fun e w' => ∃ v nv, e = .returned v ∧ OpsAt w' (fun k => w.heap.size ≤ k) v (exL nv) ∧ Ext w w' := by
  refine (example_any w).mono ?_
  rintro e w' ⟨rfl, rfl⟩
  exact ⟨_, _, rfl, ex_ops w, ((Ext.refl w).alloc _).alloc _⟩
theorem nats_new (w : World) (t : TypeId) : NatsAt (w.alloc (.cells #[.int .i64 1, .int .i64 0] t)) (fun _ => True) (.slice (some ⟨w.heap.size, 0, none⟩) 2 2) [1, 0] := by
  have h1 : (w.alloc (.cells #[.int .i64 1, .int .i64 0] t)).heap[w.heap.size]? = some (.cells #[.int .i64 1, .int .i64 0] t) := heap_alloc_new w _
  refine ⟨rfl, _, _, rfl, Nat.le_refl _, by unfold maxLen; omega, fun _ => ⟨w.heap.size, 0, rfl, trivial, (Array.getElem?_eq_some_iff.1 h1).1, fun j u hu => ?_⟩⟩
  simp only [World.cell?, h1]
  rw [Nat.zero_add, ← hu]
  simp [natV]
theorem awake32_any (w : World) : Calls Try.prog 7 #[] w fun e w' => e = .returned (.bool true) ∧ Ext w w' := by
  go_enter Try.func7, Try.ntmps7
  go_wp2_with fail
  go_upto_region 2 with fail
  refine wp_region_held_drew (S := fun w' => w'.cell? ⟨w.heap.size, 0, none⟩ = some (.int .i64 2) ∧ w'.cell? ⟨w.heap.size, 1, none⟩ = some (.int .i64 1)) (by kernel_rfl) ?_ (fun hHeld => ?_)
  · exact ⟨by go_simp, by go_simp⟩
  refine wpAnyH_take (i := 0) (oi := _) (v := ?_) rfl (by kernel_rfl) (by kernel_rfl) (by kernel_rfl) (fun _ _ _ h => h) (Or.inl ⟨by rfl, ?_⟩) (by assumption) ?_; rotate_left; (focus ((intro w hSw; (try dsimp only at hSw); go_simp); (first | done | (with_reducible rfl)))); (try simp only [Act.put]); (try simp only [List.setIfInBounds_toArray])
  refine wpAnyH_ready (rs := [1]) (by kernel_rfl) (by simp) ?_; refine AllReadyH.cons (o := _) rfl (fun K hK => ?_) AllReadyH.nil; go_simp
  have c0 : (w.alloc (.cells #[.int .i64 2, .int .i64 1] 37)).drew.cell? ⟨w.heap.size, 0, none⟩ = some (.int .i64 2) := by go_simp
  have c1 : (w.alloc (.cells #[.int .i64 2, .int .i64 1] 37)).drew.cell? ⟨w.heap.size, 1, none⟩ = some (.int .i64 1) := by go_simp
  have hb : w.heap.size < (w.alloc (.cells #[.int .i64 2, .int .i64 1] 37)).drew.heap.size := by simp [World.drew]
  have X0 : Ext w (w.alloc (.cells #[.int .i64 2, .int .i64 1] 37)).drew := ((Ext.refl w).alloc _).drew
  refine (example_ops _).mono ?_
  rintro x w2 ⟨v2, nv2, rfl, ho2, hx2⟩
  replace c0 := (hx2.cell (p := ⟨w.heap.size, 0, none⟩) hb).trans c0
  replace c1 := (hx2.cell (p := ⟨w.heap.size, 1, none⟩) hb).trans c1
  replace hb := Nat.lt_of_lt_of_le hb hx2.size
  have Ho2 := Lib.hid ho2
  have X2 := Lib.hid (X0.trans hx2)
  clear ho2 hx2 X0
  go_simp
  refine hK.out _ _ ⟨c0, c1⟩ (fun hHeld => ?_)
  clear hK K
  try simp only [Act.put, List.setIfInBounds_toArray, List.set_cons_zero, List.set_cons_succ]
  refine wpAnyH_ready (rs := [2]) (by kernel_rfl) (by simp) ?_; refine AllReadyH.cons (o := _) rfl (fun K hK => ?_) AllReadyH.nil; go_simp
  refine (search_any 2 1 50 _ _ _ Ho2.out (ex_fits nv2).1 (ex_fits nv2).2).mono ?_
  rintro x w3 ⟨v3, rfl, hn3, hx3⟩
  rw [srch_ex] at hn3 ⊢
  replace c0 := (hx3.cell (p := ⟨w.heap.size, 0, none⟩) hb).trans c0
  replace c1 := (hx3.cell (p := ⟨w.heap.size, 1, none⟩) hb).trans c1
  replace hb := Nat.lt_of_lt_of_le hb hx3.size
  have Hn3 := Lib.hid hn3
  have X3 := Lib.hid (X2.out.trans hx3)
  clear hn3 hx3
  go_simp
  refine hK.out _ _ ⟨c0, c1⟩ (fun hHeld => ?_)
  clear hK K
  try simp only [Act.put, List.setIfInBounds_toArray, List.set_cons_zero, List.set_cons_succ]
  refine wpAnyH_take (i := 3) (oi := _) (v := ?_) rfl (by kernel_rfl) (by kernel_rfl) (by kernel_rfl) (fun _ _ _ h => h) (Or.inl ⟨by rfl, ?_⟩) (by assumption) ?_; rotate_left; (focus ((intro w hSw; (try dsimp only at hSw); go_simp); (first | done | (with_reducible rfl)))); (try simp only [Act.put]); (try simp only [List.setIfInBounds_toArray])
  refine wpAnyH_take (i := 4) (oi := _) (v := ?_) rfl (by kernel_rfl) (by kernel_rfl) (by kernel_rfl) (fun _ _ _ h => h) (Or.inl ⟨by rfl, ?_⟩) (by assumption) ?_; rotate_left; (focus ((intro w hSw; (try dsimp only at hSw); go_simp); (first | done | (with_reducible rfl)))); (try simp only [Act.put]); (try simp only [List.setIfInBounds_toArray])
  refine wpAnyH_take (i := 5) (oi := _) (v := ?_) rfl (by kernel_rfl) (by kernel_rfl) (by kernel_rfl) (fun _ _ _ h => h) (Or.inl ⟨by rfl, ?_⟩) (by assumption) ?_; rotate_left; (focus ((intro w hSw; (try dsimp only at hSw); go_simp); (first | done | (with_reducible rfl)))); (try simp only [Act.put]); (try simp only [List.setIfInBounds_toArray])
  refine wpAnyH_take (i := 6) (oi := _) (v := ?_) rfl (by kernel_rfl) (by kernel_rfl) (by kernel_rfl) (fun _ _ _ h => h) (Or.inl ⟨by rfl, ?_⟩) (by assumption) ?_; rotate_left; (focus ((intro w hSw; (try dsimp only at hSw); go_simp); (first | done | (with_reducible rfl)))); (try simp only [Act.put]); (try simp only [List.setIfInBounds_toArray])
  refine wpAnyH_take (i := 7) (oi := _) (v := ?_) rfl (by kernel_rfl) (by kernel_rfl) (by kernel_rfl) (fun _ _ _ h => h) (Or.inl ⟨by rfl, ?_⟩) (by assumption) ?_; rotate_left; (focus ((intro w hSw; (try dsimp only at hSw); go_simp); (first | done | (with_reducible rfl)))); (try simp only [Act.put]); (try simp only [List.setIfInBounds_toArray])
  refine wpAnyH_take (i := 8) (oi := _) (v := ?_) rfl (by kernel_rfl) (by kernel_rfl) (by kernel_rfl) (fun _ _ _ h => h) (Or.inl ⟨by rfl, ?_⟩) (by assumption) ?_; rotate_left; (focus ((intro w hSw; (try dsimp only at hSw); go_simp); (first | done | (with_reducible rfl)))); (try simp only [Act.put]); (try simp only [List.setIfInBounds_toArray])
  refine wpAnyH_take (i := 9) (oi := _) (v := ?_) rfl (by kernel_rfl) (by kernel_rfl) (by kernel_rfl) (fun _ _ _ h => h) (Or.inl ⟨by rfl, ?_⟩) (by assumption) ?_; rotate_left; (focus ((intro w hSw; (try dsimp only at hSw); go_simp); (first | done | (with_reducible rfl)))); (try simp only [Act.put]); (try simp only [List.setIfInBounds_toArray])
  refine wpAnyH_done (by kernel_rfl) ?_ _
  go_simp
  clear hHeld
  go_upto_region 3 with fail
  refine wp_region_held_drew (S := fun w' => w'.cell? ⟨w.heap.size, 0, none⟩ = some (.int .i64 2) ∧ w'.cell? ⟨w.heap.size, 1, none⟩ = some (.int .i64 1)) (by kernel_rfl) ?_ (fun hHeld => ?_)
  · exact ⟨by go_simp, by go_simp⟩
  refine wpAnyH_take (i := 0) (oi := _) (v := ?_) rfl (by kernel_rfl) (by kernel_rfl) (by kernel_rfl) (fun _ _ _ h => h) (Or.inl ⟨by rfl, ?_⟩) (by assumption) ?_; rotate_left; (focus ((intro w hSw; (try dsimp only at hSw); go_simp); (first | done | (with_reducible rfl)))); (try simp only [Act.put]); (try simp only [List.setIfInBounds_toArray])
  refine wpAnyH_ready (rs := [1]) (by kernel_rfl) (by simp) ?_; refine AllReadyH.cons (o := _) rfl (fun K hK => ?_) AllReadyH.nil; go_simp
  refine (example_ops _).mono ?_
  rintro x w4 ⟨v4, nv4, rfl, ho4, hx4⟩
  replace c0 := (hx4.cell (p := ⟨w.heap.size, 0, none⟩) hb).trans c0
  replace c1 := (hx4.cell (p := ⟨w.heap.size, 1, none⟩) hb).trans c1
  replace hb := Nat.lt_of_lt_of_le hb hx4.size
  have Ho4 := Lib.hid ho4
  have Hn4 := Lib.hid (Hn3.out.ext (Ext.trans (Ext.refl w3).drew hx4))
  have X4 := Lib.hid (X3.out.trans (Ext.trans (Ext.refl w3).drew hx4))
  clear ho4 hx4
  go_simp
  refine hK.out _ _ ⟨c0, c1⟩ (fun hHeld => ?_)
  clear hK K
  try simp only [Act.put, List.setIfInBounds_toArray, List.set_cons_zero, List.set_cons_succ]
  refine wpAnyH_ready (rs := [2]) (by kernel_rfl) (by simp) ?_; refine AllReadyH.cons (o := _) rfl (fun K hK => ?_) AllReadyH.nil; go_simp
  refine (replay_any 2 1 _ _ _ Ho4.out (ex_fits nv4).1 (ex_fits nv4).2).mono ?_
  rintro x w5 ⟨rfl, hx5⟩
  rw [repl_ex]
  replace c0 := (hx5.cell (p := ⟨w.heap.size, 0, none⟩) hb).trans c0
  replace c1 := (hx5.cell (p := ⟨w.heap.size, 1, none⟩) hb).trans c1
  have Hn5 := Lib.hid (Hn4.out.ext hx5)
  have X5 := Lib.hid (X4.out.trans hx5)
  clear hx5
  go_simp
  refine hK.out _ _ ⟨c0, c1⟩ (fun hHeld => ?_)
  clear hK K
  try simp only [Act.put, List.setIfInBounds_toArray, List.set_cons_zero, List.set_cons_succ]
  refine wpAnyH_take (i := 3) (oi := _) (v := ?_) rfl (by kernel_rfl) (by kernel_rfl) (by kernel_rfl) (fun _ _ _ h => h) (Or.inl ⟨by rfl, ?_⟩) (by assumption) ?_; rotate_left; (focus ((intro w hSw; (try dsimp only at hSw); go_simp); (first | done | (with_reducible rfl)))); (try simp only [Act.put]); (try simp only [List.setIfInBounds_toArray])
  refine wpAnyH_take (i := 4) (oi := _) (v := ?_) rfl (by kernel_rfl) (by kernel_rfl) (by kernel_rfl) (fun _ _ _ h => h) (Or.inl ⟨by rfl, ?_⟩) (by assumption) ?_; rotate_left; (focus ((intro w hSw; (try dsimp only at hSw); go_simp); (first | done | (with_reducible rfl)))); (try simp only [Act.put]); (try simp only [List.setIfInBounds_toArray])
  refine wpAnyH_take (i := 5) (oi := _) (v := ?_) rfl (by kernel_rfl) (by kernel_rfl) (by kernel_rfl) (fun _ _ _ h => h) (Or.inl ⟨by rfl, ?_⟩) (by assumption) ?_; rotate_left; (focus ((intro w hSw; (try dsimp only at hSw); go_simp); (first | done | (with_reducible rfl)))); (try simp only [Act.put]); (try simp only [List.setIfInBounds_toArray])
  refine wpAnyH_take (i := 6) (oi := _) (v := ?_) rfl (by kernel_rfl) (by kernel_rfl) (by kernel_rfl) (fun _ _ _ h => h) (Or.inl ⟨by rfl, ?_⟩) (by assumption) ?_; rotate_left; (focus ((intro w hSw; (try dsimp only at hSw); go_simp); (first | done | (with_reducible rfl)))); (try simp only [Act.put]); (try simp only [List.setIfInBounds_toArray])
  refine wpAnyH_take (i := 7) (oi := _) (v := ?_) rfl (by kernel_rfl) (by kernel_rfl) (by kernel_rfl) (fun _ _ _ h => h) (Or.inl ⟨by rfl, ?_⟩) (by assumption) ?_; rotate_left; (focus ((intro w hSw; (try dsimp only at hSw); go_simp); (first | done | (with_reducible rfl)))); (try simp only [Act.put]); (try simp only [List.setIfInBounds_toArray])
  refine wpAnyH_done (by kernel_rfl) ?_ _
  go_simp
  clear hHeld c0 c1
  go_wp2_with fail
  refine (same_nat v3 _ [1, 0] _ _ _ (Hn5.out.ext ((Ext.refl _).alloc _)) (nats_new _ _) (by simp)).mono ?_
  rintro x w6 ⟨rfl, hx6⟩
  have X6 := Lib.hid (X5.out.trans (((Ext.refl w5).alloc _).trans hx6))
  clear hx6
  go_wp2_with fail
  refine (example_ops _).mono ?_
  rintro x w7 ⟨v7, nv7, rfl, ho7, hx7⟩
  have Ho7 := Lib.hid ho7
  have X7 := Lib.hid (X6.out.trans hx7)
  clear ho7 hx7
  go_wp2_with fail
  refine (order_any _ _ _ Ho7.out (by simp [exL])).mono ?_
  rintro x w8 ⟨v8, rfl, hn8, hx8⟩
  rw [ord_ex] at hn8
  have Hn8 := Lib.hid hn8
  have X8 := Lib.hid (X7.out.trans hx8)
  clear hn8 hx8
  go_wp2_with fail
  refine (same_nat v8 _ [1, 0] _ _ _ (Hn8.out.ext ((Ext.refl _).alloc _)) (nats_new _ _) (by simp)).mono ?_
  rintro x w9 ⟨rfl, hx9⟩
  have X9 := Lib.hid (X8.out.trans (((Ext.refl w8).alloc _).trans hx9))
  clear hx9
  go_wp2_with fail
  go_ret
  exact ⟨rfl, X9.out⟩
end Go.Proofs.Ythenclenabcmgaa
