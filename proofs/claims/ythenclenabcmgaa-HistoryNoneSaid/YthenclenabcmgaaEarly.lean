/-
  Whether an operation that is not in the order precedes another one: the program's early (32.5).
  Conditions: as named.
-/
import Derived.Test.YthenclenabcmgaaExpl
namespace Go.Proofs.Ythenclenabcmgaa
open Go.RowKit Go.Sort
set_option maxHeartbeats 8000000
set_option maxRecDepth 100000

/-- The operation i cannot come next: one that is not in the order precedes it. -/
def earlyB (os : List Opn) (ord : List Nat) (i : Nat) : Bool := (List.range os.length).any fun j => !(ord.contains j) && j != i && (match os[j]?, os[i]? with | some a, some b => precB a b | _, _ => false)
theorem early_true {os : List Opn} {ord : List Nat} {i j : Nat} {a b : Opn} (ha : os[j]? = some a) (hb : os[i]? = some b) (hj : ord.contains j = false) (hne : j ≠ i) (hp : precB a b = true) : earlyB os ord i = true := by
  unfold earlyB
  rw [List.any_eq_true]
  refine ⟨j, List.mem_range.2 (List.getElem?_eq_some_iff.1 ha).1, ?_⟩
  rw [ha, hb]
  have h1 : (j != i) = true := by simpa using hne
  simp only [hj, h1, hp, Bool.not_false, Bool.and_self]
theorem early_false {os : List Opn} {ord : List Nat} {i : Nat} (h : ∀ j, j < os.length → ¬ (ord.contains j = false ∧ j ≠ i ∧ ∃ a b, os[j]? = some a ∧ os[i]? = some b ∧ precB a b = true)) : earlyB os ord i = false := by
  cases he : earlyB os ord i with
  | false => rfl
  | true =>
    unfold earlyB at he
    rw [List.any_eq_true] at he
    obtain ⟨j, hj, hp⟩ := he
    simp only [Bool.and_eq_true, Bool.not_eq_true', bne_iff_ne, ne_eq] at hp
    cases ha : os[j]? with
    | none => rw [ha] at hp; simp at hp
    | some a =>
      cases hb : os[i]? with
      | none => rw [ha, hb] at hp; simp at hp
      | some b =>
        rw [ha, hb] at hp
        exact absurd ⟨hp.1.1, hp.1.2, a, b, ha, hb, hp.2⟩ (h j (List.mem_range.1 hj))
theorem yields_op {ops : Array Oper} {S : World → Prop} {op : Oper} {a : Act} (hw : Region.wanted op (yielded ops a.tmps) = true) {x : Operand} (ho : op.op = .load 31 x) (b p : Nat) (hx : a.eval x = .pointer (some ⟨b, p, none⟩)) (o : Opn) (hS : ∀ w, S w → w.rangeAt b p (opC o)) : YieldsIf Try.prog ops S op (opV o) a := by
  have hu := und_op
  rw [Option.map_eq_some_iff] at hu
  obtain ⟨d, hu, hd⟩ := hu
  exact yieldsIf_load_mid hw _ x ho b p hx (opC o) d hS hu hd (by rw [info_op]; rfl)
/-- The marks of the operations that are in the order. -/
def InAt (w : World) (ib n : Nat) (ord : List Nat) : Prop := ib < w.heap.size ∧ ∀ j, j < n → w.cell? ⟨ib, j, none⟩ = some (.bool (ord.contains j))
theorem InAt.ext {w w' : World} {ib n : Nat} {ord : List Nat} (h : InAt w ib n ord) (x : Ext w w') : InAt w' ib n ord := ⟨Nat.lt_of_lt_of_le h.1 x.size, fun j hj => (x.cell (p := ⟨ib, j, none⟩) h.1).trans (h.2 j hj)⟩
theorem early_any {S : Nat → Prop} (sb ib : Nat) (vo : Value) (os : List Opn) (ord : List Nat) (i ic : Nat) (w : World) (c2 : w.cell? ⟨sb, 2, none⟩ = some vo) (c5 : w.cell? ⟨sb, 5, none⟩ = some (.slice (some ⟨ib, 0, none⟩) os.length ic))
    (ho : OpsAt w S vo os) (hin : InAt w ib os.length ord) (hi : i < os.length) (hlen : os.length ≤ 4096) (_hic : os.length ≤ ic) (_hic2 : ic ≤ maxLen) :
    Calls Try.prog 18 #[.pointer (some ⟨sb, 0, none⟩), .int .i64 i] w fun e w' => e = .returned (.bool (earlyB os ord i)) ∧ Ext w w' := by
  obtain ⟨A, C, rfl⟩ := ho.shape
  have hsb := lt_of_cell c2
  obtain ⟨ob, hob⟩ : ∃ o, os[i]? = some o := ⟨os[i], List.getElem?_eq_getElem hi⟩
  obtain ⟨n, hnn⟩ : ∃ n, os.length = n := ⟨_, rfl⟩
  have Hnn := Lib.hid hnn
  have Ho := Lib.hid ho
  have Hin := Lib.hid hin
  obtain ⟨g, p, c, hv, hc1, hc2, _, _, _⟩ := ho.get hob
  simp only [Value.slice.injEq] at hv
  obtain ⟨rfl, -, rfl⟩ := hv
  have Hob := Lib.hid hob
  rw [hnn] at c2 c5 hi hlen _hic hc1
  clear hnn ho hin hob
  go_enter Try.func18, Try.ntmps18
  go_wp2_with fail
  go_loopw [11] (fun o wr => ∃ j : Nat, j ≤ n ∧ o = .int .i64 (j : Int) ∧ Ext w wr ∧ ∀ k, k < j → ¬ (ord.contains k = false ∧ k ≠ i ∧ ∃ a b, os[k]? = some a ∧ os[i]? = some b ∧ precB a b = true)) (fun o _ => n - (intOf o).toNat)
  case atStart => exact ⟨0, by omega, rfl, Ext.refl _, fun k hk => by omega⟩
  case round =>
    obtain ⟨j, hj, rfl, hx, hno⟩ := hrel
    have Hno := Lib.hid hno
    have Hx := Lib.hid hx
    clear hno hx
    by_cases hjn : j < n
    · have hd : decide ((j : Int) < (n : Int)) = true := by simp; omega
      obtain ⟨oa, hoa⟩ : ∃ o, os[j]? = some o := ⟨os[j]'(by rw [Hnn.out]; exact hjn), List.getElem?_eq_getElem _⟩
      have k2 := (Hx.out.cell (p := ⟨sb, 2, none⟩) hsb).trans c2
      have k5 := (Hx.out.cell (p := ⟨sb, 5, none⟩) hsb).trans c5
      have hinw := Hin.out.ext Hx.out
      have kin := hinw.2 j (by rw [Hnn.out]; exact hjn)
      have q1 : (0 : Int) ≤ (j : Int) := by omega
      have q2 : (j : Int) < (n : Int) := by omega
      have Hoa := Lib.hid hoa
      clear hoa
      cases hc : ord.contains j with
      | true =>
        rw [hc] at kin
        go_wp2_with fail
        go_region
        go_wp2_with fail
        go_roundw
        case rel => exact ⟨j + 1, by omega, by go_num, Hx.out.drew, fun k hk => by
          by_cases e : k = j
          · subst e; rw [hc]; simp
          · exact Hno.out k (by omega)⟩
        case measure => simp [intOf]; omega
      | false =>
        rw [hc] at kin
        by_cases hji : j = i
        · have hne : ((j : Int) != (i : Int)) = false := by simp; omega
          have Hji := Lib.hid hji
          clear hji
          go_wp2_with fail
          go_region
          go_wp2_with fail
          go_roundw
          case rel => exact ⟨j + 1, by omega, by go_num, Hx.out.drew, fun k hk => by
            by_cases e : k = j
            · subst e; exact fun h => h.2.1 Hji.out
            · exact Hno.out k (by omega)⟩
          case measure => simp [intOf]; omega
        · have hne : ((j : Int) != (i : Int)) = true := by simp; omega
          obtain ⟨g', p', c', hv', _, _, _, hA, _⟩ := (Ho.out.ext Hx.out).get Hoa.out
          obtain ⟨g2, p2, c2', hv2, _, _, _, hB, _⟩ := (Ho.out.ext Hx.out).get Hob.out
          simp only [Value.slice.injEq, Option.some.injEq, Addr.mk.injEq, and_true, true_and] at hv' hv2
          obtain ⟨⟨rfl, rfl⟩, -⟩ := hv'
          obtain ⟨⟨rfl, rfl⟩, -⟩ := hv2
          have kA := hA.range
          have kB := hB.range
          have hgl := hA.1
          have hsl := Nat.lt_of_lt_of_le hsb Hx.out.size
          have hil := hinw.1
          have q3 : (0 : Int) ≤ (i : Int) := by omega
          have q4 : (i : Int) < (n : Int) := by omega
          clear hA hB hinw
          go_upto_region 4 with fail
          refine wp_region_held_drew (S := fun w' => w'.cell? ⟨sb, 5, none⟩ = some (.slice (some ⟨ib, 0, none⟩) n ic) ∧ w'.cell? ⟨ib, j, none⟩ = some (.bool false) ∧ w'.cell? ⟨sb, 2, none⟩ = some (.slice (some ⟨g, p, none⟩) n C) ∧ w'.rangeAt g (p + j * 23) (opC oa) ∧ w'.rangeAt g (p + i * 23) (opC ob)) (by kernel_rfl) ⟨k5, kin, k2, kA, kB⟩ (fun hHeld => ?_)
          refine wpAnyH_take (i := 0) (oi := _) (v := ?_) rfl (by kernel_rfl) (by kernel_rfl) (by kernel_rfl) (fun _ _ _ h => h) (Or.inl ⟨by rfl, ?_⟩) (by assumption) ?_; rotate_left; (focus ((intro w hSw; (try dsimp only at hSw); go_simp); (first | done | (with_reducible rfl)))); (try simp only [Act.put]); (try simp only [List.setIfInBounds_toArray])
          refine wpAnyH_take (i := 1) (oi := _) (v := ?_) rfl (by kernel_rfl) (by kernel_rfl) (by kernel_rfl) (fun _ _ _ h => h) (Or.inl ⟨by rfl, ?_⟩) (by assumption) ?_; rotate_left; (focus ((intro w hSw; (try dsimp only at hSw); go_simp); (first | done | (with_reducible rfl)))); (try simp only [Act.put]); (try simp only [List.setIfInBounds_toArray])
          refine wpAnyH_take (i := 2) (oi := _) (v := ?_) rfl (by kernel_rfl) (by kernel_rfl) (by kernel_rfl) (fun _ _ _ h => h) (Or.inl ⟨by rfl, ?_⟩) (by assumption) ?_; rotate_left; (focus ((intro w hSw; (try dsimp only at hSw); go_simp); (first | done | (with_reducible rfl)))); (try simp only [Act.put]); (try simp only [List.setIfInBounds_toArray])
          refine wpAnyH_take (i := 3) (oi := _) (v := ?_) rfl (by kernel_rfl) (by kernel_rfl) (by kernel_rfl) (fun _ _ _ h => h) (Or.inl ⟨by rfl, ?_⟩) (by assumption) ?_; rotate_left; (focus ((intro w hSw; (try dsimp only at hSw); go_simp); (first | done | (with_reducible rfl)))); (try simp only [Act.put]); (try simp only [List.setIfInBounds_toArray])
          refine wpAnyH_take (i := 4) (oi := _) (v := ?_) rfl (by kernel_rfl) (by kernel_rfl) (by kernel_rfl) (fun _ _ _ h => h) (Or.inl ⟨by rfl, ?_⟩) (by assumption) ?_; rotate_left; (focus ((intro w hSw; (try dsimp only at hSw); go_simp); (first | done | (with_reducible rfl)))); (try simp only [Act.put]); (try simp only [List.setIfInBounds_toArray])
          refine wpAnyH_take (i := 5) (oi := _) (v := ?_) rfl (by kernel_rfl) (by kernel_rfl) (by kernel_rfl) (fun _ _ _ h => h) (Or.inl ⟨by rfl, ?_⟩) (by assumption) ?_; rotate_left; (focus ((intro w hSw; (try dsimp only at hSw); go_simp); (first | done | (with_reducible rfl)))); (try simp only [Act.put]); (try simp only [List.setIfInBounds_toArray])
          refine wpAnyH_take (i := 6) (oi := _) (v := ?_) rfl (by kernel_rfl) (by kernel_rfl) (by kernel_rfl) (fun _ _ _ h => h) (Or.inl ⟨by rfl, ?_⟩) (by assumption) ?_; rotate_left; (focus ((intro w hSw; (try dsimp only at hSw); go_simp); (first | done | (with_reducible rfl)))); (try simp only [Act.put]); (try simp only [List.setIfInBounds_toArray])
          refine wpAnyH_take (i := 7) (oi := _) (v := ?_) rfl (by kernel_rfl) (by kernel_rfl) (by kernel_rfl) (fun _ _ _ h => h) (Or.inl ⟨by rfl, ?_⟩) (by assumption) ?_; rotate_left; (focus ((intro w hSw; (try dsimp only at hSw); go_simp); (first | done | (with_reducible rfl)))); (try simp only [Act.put]); (try simp only [List.setIfInBounds_toArray])
          refine wpAnyH_take (i := 8) (oi := _) (v := ?_) rfl (by kernel_rfl) (by kernel_rfl) (by kernel_rfl) (fun _ _ _ h => h) (Or.inl ⟨by rfl, ?_⟩) (by assumption) ?_; rotate_left; (focus ((intro w hSw; (try dsimp only at hSw); go_simp); (first | done | (with_reducible rfl)))); (try simp only [Act.put]); (try simp only [List.setIfInBounds_toArray])
          refine wpAnyH_take (i := 9) (oi := _) (v := ?_) rfl (by kernel_rfl) (by kernel_rfl) (by kernel_rfl) (fun _ _ _ h => h) (Or.inl ⟨by kernel_rfl, ?_⟩) (by assumption) ?_; rotate_left; (focus ((intro w hSw; (try dsimp only at hSw); go_simp); (first | done | (with_reducible rfl)))); (try simp only [Act.put]); (try simp only [List.setIfInBounds_toArray])
          refine wpAnyH_take (i := 10) (oi := _) (v := ?_) rfl (by kernel_rfl) (by kernel_rfl) (by kernel_rfl) (fun _ _ _ h => h) (Or.inl ⟨by kernel_rfl, ?_⟩) (by assumption) ?_; rotate_left; (focus ((intro w hSw; (try dsimp only at hSw); go_simp); (first | done | (with_reducible rfl)))); (try simp only [Act.put]); (try simp only [List.setIfInBounds_toArray])
          refine wpAnyH_take (i := 11) (oi := _) (v := ?_) rfl (by kernel_rfl) (by kernel_rfl) (by kernel_rfl) (fun _ _ _ h => h) (Or.inl ⟨by kernel_rfl, ?_⟩) (by assumption) ?_; rotate_left; (focus ((intro w hSw; (try dsimp only at hSw); go_simp); (first | done | (with_reducible rfl)))); (try simp only [Act.put]); (try simp only [List.setIfInBounds_toArray])
          refine wpAnyH_take (i := 12) (oi := _) (v := ?_) rfl (by kernel_rfl) (by kernel_rfl) (by kernel_rfl) (fun _ _ _ h => h) (Or.inl ⟨by rfl, ?_⟩) (by assumption) ?_; rotate_left; (focus ((intro w hSw; (try dsimp only at hSw); go_simp); (first | done | (with_reducible rfl)))); (try simp only [Act.put]); (try simp only [List.setIfInBounds_toArray])
          refine wpAnyH_take (i := 13) (oi := _) (v := ?_) rfl (by kernel_rfl) (by kernel_rfl) (by kernel_rfl) (fun _ _ _ h => h) (Or.inl ⟨by rfl, ?_⟩) (by assumption) ?_; rotate_left; (focus ((intro w hSw; (try dsimp only at hSw); go_simp); (first | done | (with_reducible rfl)))); (try simp only [Act.put]); (try simp only [List.setIfInBounds_toArray])
          refine wpAnyH_take (i := 14) (oi := _) (v := ?_) rfl (by kernel_rfl) (by kernel_rfl) (by kernel_rfl) (fun _ _ _ h => h) (Or.inl ⟨by kernel_rfl, ?_⟩) (by assumption) ?_; rotate_left; (focus ((intro w hSw; (try dsimp only at hSw); go_simp); (first | done | (with_reducible rfl)))); (try simp only [Act.put]); (try simp only [List.setIfInBounds_toArray])
          refine wpAnyH_take (i := 15) (oi := _) (v := ?_) rfl (by kernel_rfl) (by kernel_rfl) (by kernel_rfl) (fun _ _ _ h => h) (Or.inl ⟨by kernel_rfl, ?_⟩) (by assumption) ?_; rotate_left; (focus ((intro w hSw; (try dsimp only at hSw); go_simp); (first | done | (with_reducible rfl)))); (try simp only [Act.put]); (try simp only [List.setIfInBounds_toArray])
          refine wpAnyH_take (i := 16) (oi := _) (v := ?_) rfl (by kernel_rfl) (by kernel_rfl) (by kernel_rfl) (fun _ _ _ h => h) (Or.inl ⟨by kernel_rfl, ?_⟩) (by assumption) ?_; rotate_left; (focus ((intro w hSw; (try dsimp only at hSw); go_simp); (first | done | (with_reducible rfl)))); (try simp only [Act.put]); (try simp only [List.setIfInBounds_toArray])
          refine wpAnyH_take (i := 17) (oi := _) (v := ?_) rfl (by kernel_rfl) (by kernel_rfl) (by kernel_rfl) (fun _ _ _ h => h) (Or.inl ⟨by kernel_rfl, ?_⟩) (by assumption) ?_; rotate_left; (focus ((intro w hSw; (try dsimp only at hSw); go_simp); (first | done | (with_reducible rfl)))); (try simp only [Act.put]); (try simp only [List.setIfInBounds_toArray])
          refine wpAnyH_take (i := 18) (oi := _) (v := ?_) rfl (by kernel_rfl) (by kernel_rfl) (by kernel_rfl) (fun _ _ _ h => h) (Or.inl ⟨by kernel_rfl, ?_⟩) (by assumption) ?_; rotate_left; (focus ((intro w hSw; (try dsimp only at hSw); go_simp); (first | done | (with_reducible rfl)))); (try simp only [Act.put]); (try simp only [List.setIfInBounds_toArray])
          refine wpAnyH_take (i := 19) (oi := _) (v := ?_) rfl (by kernel_rfl) (by kernel_rfl) (by kernel_rfl) (fun _ _ _ h => h) (Or.inl ⟨by kernel_rfl, ?_⟩) (by assumption) ?_; rotate_left; (focus ((intro w hSw; (try dsimp only at hSw); go_simp); (first | done | (with_reducible rfl)))); (try simp only [Act.put]); (try simp only [List.setIfInBounds_toArray])
          refine wpAnyH_take (i := 20) (oi := { dst := some 34, op := Op.load 31 (Operand.tmp 33), type := 31, pos := "history.go:129", after := #[{ on := 19, ground := Ground.data }, { on := 13, ground := Ground.guard }], guard := some (13, true) }) (v := opV oa) rfl (by kernel_rfl) (by kernel_rfl) (by kernel_rfl) (fun _ _ _ h => h) ?hy20 (by assumption) ?_
          case hy20 => exact yields_op (x := Operand.tmp 33) (by kernel_rfl) rfl g (p + j * 23) (by simp [Act.eval]; done) oa fun w h => h.2.2.2.1
          (try simp only [Act.put]); (try simp only [List.setIfInBounds_toArray])
          refine wpAnyH_take (i := 21) (oi := _) (v := ?_) rfl (by kernel_rfl) (by kernel_rfl) (by kernel_rfl) (fun _ _ _ h => h) (Or.inl ⟨by kernel_rfl, ?_⟩) (by assumption) ?_; rotate_left; (focus ((intro w hSw; (try dsimp only at hSw); go_simp); (first | done | (with_reducible rfl)))); (try simp only [Act.put]); (try simp only [List.setIfInBounds_toArray])
          refine wpAnyH_take (i := 22) (oi := _) (v := ?_) rfl (by kernel_rfl) (by kernel_rfl) (by kernel_rfl) (fun _ _ _ h => h) (Or.inl ⟨by kernel_rfl, ?_⟩) (by assumption) ?_; rotate_left; (focus ((intro w hSw; (try dsimp only at hSw); go_simp); (first | done | (with_reducible rfl)))); (try simp only [Act.put]); (try simp only [List.setIfInBounds_toArray])
          refine wpAnyH_take (i := 23) (oi := _) (v := ?_) rfl (by kernel_rfl) (by kernel_rfl) (by kernel_rfl) (fun _ _ _ h => h) (Or.inl ⟨by kernel_rfl, ?_⟩) (by assumption) ?_; rotate_left; (focus ((intro w hSw; (try dsimp only at hSw); go_simp); (first | done | (with_reducible rfl)))); (try simp only [Act.put]); (try simp only [List.setIfInBounds_toArray])
          refine wpAnyH_take (i := 24) (oi := _) (v := ?_) rfl (by kernel_rfl) (by kernel_rfl) (by kernel_rfl) (fun _ _ _ h => h) (Or.inl ⟨by kernel_rfl, ?_⟩) (by assumption) ?_; rotate_left; (focus ((intro w hSw; (try dsimp only at hSw); go_simp); (first | done | (with_reducible rfl)))); (try simp only [Act.put]); (try simp only [List.setIfInBounds_toArray])
          refine wpAnyH_take (i := 25) (oi := _) (v := ?_) rfl (by kernel_rfl) (by kernel_rfl) (by kernel_rfl) (fun _ _ _ h => h) (Or.inl ⟨by kernel_rfl, ?_⟩) (by assumption) ?_; rotate_left; (focus ((intro w hSw; (try dsimp only at hSw); go_simp); (first | done | (with_reducible rfl)))); (try simp only [Act.put]); (try simp only [List.setIfInBounds_toArray])
          refine wpAnyH_take (i := 26) (oi := _) (v := ?_) rfl (by kernel_rfl) (by kernel_rfl) (by kernel_rfl) (fun _ _ _ h => h) (Or.inl ⟨by kernel_rfl, ?_⟩) (by assumption) ?_; rotate_left; (focus ((intro w hSw; (try dsimp only at hSw); go_simp); (first | done | (with_reducible rfl)))); (try simp only [Act.put]); (try simp only [List.setIfInBounds_toArray])
          refine wpAnyH_take (i := 27) (oi := { dst := some 41, op := Op.load 31 (Operand.tmp 40), type := 31, pos := "history.go:129", after := #[{ on := 26, ground := Ground.data }, { on := 13, ground := Ground.guard }], guard := some (13, true) }) (v := opV ob) rfl (by kernel_rfl) (by kernel_rfl) (by kernel_rfl) (fun _ _ _ h => h) ?hy27 (by assumption) ?_
          case hy27 => exact yields_op (x := Operand.tmp 40) (by kernel_rfl) rfl g (p + i * 23) (by simp [Act.eval]; done) ob fun w h => h.2.2.2.2
          (try simp only [Act.put]); (try simp only [List.setIfInBounds_toArray])
          refine wpAnyH_ready (rs := [28]) (by kernel_rfl) (by simp) ?_; refine AllReadyH.cons (o := _) rfl (fun K hK => ?_) AllReadyH.nil; go_simp
          refine (prec_any oa ob _).mono ?_
          rintro x w4 ⟨rfl, hx4⟩
          replace hx4 : Ext wr w4 := (Ext.refl wr).drew.trans hx4
          replace k2 := (hx4.cell (p := ⟨sb, 2, none⟩) hsl).trans k2
          replace k5 := (hx4.cell (p := ⟨sb, 5, none⟩) hsl).trans k5
          replace kin := (hx4.cell (p := ⟨ib, j, none⟩) hil).trans kin
          replace kA : w4.rangeAt g (p + j * 23) (opC oa) := fun q v hv => (hx4.cell (p := ⟨g, p + j * 23 + q, none⟩) hgl).trans (kA q v hv)
          replace kB : w4.rangeAt g (p + i * 23) (opC ob) := fun q v hv => (hx4.cell (p := ⟨g, p + i * 23 + q, none⟩) hgl).trans (kB q v hv)
          have HX4 := Lib.hid (Hx.out.trans hx4)
          clear hx4
          (try go_wp2_with fail); refine hK.out _ _ ?_ (fun hHeld => ?_); (focus ((try dsimp only); (first | done | go_keep))); clear hK K; try simp only [Act.put, List.setIfInBounds_toArray, List.set_cons_zero, List.set_cons_succ]
          refine wpAnyH_take (i := 29) (oi := _) (v := ?_) rfl (by kernel_rfl) (by kernel_rfl) (by kernel_rfl) (fun _ _ _ h => h) (Or.inl ⟨by rfl, ?_⟩) (by assumption) ?_; rotate_left; (focus ((intro w hSw; (try dsimp only at hSw); go_simp); (first | done | (with_reducible rfl)))); (try simp only [Act.put]); (try simp only [List.setIfInBounds_toArray])
          refine wpAnyH_done (by kernel_rfl) ?_ _
          clear hHeld k2 k5 kin kA kB
          have Hji := Lib.hid hji
          clear hji
          cases hp : precB oa ob with
          | true =>
            have HE := Lib.hid (early_true Hoa.out Hob.out hc Hji.out hp)
            go_wp2_with fail
            go_ret
            rw [HE.out]
            exact ⟨rfl, HX4.out⟩
          | false =>
            go_wp2_with fail
            go_roundw
            case rel => exact ⟨j + 1, by omega, by go_num, HX4.out, fun k hk => by
              by_cases e : k = j
              · subst e
                rintro ⟨_, _, a, b, ha, hb, hab⟩
                rw [Hoa.out] at ha
                rw [Hob.out] at hb
                simp only [Option.some.injEq] at ha hb
                subst ha hb
                rw [hp] at hab
                simp at hab
              · exact Hno.out k (by omega)⟩
            case measure => simp [intOf]; omega
    · have hd : decide ((j : Int) < (n : Int)) = false := by simp; omega
      have HE := Lib.hid (early_false (fun k hk => Hno.out k (by rw [Hnn.out] at hk; omega)))
      go_wp2_with fail
      go_ret
      rw [HE.out]
      exact ⟨rfl, Hx.out⟩
end Go.Proofs.Ythenclenabcmgaa
