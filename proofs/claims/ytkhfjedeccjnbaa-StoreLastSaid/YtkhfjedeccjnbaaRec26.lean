/-
  The record that the statements of chapter 26 draw from a source.
  Conditions: the source reads as integers.
-/
import Derived.Test.YtkhfjedeccjnbaaStBoth
import Derived.Test.YtkhfjedeccjnbaaMkRec
import Derived.Test.YtkhfjedeccjnbaaSrcChg
namespace Go.Proofs.Ytkhfjedeccjnbaa
open Go.RowKit Go.Sort
set_option maxHeartbeats 2000000

theorem rowIn_of_own {w : World} {base : Nat} {e : TypeId} {A : Option Addr} {n c : Nat} {zs : List Int} (h : w.ownsRow base e 1 (.slice A n c) n (zs.map (Value.int .i64))) (hz : ∀ z ∈ zs, I64 z) : RowIn w A n := by
  have hr := Rd.of_own h (S := fun _ => True) fun _ _ => trivial
  have hl := hr.len
  obtain ⟨h1, A', c', e1, h2, h3, h4⟩ := hr
  simp only [Value.slice.injEq] at e1
  obtain ⟨rfl, _, rfl⟩ := e1
  refine ⟨hl, fun hn => ?_⟩
  obtain ⟨g, o, rfl, _, hg, hc⟩ := h4 hn
  refine ⟨_, rfl, hg, fun j hj => ?_⟩
  have hjl : j < zs.length := by simp at h1; omega
  refine ⟨zs[j], ?_, hz _ (List.getElem_mem hjl)⟩
  have := hc j (.int .i64 zs[j]) (by simp [hjl])
  have e : (⟨g, o, none⟩ : Addr).add j = ⟨g, o + j, none⟩ := by unfold Addr.add; by_cases hj : j = 0 <;> simp [hj]
  rw [e]; exact this
def Rec26Post (B sb : Nat) (w : World) (e : Ending) (w' : World) : Prop :=
  ∃ (st ow dl : Int) (nm : ByteArray), 0 ≤ st ∧ st < 3 ∧ 0 ≤ ow ∧ ow < 4 ∧ -1 ≤ dl ∧ dl ≤ 40 ∧ nm.size ≤ 3 ∧ e = .returned (.agg #[.int .i64 st, .int .i64 ow, .string nm, .int .i64 dl]) ∧ Src B w' sb ∧ Chg (· = sb) w w'
def Rec26Rel (w : World) (B sb : Nat) (v : Value) (k : Nat) (wr : World) : Prop :=
  ∃ zs : List Int, zs.length = k ∧ (∀ z ∈ zs, I64 z) ∧ wr.ownsRow (w.heap.size + 1) 3 1 v k (zs.map (Value.int .i64)) ∧ Src B wr sb ∧ RecAt wr w.heap.size 0 0 0 ⟨#[]⟩ ∧ Chg (· = sb) w wr ∧ w.heap.size < wr.heap.size
set_option maxRecDepth 10000 in
theorem rec26_any (B sb : Nat) (w : World) (hs : Src B w sb) : Calls Try.prog 67 #[.pointer (some ⟨sb, 0, none⟩)] w (Rec26Post B sb w) := by
  obtain ⟨i0, hi, hz0, hz1, hz2⟩ := info_parts info_int
  have hsl := hs.lt
  have hsB := hs.ge
  have hrel0 : Rec26Rel w B sb (.slice none 0 0) 0 (w.alloc (.cells #[.int .i64 0, .int .i64 0, .string ⟨#[]⟩, .int .i64 0] 30)) := by
    refine ⟨[], rfl, by simp, World.ownsRow_nil _ _ _ _, hs.alloc _, ?_, (Chg.refl _ w).alloc _, by simp⟩
    refine ⟨?_, ?_, ?_, ?_, fun i => ?_⟩ <;> go_simp
  have Hrel0 := Lib.hid hrel0
  clear hrel0 hs
  go_enter Try.func67, Try.ntmps67
  go_wp2_with fail
  go_loopw [3, 4] (fun v o wr => ∃ k : Nat, k ≤ 6 ∧ o = .int .i64 (k : Int) ∧ Rec26Rel w B sb v k wr) (fun _ o _ => 6 - (intOf o).toNat)
  case atStart => exact ⟨0, by omega, rfl, Hrel0.out⟩
  case round =>
    clear Hrel0
    obtain ⟨k, hk6, rfl, zs, hzl, hzi, hown, hsrc, hrec, hcg, hlt⟩ := hrel
    obtain ⟨a, c, hv⟩ := own_shape hown
    subst hv
    have Hown := Lib.hid hown
    have Hrec := Lib.hid hrec
    have Hcg := Lib.hid hcg
    have Hsrc := Lib.hid hsrc
    have Hzi := Lib.hid hzi
    have Hzl := Lib.hid hzl
    clear hown hrec hcg hsrc hzi hzl
    by_cases hk : k < 6
    · have hd : decide ((k : Int) < 6) = true := by simp; omega
      go_wp2_with fail
      refine (next_any _ _ (by omega) (by omega) _ B Hsrc.out).mono ?_
      rintro e w1 ⟨z, hz, rfl, hsrc1, hc1, hz1'⟩
      have ho1 := Hown.out.kept (w' := w1) (row := some sb) ⟨hc1.os, hc1.tape, hc1.output, hc1.size, fun i hi hne => hc1.block i hi (fun e => hne (by rw [e]))⟩ (.inr fun e => by have := (Hown.out.lt _ e).1; omega)
      have hrec1 := Hrec.out.chg hc1 (by omega)
      have Hsrc1 := Lib.hid hsrc1
      have Hrec1 := Lib.hid hrec1
      have Hcg1 := Lib.hid (Hcg.out.trans hc1)
      have hsz1 := hc1.size
      clear hsrc1 hrec1 hc1 hz1'
      go_wp2_with (at_builtin; refine wpList_append_own_at _ rfl _ _ 34 rfl (w.heap.size + 1) 3 i0 _ 1 8 und_ints hi hz0 hz1 hz2 rfl (by decide) _ k _ rfl (ho1.alloc _) ⟨w1.heap.size, 0, none⟩ 1 1 [.int .i64 (z : Int)] rfl rfl ?c1 ?c2 ?c3 ?c4 ?c5 ?_)
      case c1 => exact cell_one_new _ _ _
      case c2 => intro u hu; simp at hu; subst hu; rfl
      case c3 => unfold maxLen; omega
      case c4 => omega
      case c5 => simp; omega
      intro v2 w2 ho2 hg2 _ _
      have hb2 := fun j hj => (ho1.lt j hj).1
      have hne : ∀ j, ho1.1 = ho1.1 → (Value.slice a k c).ownBlock = some j → w.heap.size + 1 ≤ j := fun j _ hj => hb2 j hj
      have hx2 : Chg (fun j => w.heap.size + 1 ≤ j) w1 w2 := ((Chg.refl _ w1).alloc (.cells #[.int .i64 (z : Int)] 3)).grown hg2 (fun j hj => .inl (hb2 j hj))
      have hrel2 : Rec26Rel w B sb v2 (k + 1) w2 := by
        refine ⟨zs ++ [(z : Int)], by simp [Hzl.out], fun y hy => ?_, by simpa using ho2, Hsrc1.out.chg hx2 (by omega) (by intro j hj; omega), Hrec1.out.chg hx2 (by omega), Hcg1.out.then_ hx2 (fun j hj h => by omega), by have := hx2.size; omega⟩
        rcases List.mem_append.1 hy with h | h
        · exact Hzi.out y h
        · simp at h; subst h; unfold I64; omega
      have Hrel2 := Lib.hid hrel2
      clear hrel2 ho2 hg2 hx2 ho1 hne hb2
      go_wp2_with fail
      go_roundw
      case rel => exact ⟨k + 1, by omega, by go_num, Hrel2.out⟩
      case measure => simp [intOf]; omega
    · have hd : decide ((k : Int) < 6) = false := by simp; omega
      have hrow := rowIn_of_own Hown.out Hzi.out
      go_wp2_with fail
      refine (record_row _ _ _ _ hrow).mono ?_
      rintro e w1 ⟨st, ow, dl, nm, b1, b2, b3, b4, b5, b6, b7, rfl, hx⟩
      obtain ⟨r0, r1, r2, r3, rf⟩ := Hrec.out.ext hx
      have hsz := hx.size
      have Hf := Lib.hid (Hsrc.out.ext hx)
      have Hc := Lib.hid (Hcg.out.trans (hx.chg _))
      clear hx hrow
      go_wp2_with fail
      refine bodyPost_ret (v := .agg #[.int .i64 st, .int .i64 ow, .string nm, .int .i64 dl]) (by simp [results, Try.results67, go_sem, *]) rfl ⟨st, ow, dl, nm, b1, b2, b3, b4, b5, b6, b7, rfl, ?_, ?_⟩
      · exact (((Hf.out.setCell (p := ⟨w.heap.size, 0, none⟩) (by simp only; omega) (by simp only; omega) _).setCell (p := ⟨w.heap.size, 1, none⟩) (by simp only; omega) (by simp only; omega) _).setCell (p := ⟨w.heap.size, 2, none⟩) (by simp only; omega) (by simp only; omega) _).setCell (p := ⟨w.heap.size, 3, none⟩) (by simp only; omega) (by simp only; omega) _
      · exact (((Hc.out.setCell (p := ⟨w.heap.size, 0, none⟩) (.inr (Nat.le_refl _)) _).setCell (p := ⟨w.heap.size, 1, none⟩) (.inr (Nat.le_refl _)) _).setCell (p := ⟨w.heap.size, 2, none⟩) (.inr (Nat.le_refl _)) _).setCell (p := ⟨w.heap.size, 3, none⟩) (.inr (Nat.le_refl _)) _
end Go.Proofs.Ytkhfjedeccjnbaa
