/-
  What Do demands of its arguments: model.permitted and the reference's proper (28.2); Get and Len.
  Conditions: none.
-/
import Derived.Test.YthenclenabcmgaaModA
import Derived.Shelf.Abstract
namespace Go.Proofs.Ythenclenabcmgaa
open Go.RowKit Go.Sort Go.Shelf
set_option maxHeartbeats 2000000
set_option maxRecDepth 20000

theorem timed_cases (op : Int) : ((op == 1) = true ∧ timedB op = true) ∨ ((op == 1) = false ∧ (op == 3) = true ∧ timedB op = true) ∨ ((op == 1) = false ∧ (op == 3) = false ∧ timedB op = false) := by
  by_cases h1 : op = 1
  · exact .inl ⟨by simpa using h1, by simp [timedB, h1]⟩
  by_cases h3 : op = 3
  · exact .inr (.inl ⟨by simpa using h1, by simpa using h3, by simp [timedB, h3]⟩)
  · exact .inr (.inr ⟨by simpa using h1, by simpa using h3, by simp [timedB, h1, h3]⟩)
theorem mtimed_any (op : Int) (w : World) : Calls Try.prog 35 #[.int .i64 op] w fun e w' => e = .returned (.bool (timedB op)) ∧ w = w' := by
  rcases timed_cases op with ⟨d1, hc⟩ | ⟨d1, d2, hc⟩ | ⟨d1, d2, hc⟩ <;> (
    rw [hc]
    clear hc
    go_enter Try.func35, Try.ntmps35
    go_wp2_with fail
    go_ret
    exact ⟨rfl, rfl⟩)
theorem good_cases (n : Nm) : (n.a.toList = [] ∧ n.a.toList.isEmpty = true ∧ n.a.size = 0 ∧ goodN n = false) ∨ (n.a.toList.isEmpty = false ∧ decide ((63 : Int) < (n.a.size : Int)) = true ∧ ¬ n.a.toList = [] ∧ 63 < n.a.size ∧ goodN n = false) ∨ (n.a.toList.isEmpty = false ∧ decide ((63 : Int) < (n.a.size : Int)) = false ∧ ¬ n.a.toList = [] ∧ 1 ≤ n.a.size ∧ n.a.size ≤ 63 ∧ goodN n = true) := by
  have e : n.a.toList.length = n.a.size := by rw [ByteArray.toList_eq]; rfl
  cases h : n.a.toList with
  | nil => rw [h] at e; simp at e; exact .inl ⟨rfl, rfl, e.symm, by simp [goodN, ← e]⟩
  | cons x r =>
    rw [h] at e; simp at e
    by_cases h2 : 63 < n.a.size
    · exact .inr (.inl ⟨rfl, by simp; omega, by simp, h2, by simp [goodN]; omega⟩)
    · exact .inr (.inr ⟨rfl, by simp; omega, by simp, by omega, by omega, by simp [goodN]; omega⟩)
theorem bad1_any (n : Nm) (w : World) : Calls Try.prog 38 #[.agg #[.string n.a, .string n.u, .string n.k]] w fun e w' => e = .returned (.bool (!goodN n)) ∧ Ext w w' := by
  rcases good_cases n with ⟨d1, d2, d3, hc⟩ | ⟨d2, d3, d1, d4, hc⟩ | ⟨d2, d3, d1, d4, d5, hc⟩ <;> (
    rw [hc]
    clear hc
    go_enter Try.func38, Try.ntmps38
    go_wp2_with fail
    go_ret
    exact ⟨by first | rfl | (simp [d1, d2]; done) | (simp; omega), (by repeat' (first | exact Ext.refl _ | assumption | apply Ext.alloc | apply Ext.drewN | apply Ext.drew | (refine Ext.trans ?_ (by assumption)) | (refine ext_setCell ?_ (by first | (simp; done) | (simp; omega)) _)))⟩)
def IdxPost (ns : List Nm) (w : World) (e : Ending) (w' : World) : Prop := ∃ z : Int, e = .returned (.int .i64 z) ∧ decide (0 ≤ z) = !(ns.all goodN) ∧ Ext w w'
theorem all_take {ns : List Nm} {k : Nat} {n : Nm} (h : (ns.take k).all goodN = true) (hn : ns[k]? = some n) (hg : goodN n = true) : (ns.take (k + 1)).all goodN = true := by
  rw [take_at hn, List.all_append, h]; simp [hg]
theorem not_all {ns : List Nm} {k : Nat} {n : Nm} (hn : ns[k]? = some n) (hg : goodN n = false) : ns.all goodN = false := by
  rw [List.all_eq_false]
  exact ⟨n, List.mem_of_getElem? hn, by simp [hg]⟩
theorem index_any {S : Nat → Prop} (v : Value) (ns : List Nm) (w : World) (hn : NmsAt w S v ns) :
    Calls Try.prog 45 #[v, .func (.func 38) #[] #[]] w (IdxPost ns w) := by
  obtain ⟨A, c, rfl⟩ := hn.shape
  have hlm := hn.len
  unfold maxLen at hlm
  have eg : ∀ args w, (callFunc 38 args).run Try.prog w = .ok (.enter 38 args) w := enters_of Try.func38 (by kernel_rfl) rfl
  have Hn := Lib.hid hn
  clear hn
  go_enter Try.func45, Try.ntmps45
  go_wp2_with fail
  go_loopw [8] (fun o wr => ∃ k : Nat, k ≤ ns.length ∧ o = .int .i64 (k : Int) ∧ (ns.take k).all goodN = true ∧ Ext w wr) (fun o _ => ns.length - (intOf o).toNat)
  case atStart => exact ⟨0, by omega, rfl, by simp, Ext.refl w⟩
  case round =>
    obtain ⟨k, hk, rfl, hg, hx⟩ := hrel
    have Hg := Lib.hid hg
    have Hx := Lib.hid hx
    clear hg hx
    by_cases hlt : k < ns.length
    · have hd : decide ((k : Int) < (ns.length : Int)) = true := by simpa using hlt
      obtain ⟨g, o, c', hv, p1, p2, _, b1, hcell⟩ := (Hn.out.ext Hx.out).get hlt
      simp only [Value.slice.injEq, true_and] at hv
      obtain ⟨rfl, rfl⟩ := hv
      obtain ⟨n, hnk⟩ : ∃ n, ns[k]? = some n := ⟨ns[k], by simp [hlt]⟩
      obtain ⟨x1, x2, x3⟩ := hcell _ _ hnk
      have i0 : (0 : Int) ≤ (k : Int) := by omega
      have i1 : (k : Int) < (ns.length : Int) := by omega
      have Hnk := Lib.hid hnk
      clear hcell hnk
      cases hg : goodN n with
      | true =>
        have Hgn := Lib.hid hg
        go_wp2_with (go_at_fn 38; refine (bad1_any n _).mono ?_; rintro e w1 ⟨rfl, hy⟩; rw [hg])
        go_roundw
        case rel => exact ⟨k + 1, by omega, by go_num, all_take Hg.out Hnk.out Hgn.out, Hx.out.trans hy⟩
        case measure => simp [intOf]; omega
      | false =>
        have Hgn := Lib.hid hg
        go_wp2_with (go_at_fn 38; refine (bad1_any n _).mono ?_; rintro e w1 ⟨rfl, hy⟩; rw [hg])
        go_ret
        exact ⟨k, rfl, by rw [not_all Hnk.out Hgn.out]; simp, Hx.out.trans hy⟩
    · have hd : decide ((k : Int) < (ns.length : Int)) = false := by simp; omega
      go_wp2_with fail
      go_ret
      refine ⟨-1, rfl, ?_, Hx.out⟩
      have := Hg.out
      rw [List.take_of_length_le (by omega)] at this
      rw [this]; rfl
theorem contains_any {S : Nat → Prop} (v : Value) (ns : List Nm) (w : World) (hn : NmsAt w S v ns) :
    Calls Try.prog 37 #[v, .func (.func 38) #[] #[]] w fun e w' => e = .returned (.bool (!(ns.all goodN))) ∧ Ext w w' := by
  have Hn := Lib.hid hn
  clear hn
  go_enter Try.func37, Try.ntmps37
  go_wp2_with fail
  refine (index_any v ns _ Hn.out).mono ?_
  rintro e w1 ⟨z, rfl, hz, hx⟩
  have Hx := Lib.hid hx
  have Hz := Lib.hid hz
  clear hx hz
  go_wp2_with fail
  go_ret
  exact ⟨by rw [← Hz.out]; rfl, Hx.out⟩
/-- The ways on which something is not permitted, in the order in which both look. -/
theorem proper_cases (cl client op ttl now : Int) (ns : List Nm) :
    properB cl client op ttl now ns = false ∧ (client < 0 ∨ (0 ≤ client ∧ cl ≤ client) ∨ (0 ≤ client ∧ client < cl ∧ op < 1) ∨ (0 ≤ client ∧ client < cl ∧ 1 ≤ op ∧ 7 < op) ∨ (0 ≤ client ∧ client < cl ∧ 1 ≤ op ∧ op ≤ 7 ∧ now < 0) ∨ (0 ≤ client ∧ client < cl ∧ 1 ≤ op ∧ op ≤ 7 ∧ 0 ≤ now ∧ 1073741824 < now)) ∨
    (0 ≤ client ∧ client < cl ∧ 1 ≤ op ∧ op ≤ 7 ∧ 0 ≤ now ∧ now ≤ 1073741824 ∧
      ((properB cl client op ttl now ns = false ∧ ((timedB op = true ∧ ttl < 1) ∨ (timedB op = true ∧ 1 ≤ ttl ∧ 1073741824 < ttl) ∨ (timedB op = false ∧ ttl ≠ 0))) ∨
       (((timedB op = true ∧ 1 ≤ ttl ∧ ttl ≤ 1073741824) ∨ (timedB op = false ∧ ttl = 0)) ∧
        ((properB cl client op ttl now ns = false ∧ (ns.length < 1 ∨ (1 ≤ ns.length ∧ 16 < ns.length) ∨ (1 ≤ ns.length ∧ ns.length ≤ 16 ∧ op = 7 ∧ 1 < ns.length))) ∨
         (1 ≤ ns.length ∧ ns.length ≤ 16 ∧ (op ≠ 7 ∨ (op = 7 ∧ ns.length ≤ 1)) ∧ properB cl client op ttl now ns = (srt ns && ns.all goodN)))))) := by
  have hF : ∀ q : ¬ Proper cl client op ttl now ns, properB cl client op ttl now ns = false := fun q => by simpa [properB] using q
  by_cases a1 : client < 0
  · exact .inl ⟨hF fun p => by have := p.c0; omega, .inl a1⟩
  by_cases a2 : cl ≤ client
  · exact .inl ⟨hF fun p => by have := p.c1; omega, .inr (.inl ⟨by omega, a2⟩)⟩
  by_cases a3 : op < 1
  · exact .inl ⟨hF fun p => by have := p.o0; omega, .inr (.inr (.inl ⟨by omega, by omega, a3⟩))⟩
  by_cases a4 : 7 < op
  · exact .inl ⟨hF fun p => by have := p.o1; omega, .inr (.inr (.inr (.inl ⟨by omega, by omega, by omega, a4⟩)))⟩
  by_cases a5 : now < 0
  · exact .inl ⟨hF fun p => by have := p.n0; omega, .inr (.inr (.inr (.inr (.inl ⟨by omega, by omega, by omega, by omega, a5⟩))))⟩
  by_cases a6 : 1073741824 < now
  · exact .inl ⟨hF fun p => by have := p.n1; omega, .inr (.inr (.inr (.inr (.inr ⟨by omega, by omega, by omega, by omega, by omega, a6⟩))))⟩
  refine .inr ⟨by omega, by omega, by omega, by omega, by omega, by omega, ?_⟩
  have htt : ((timedB op = true ∧ ttl < 1) ∨ (timedB op = true ∧ 1 ≤ ttl ∧ 1073741824 < ttl) ∨ (timedB op = false ∧ ttl ≠ 0)) ∨ ((timedB op = true ∧ 1 ≤ ttl ∧ ttl ≤ 1073741824) ∨ (timedB op = false ∧ ttl = 0)) := by
    cases timedB op <;> simp <;> omega
  rcases htt with ht | ht
  · refine .inl ⟨hF fun p => ?_, ht⟩
    rcases ht with ⟨h, h'⟩ | ⟨h, h'⟩ | ⟨h, h'⟩
    · have := p.t1 h; omega
    · have := p.t1 h; omega
    · exact h' (p.t0 h)
  refine .inr ⟨ht, ?_⟩
  by_cases b1 : ns.length < 1
  · exact .inl ⟨hF fun p => by have := p.l0; omega, .inl b1⟩
  by_cases b2 : 16 < ns.length
  · exact .inl ⟨hF fun p => by have := p.l1; omega, .inr (.inl ⟨by omega, b2⟩)⟩
  by_cases b3 : op = 7 ∧ 1 < ns.length
  · exact .inl ⟨hF fun p => by have := p.q b3.1; omega, .inr (.inr ⟨by omega, by omega, b3⟩)⟩
  refine .inr ⟨by omega, by omega, by omega, ?_⟩
  unfold properB
  by_cases h : srt ns = true ∧ ns.all goodN = true
  · rw [h.1, h.2]
    refine decide_eq_true ⟨by omega, by omega, by omega, by omega, by omega, by omega, fun h => ?_, fun h => ?_, by omega, by omega, by omega, h.1, h.2⟩
    · rcases ht with ⟨_, h1, h2⟩ | ⟨h1, _⟩
      · exact ⟨h1, h2⟩
      · rw [h] at h1; simp at h1
    · rcases ht with ⟨h1, _⟩ | ⟨_, h1⟩
      · rw [h] at h1; simp at h1
      · exact h1
  · rw [decide_eq_false fun p => h ⟨p.srt, p.good⟩]
    cases hs : srt ns with
    | false => rfl
    | true => cases ha : ns.all goodN with
      | false => rfl
      | true => exact absurd ⟨hs, ha⟩ h
end Go.Proofs.Ythenclenabcmgaa
