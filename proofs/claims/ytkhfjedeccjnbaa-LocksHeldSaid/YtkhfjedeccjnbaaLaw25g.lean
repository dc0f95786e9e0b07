/-
  The walk of LocksHeld: it returns true and changes nothing that was there.
  Conditions: none.
-/
import Derived.Test.YtkhfjedeccjnbaaLaw25e
import Derived.Deep.CutBlock
namespace Go.Proofs.Ytkhfjedeccjnbaa
open Go.RowKit Go.Sort
set_option maxHeartbeats 8000000

theorem LOk.byAcq {P : Int → Prop} {n : Nat} {sl : Nat → Option ByteArray} {ow : Nat → Int} {u : Int} (o : LOk n sl u) (h : ∀ key c, Holds n sl ow key c → P c) {key : ByteArray} {c code : Int} (hc : P c) {sl' : Nat → Option ByteArray} {ow' : Nat → Int} {u' : Int} (s : AcqSpec n sl ow u key c code sl' ow' u') : ∀ key c, Holds n sl' ow' key c → P c := by
  rcases s with ⟨_, _, rfl, rfl, rfl⟩ | ⟨_, p, ok, f, ⟨_, _, _, rfl, rfl, rfl⟩ | ⟨_, _, _, rfl, rfl, rfl⟩ | ⟨_, _, _, rfl, rfl, rfl⟩ | ⟨rfl, hr, _, rfl, rfl, rfl⟩⟩
  · exact h
  · exact h
  · exact h
  · exact h
  · intro a b hab
    rcases (holds_ins f.lt (find_none f) (fun i hi => by simpa using (o.tab.hit hi f).1) c a b).1 hab with ⟨_, rfl⟩ | ⟨_, hab⟩
    · exact hc
    · exact h a b hab
theorem LOk.byRel {P : Int → Prop} {n : Nat} {sl : Nat → Option ByteArray} {ow : Nat → Int} {u : Int} (o : LOk n sl u) (h : ∀ key c, Holds n sl ow key c → P c) {key : ByteArray} {c code : Int} {sl' : Nat → Option ByteArray} {ow' : Nat → Int} {u' : Int} (s : RelSpec n sl ow u key c code sl' ow' u') : ∀ key c, Holds n sl' ow' key c → P c := by
  rcases s with ⟨_, _, rfl, rfl, rfl⟩ | ⟨_, p, ok, f, ⟨_, _, rfl, rfl, rfl⟩ | ⟨_, _, _, rfl, rfl, rfl⟩ | ⟨rfl, _, _, rfl, s, hd, rfl, rfl⟩⟩
  · exact h
  · exact h
  · exact h
  · obtain ⟨fu, hfu, hfree⟩ := o.free
    obtain ⟨_, hH, _⟩ := rm_tab o.tab ow (find_has f) hfu hfree hd
    exact fun a b hab => h a b ((hH a b).1 hab).2
theorem LOk.find {n : Nat} {sl : Nat → Option ByteArray} {u : Int} (o : LOk n sl u) {key : ByteArray} {i p : Nat} {ok : Bool} (hi : Has n sl key i) (f : FindAt n sl key p ok) : ok = true ∧ p = i := o.tab.hit hi f
/-- What the locks of the walk are like. -/
def HeI (w : World) (b g h : Nat) (wr : World) : Prop := ∃ sl ow u, LocksAt wr b g h 16 sl ow u ∧ LOk 16 sl u ∧ (∀ key c, Holds 16 sl ow key c → 0 ≤ c ∧ c < 4) ∧ Ext w wr
theorem le_false {a b : ByteArray} (h : b.data.toList < a.data.toList) : Op.bytesLess a.toList b.toList = false ∧ (a.toList == b.toList) = false := by
  have := (gt_iff (x := a.toList) (s := b)).2 (by rw [ByteArray.toList_eq]; exact h)
  exact this
set_option maxRecDepth 100000
namespace locksHeld
theorem walk (a : Option Addr) (len cap : Nat) (zs : List Int) (w : World) (hrow : IsRow .i64 w a len cap zs) :
    Calls Try.prog 21 #[.slice a len cap] w fun e w' => e = .returned (.bool true) ∧ Below w.heap.size w w' := by
  go_enter Try.func21, Try.ntmps21
  go_wp2_with fail
  refine (new_any 16 _).mono ?_
  rintro e w1 (⟨hp, _⟩ | ⟨_, b, g, h, rfl, hb, hg, hh, hl, hx⟩)
  · exact absurd hp (by decide)
  have hl1 : LocksAt w1 b g h 16 (fun _ => none) (fun _ => 0) 0 := hl
  have hS : ∀ i, (i = b ∨ i = g ∨ i = h) → w.heap.size ≤ i := by rintro i (rfl | rfl | rfl) <;> assumption
  clear hl
  go_wp2_with fail
  refine (from_any _ _ _ _).mono ?_
  rintro e w2 ⟨rfl, rfl⟩
  have hsrc : Src w.heap.size (w1.alloc (.cells #[.slice a len cap, .int .i64 0] 104)) w1.heap.size := src_of_row hrow hx
  have hbl : b < w1.heap.size := hl1.2.2.2.1
  have hgl : g < w1.heap.size := hl1.2.2.2.2.2.2.2.2.1.1
  have hhl : h < w1.heap.size := hl1.2.2.2.2.2.2.2.2.2.1
  have hl2 := hl1.ext ((Ext.refl _).alloc (.cells #[.slice a len cap, .int .i64 0] 104))
  have hx2 := hx.alloc (.cells #[.slice a len cap, .int .i64 0] 104)
  obtain ⟨sb, hsb⟩ : ∃ sb, w1.heap.size = sb := ⟨_, rfl⟩
  rw [hsb] at hsrc hbl hgl hhl
  have hsB : w.heap.size ≤ sb := by rw [← hsb]; exact hx.size
  obtain ⟨w2, hw2⟩ : ∃ w2, w1.alloc (.cells #[.slice a len cap, .int .i64 0] 104) = w2 := ⟨_, rfl⟩
  rw [hw2] at hsrc hl2 hx2 ⊢
  rw [hsb]
  have HP := Lib.hid (show HeI w b g h w2 from ⟨_, _, _, hl2, lok_new (by omega), fun key c hc => absurd (lown_new 16 key c hc) (by obtain ⟨i, _, h, _⟩ := hc; simp at h), hx2⟩)
  clear hsb hw2 hl1 hx hrow hl2 hx2
  go_upto_block 0 with fail
  go_cut [6] from 26 to 48 (fun _ wx => HeI w b g h wx)
  case first =>
    go_wp2_with fail
    go_loopw [6] (fun o wr => ∃ k : Nat, k ≤ 30 ∧ o = .int .i64 (k : Int) ∧ HeI w b g h wr ∧ Src w.heap.size wr sb) (fun o _ => (30 - intOf o).toNat)
    case atStart => exact ⟨0, by omega, rfl, HP.out, hsrc⟩
    case round =>
      clear HP hsrc
      obtain ⟨k, hk30, rfl, ⟨sl, ow, u, hl, ho, hw, hx⟩, hsrc⟩ := hrel
      have Hl := Lib.hid hl
      have Ho := Lib.hid ho
      have Hw := Lib.hid hw
      have Hx := Lib.hid hx
      clear hl ho hw hx
      by_cases hk : k < 30
      · have hd : decide ((k : Int) < 30) = true := by simp; omega
        go_wp2_with fail
        refine (left_src _ _ _ hsrc).mono ?_
        rintro e w3 ⟨⟨v, rfl⟩, hsrc3, hc3⟩
        have Hl3 := Lib.hid (Hl.out.chg_far hc3 (by omega) (by omega) (by omega))
        have Hx3 := Lib.hid (Hx.out.chg_new hc3 (fun i hi => by subst hi; exact hsB))
        clear hsrc hc3 Hl Hx
        cases v
        · go_wp2_with fail
          go_meet
          exact ⟨sl, ow, u, Hl3.out, Ho.out, Hw.out, Hx3.out⟩
        · go_wp2_with fail
          refine (key_any _ _ _ hsrc3).mono ?_
          rintro e w4 ⟨s1, hs1, rfl, hsrc4, hc4⟩
          have Hl4 := Lib.hid (Hl3.out.chg_far hc4 (by omega) (by omega) (by omega))
          have Hx4 := Lib.hid (Hx3.out.chg_new hc4 (fun i hi => by subst hi; exact hsB))
          clear hc4 hsrc3 Hl3 Hx3
          go_wp2_with fail
          refine (next_any _ _ (by omega) (by omega) _ _ hsrc4).mono ?_
          rintro e w5 ⟨v, hv, rfl, hsrc5, hc5, _⟩
          have Hl5 := Lib.hid (Hl4.out.chg_far hc5 (by omega) (by omega) (by omega))
          have Hx5 := Lib.hid (Hx4.out.chg_new hc5 (fun i hi => by subst hi; exact hsB))
          clear hc5 hsrc4 Hl4 Hx4
          go_wp2_with fail
          refine (next_any _ _ (by omega) (by omega) _ _ hsrc5).mono ?_
          rintro e w6 ⟨v2, hv2, rfl, hsrc6, hc6, _⟩
          have Hl6 := Lib.hid (Hl5.out.chg_far hc6 (by omega) (by omega) (by omega))
          have Hx6 := Lib.hid (Hx5.out.chg_new hc6 (fun i hi => by subst hi; exact hsB))
          clear hc6 hsrc5 Hl5 Hx5
          obtain ⟨fu, hfu, hfree⟩ := Ho.out.free
          have hks : s1.size ≤ maxLen := by rw [hs1]; unfold maxLen; omega
          have hbd := Ho.out.tab.bd
          by_cases hv0 : (0 : Int) < (v2 : Int)
          · have hdv : decide ((0 : Int) < (v2 : Int)) = true := by simpa using hv0
            go_wp2_with fail
            refine (acquire_any b g h 16 sl ow u _ _ _ (by omega) (by omega) hks Hl6.out (by omega) (by omega) fu hfu hfree).mono ?_
            rintro e w7 ⟨code, sl7, ow7, u7, rfl, hsp, hl7, hc7⟩
            have HI := Lib.hid (show HeI w b g h w7 from ⟨sl7, ow7, u7, hl7, Ho.out.acq hks hsp, Ho.out.byAcq Hw.out ⟨by omega, by omega⟩ hsp, Hx6.out.chg_new hc7 hS⟩)
            have hsrc7 := hsrc6.chg hc7 (by rintro (e | e | e) <;> omega) (by intro i hi hb; have := hS i hb; omega)
            clear hl7 hsp hc7 hsrc6 Hl6 Hx6 hfree
            go_wp2_with fail
            go_roundw
            case rel => exact ⟨k + 1, by omega, by go_num, HI.out, hsrc7⟩
            case measure => simp [intOf]; omega
          · have hdv : decide ((0 : Int) < (v2 : Int)) = false := by simpa using hv0
            go_wp2_with fail
            refine (release_any b g h 16 sl ow u _ _ _ (by omega) hks Hl6.out Ho.out.tab Ho.out.keys fu hfu hfree).mono ?_
            rintro e w7 ⟨code, sl7, ow7, u7, rfl, hsp, hl7, hc7⟩
            have HI := Lib.hid (show HeI w b g h w7 from ⟨sl7, ow7, u7, hl7, Ho.out.rel hsp, Ho.out.byRel Hw.out hsp, Hx6.out.chg_new hc7 hS⟩)
            have hsrc7 := hsrc6.chg hc7 (by rintro (e | e | e) <;> omega) (by intro i hi hb; have := hS i hb; omega)
            clear hl7 hsp hc7 hsrc6 Hl6 Hx6 hfree
            go_wp2_with fail
            go_roundw
            case rel => exact ⟨k + 1, by omega, by go_num, HI.out, hsrc7⟩
            case measure => simp [intOf]; omega
      · have hd : decide ((k : Int) < 30) = false := by simp; omega
        go_wp2_with fail
        go_meet
        exact ⟨sl, ow, u, Hl.out, Ho.out, Hw.out, Hx.out⟩
  case rest =>
    clear HP hsrc
    obtain ⟨sl, ow, u, hl, ho, hw, hx⟩ := hcut
    have Hl := Lib.hid hl
    have Ho := Lib.hid ho
    have Hw := Lib.hid hw
    have Hx := Lib.hid hx
    clear hl ho hw hx
    go_wp2_with fail
    go_loopw [10, 9] (fun o v wr => ∃ (c : Nat) (hs : List (List UInt8)), c ≤ 4 ∧ o = .int .i64 (c : Int) ∧ hs.length ≤ 16 * c ∧ Asc hs ∧ (∀ x, x ∈ hs ↔ ∃ j k, j < 16 ∧ sl j = some k ∧ ow j < (c : Int) ∧ k.data.toList = x) ∧ wr.ownsRow wc.heap.size 9 1 v hs.length (hs.map encStr) ∧ Ext wc wr) (fun o _ _ => 4 - (intOf o).toNat)
    case atStart =>
      refine ⟨0, [], by omega, rfl, by simp, List.Pairwise.nil, fun x => ⟨fun h => by simp at h, ?_⟩, World.ownsRow_nil _ _ _ _, Ext.refl _⟩
      rintro ⟨j, k, hj, h1, h2, _⟩
      have := (Hw.out k (ow j) ⟨j, hj, h1, rfl⟩).1
      omega
    case round =>
      obtain ⟨c, hs, hc4, rfl, hlen, ha, hm, hown, hx⟩ := hrel
      have Ha := Lib.hid ha
      have Hm := Lib.hid hm
      have Hown := Lib.hid hown
      have Hxr := Lib.hid hx
      have Hlr := Lib.hid (Hl.out.ext hx)
      clear ha hm hown hx
      by_cases hcl : c < 4
      · have hd : decide ((c : Int) < 4) = true := by simp; omega
        go_wp2_with fail
        refine (held_any b g h 16 sl ow u (c : Int) _ (by omega) Hlr.out).mono ?_
        rintro e w1 ⟨v1, rfl, ho1, hx1⟩
        obtain ⟨a1, k1, hv1⟩ := own_shape ho1
        subst hv1
        have hll : (keysK sl (fun j => ow j == (c : Int)) 16).length ≤ 16 := by rw [keysK_len]; exact colK_len _ _ _
        have hasc : Asc (keysK sl (fun j => ow j == (c : Int)) 16) := keysK_asc Ho.out.tab.dis
        have hr1 : Rd w1 (fun _ => True) 1 _ _ _ := Rd.of_own ho1 (fun _ _ => trivial)
        obtain ⟨ls, hls⟩ : ∃ ls, keysK sl (fun j => ow j == (c : Int)) 16 = ls := ⟨_, rfl⟩
        rw [hls] at hr1 hll hasc
        rw [hls]
        have Hls := Lib.hid hls
        have Hr1 := Lib.hid hr1
        have Hasc := Lib.hid hasc
        have Hlr := Lib.hid (Hlr.out.ext hx1)
        have Hx1 := Lib.hid (Hxr.out.trans hx1)
        have Ho1 := Lib.hid (own_ext Hown.out hx1)
        have hz0 := Hx1.out.size
        clear ho1 hx1 hr1 hls hasc Hown Hxr
        go_wp2_with fail
        go_loopw [58, 9] (fun o v wr => ∃ (i : Nat) (hs : List (List UInt8)), i ≤ ls.length ∧ o = .int .i64 (i : Int) ∧ hs.length ≤ 16 * c + i ∧ Asc hs ∧ (∀ x, x ∈ hs ↔ (∃ j k, j < 16 ∧ sl j = some k ∧ ow j < (c : Int) ∧ k.data.toList = x) ∨ x ∈ ls.take i) ∧ wr.ownsRow wc.heap.size 9 1 v hs.length (hs.map encStr) ∧ Ext w1 wr) (fun o _ _ => ls.length - (intOf o).toNat)
        case atStart => exact ⟨0, hs, by omega, rfl, by omega, Ha.out, fun x => by rw [Hm.out x]; simp, Ho1.out, Ext.refl _⟩
        case round =>
          clear Ha Hm Ho1 hlen
          clear hs
          obtain ⟨i, hs, hi, rfl, hlen, ha, hm, hown, hx⟩ := hrel
          have Ha := Lib.hid ha
          have Hm := Lib.hid hm
          have Hown := Lib.hid hown
          have Hxi := Lib.hid hx
          have Hli := Lib.hid (Hlr.out.ext hx)
          by_cases hil : i < ls.length
          · have hd2 : decide ((i : Int) < (ls.length : Int)) = true := by simpa using hil
            obtain ⟨x, hxi⟩ : ∃ x, ls[i]? = some x := ⟨ls[i], by simp [hil]⟩
            obtain ⟨j0, key, hj0, hsj0, hoj0, hkx⟩ := keysK_at (by rw [Hls.out]; exact hxi)
            have hoj : ow j0 = (c : Int) := by simpa using hoj0
            obtain ⟨g9, o9, c9, e9, h91, h92, _, _, hc9⟩ := (Hr1.out.ext hx).at_ hil
            have d0 := hc9 i (.string key) (by rw [List.getElem?_map, hxi, ← hkx]; simp [enc_key])
            simp only [Value.slice.injEq, true_and] at e9
            obtain ⟨rfl, rfl⟩ := e9
            have hks := Ho.out.keys j0 key hj0 hsj0
            have i0 : (0 : Int) ≤ (i : Int) := by omega
            have i1 : (i : Int) < (ls.length : Int) := by omega
            have hc92 : k1 ≤ 9223372036854775807 := by unfold maxLen at h92; omega
            have hno : key.data.toList ∉ hs := fun hk => by
              rcases (hm _).1 hk with ⟨j, k, hj, h1, h2, h3⟩ | hk
              · have e1 := data_inj h3
                subst e1
                have := Ho.out.tab.dis j j0 _ hj hj0 h1 hsj0
                subst this
                omega
              · obtain ⟨j, hj, he⟩ := List.getElem_of_mem hk
                have hjl : j < i := by rw [List.length_take] at hj; omega
                rw [List.getElem_take] at he
                have hlt := List.pairwise_iff_getElem.1 Hasc.out j i (by omega) hil hjl
                rw [List.getElem?_eq_getElem hil] at hxi
                simp only [Option.some.injEq] at hxi
                rw [he, hxi, ← hkx] at hlt
                exact List.lt_irrefl _ hlt
            have Hno := Lib.hid hno
            have Hxk := Lib.hid (show ls[i]? = some key.data.toList from by rw [hxi, hkx])
            have Hsj := Lib.hid hsj0
            have Hoj := Lib.hid hoj
            obtain ⟨fu, hfu, hfree⟩ := Ho.out.free
            have Hfree := Lib.hid hfree
            by_cases hi0 : 0 < i
            · have hd3 : decide ((0 : Int) < (i : Int)) = true := by simp; omega
              obtain ⟨y, hyi⟩ : ∃ y, ls[i - 1]? = some y := ⟨ls[i - 1]'(by omega), by simp⟩
              obtain ⟨j1, prev, _, _, _, hpy⟩ := keysK_at (by rw [Hls.out]; exact hyi)
              have d1 := hc9 (i - 1) (.string prev) (by rw [List.getElem?_map, hyi, ← hpy]; simp [enc_key])
              have hii : (i : Int) - 1 = ((i - 1 : Nat) : Int) := by omega
              have hlt : prev.data.toList < key.data.toList := by
                have hlt := List.pairwise_iff_getElem.1 Hasc.out (i - 1) i (by omega) hil (by omega)
                rw [List.getElem?_eq_getElem hil] at hxi
                rw [List.getElem?_eq_getElem (by omega)] at hyi
                simp only [Option.some.injEq] at hxi hyi
                rw [hyi, hxi, ← hkx, ← hpy] at hlt
                exact hlt
              obtain ⟨l1, l2⟩ := le_false hlt
              have d1' := fun wz (hz : Ext wr wz) => (hz.cell (p := ⟨g9, o9 + (i - 1), none⟩) (lt_of_cell' d1)).trans d1
              clear ha hm hown hx hxi hyi hkx hpy hsj0 hoj0 hoj hfree hc9 hno hlt
              go_wp2_with fail
              refine (owner_any b g h 16 sl ow u key _ (by omega) (by omega) hks Hli.out fu hfu Hfree.out).mono ?_
              rintro e w9 ⟨p9, ok9, hf9, rfl, hx9⟩
              obtain ⟨rfl, rfl⟩ := Ho.out.find ⟨hj0, Hsj.out⟩ hf9
              have hcc : ((c : Int) != (c : Int)) = false := by simp
              have Hx9 := Lib.hid (Hxi.out.trans hx9)
              have Ho9 := Lib.hid (own_ext Hown.out hx9)
              have hz9 := hx9.size
              have hz8 := Hxi.out.size
              simp only [if_true]
              rw [Hoj.out]
              have d2 := d1' _ hx9
              clear hx9 hf9 d1' d1
              go_wp2_with fail
              refine (ins_any _ _ hs key _ Ho9.out (by omega)).mono ?_
              rintro e w10 ⟨i', v', hi', hlo, hhi, rfl, ho10, hx10⟩
              obtain ⟨a10, k10, hv10⟩ := own_shape ho10
              subst hv10
              have Ha10 := Lib.hid (ins_asc Ha.out Hno.out hi' hlo hhi)
              have Ho10 := Lib.hid (own_base ho10 (base' := wc.heap.size) (by omega))
              have Hx10 := Lib.hid (Hx9.out.trans hx10)
              clear ho10 hx10 hlo hhi
              go_wp2_with fail
              go_roundw
              case rel =>
                refine ⟨i + 1, _, by omega, by go_num, by rw [ins_len hi']; omega, Ha10.out, fun x => (mem_insert i').trans ?_, by rw [ins_len hi']; exact Ho10.out, Hx10.out⟩
                rw [Hm.out x, List.take_add_one, Hxk.out, List.mem_append]
                simp only [Option.toList, List.mem_singleton]
                constructor
                · rintro (h | h | h)
                  · exact .inr (.inr h)
                  · exact .inl h
                  · exact .inr (.inl h)
                · rintro (h | h | h)
                  · exact .inr (.inl h)
                  · exact .inr (.inr h)
                  · exact .inl h
              case measure => simp [intOf]; omega
            · have hd3 : decide ((0 : Int) < (i : Int)) = false := by simp; omega
              clear ha hm hown hx hxi hkx hsj0 hoj0 hoj hfree hc9 hno
              go_wp2_with fail
              refine (owner_any b g h 16 sl ow u key _ (by omega) (by omega) hks Hli.out fu hfu Hfree.out).mono ?_
              rintro e w9 ⟨p9, ok9, hf9, rfl, hx9⟩
              obtain ⟨rfl, rfl⟩ := Ho.out.find ⟨hj0, Hsj.out⟩ hf9
              have hcc : ((c : Int) != (c : Int)) = false := by simp
              have Hx9 := Lib.hid (Hxi.out.trans hx9)
              have Ho9 := Lib.hid (own_ext Hown.out hx9)
              have hz9 := hx9.size
              have hz8 := Hxi.out.size
              simp only [if_true]
              rw [Hoj.out]
              clear hx9 hf9
              go_wp2_with fail
              refine (ins_any _ _ hs key _ Ho9.out (by omega)).mono ?_
              rintro e w10 ⟨i', v', hi', hlo, hhi, rfl, ho10, hx10⟩
              obtain ⟨a10, k10, hv10⟩ := own_shape ho10
              subst hv10
              have Ha10 := Lib.hid (ins_asc Ha.out Hno.out hi' hlo hhi)
              have Ho10 := Lib.hid (own_base ho10 (base' := wc.heap.size) (by omega))
              have Hx10 := Lib.hid (Hx9.out.trans hx10)
              clear ho10 hx10 hlo hhi
              go_wp2_with fail
              go_roundw
              case rel =>
                refine ⟨i + 1, _, by omega, by go_num, by rw [ins_len hi']; omega, Ha10.out, fun x => (mem_insert i').trans ?_, by rw [ins_len hi']; exact Ho10.out, Hx10.out⟩
                rw [Hm.out x, List.take_add_one, Hxk.out, List.mem_append]
                simp only [Option.toList, List.mem_singleton]
                constructor
                · rintro (h | h | h)
                  · exact .inr (.inr h)
                  · exact .inl h
                  · exact .inr (.inl h)
                · rintro (h | h | h)
                  · exact .inr (.inl h)
                  · exact .inr (.inr h)
                  · exact .inl h
              case measure => simp [intOf]; omega
          · have hie : i = ls.length := by omega
            subst hie
            have hm2 : ∀ x, x ∈ hs ↔ ∃ j k, j < 16 ∧ sl j = some k ∧ ow j < ((c + 1 : Nat) : Int) ∧ k.data.toList = x := fun x => by
              rw [hm x, List.take_length, ← Hls.out, mem_keysK]
              constructor
              · rintro (⟨j, k, h1, h2, h3, h4⟩ | ⟨j, k, h1, h2, h3, h4⟩)
                · exact ⟨j, k, h1, h2, by omega, h4⟩
                · have : ow j = (c : Int) := by simpa using h3
                  exact ⟨j, k, h1, h2, by omega, h4⟩
              · rintro ⟨j, k, h1, h2, h3, h4⟩
                by_cases he : ow j = (c : Int)
                · exact .inr ⟨j, k, h1, h2, by simpa using he, h4⟩
                · exact .inl ⟨j, k, h1, h2, by omega, h4⟩
            have Hm2 := Lib.hid hm2
            have Hxf := Lib.hid (Hx1.out.trans hx)
            clear ha hm hown hx hm2
            go_wp2_with fail
            go_roundw
            case rel => exact ⟨c + 1, hs, by omega, by go_num, by omega, Ha.out, Hm2.out, Hown.out, Hxf.out⟩
            case measure => simp [intOf]; omega
      · have hd : decide ((c : Int) < 4) = false := by simp; omega
        have hke : keysK sl (fun _ => true) 16 = hs := tab_sorted Ho.out.tab Ha.out fun x => (Hm.out x).trans ⟨fun ⟨j, k, h1, h2, _, h4⟩ => ⟨j, k, h1, h2, h4⟩, fun ⟨j, k, h1, h2, h4⟩ => ⟨j, k, h1, h2, by have := (Hw.out k (ow j) ⟨j, h1, h2, rfl⟩).2; omega, h4⟩⟩
        have Hke := Lib.hid hke
        clear hke
        go_wp2_with fail
        refine (awake25 _).mono ?_
        rintro e w4 ⟨rfl, hx4⟩
        have Hl4 := Lib.hid (Hlr.out.ext hx4)
        have Ho4 := Lib.hid (own_ext Hown.out hx4)
        have Hx4 := Lib.hid ((Hx.out.trans Hxr.out).trans hx4)
        clear hx4 Hlr Hown
        go_wp2_with fail
        refine (lkeys_any b g h 16 sl ow u _ (by omega) Hl4.out).mono ?_
        rintro e w5 ⟨v5, rfl, ho5, hx5⟩
        rw [Hke.out] at ho5
        have hr1 : Rd w5 (fun _ => True) 1 _ _ _ := Rd.of_own (own_ext Ho4.out hx5) (fun _ _ => trivial)
        have hr2 : Rd w5 (fun _ => True) 1 v5 hs.length (hs.map encStr) := Rd.of_own ho5 (fun _ _ => trivial)
        have Hr1 := Lib.hid hr1
        have Hr2 := Lib.hid hr2
        have Hx5 := Lib.hid (Hx4.out.trans hx5)
        clear hr1 hr2 ho5 hx5 Hx4 Ho4
        go_wp2_with fail
        refine (same_str _ v5 hs.length hs _ _ _ Hr1.out Hr2.out).mono ?_
        rintro e w6 ⟨rfl, hx6⟩
        have Hx6 := Lib.hid (Hx5.out.trans hx6)
        clear hx6
        go_wp2_with fail
        go_ret
        exact ⟨rfl, Ext.below Hx6.out⟩
end locksHeld
end Go.Proofs.Ytkhfjedeccjnbaa
