/-
  The walk of StoreLast: it returns true and changes nothing that was there.
  Conditions: none.
-/
import Derived.Test.YtkhfjedeccjnbaaSKeys
import Derived.Test.YtkhfjedeccjnbaaWay
import Derived.Test.YtkhfjedeccjnbaaLaw26d
import Derived.Test.YtkhfjedeccjnbaaRec26
import Derived.Test.YtkhfjedeccjnbaaBoth26
import Derived.Deep.CutBlock
import Derived.Deep.MidRow
import Derived.Deep.RegionHeld3
import Derived.Deep.DeepCutAuto
namespace Go.Proofs.Ytkhfjedeccjnbaa
open Go.RowKit Go.Sort
set_option maxHeartbeats 8000000

def letter (v : Nat) : ByteArray := ⟨#[UInt8.ofNat (97 + v)]⟩
theorem letter_size (v : Nat) : (letter v).size ≤ maxLen := by show 1 ≤ maxLen; unfold maxLen; omega
theorem letter_inj {a b : Nat} (ha : a < 26) (hb : b < 26) (h : letter a = letter b) : a = b := by
  unfold letter at h
  simp only [ByteArray.mk.injEq, Array.mk.injEq, List.cons.injEq, and_true] at h
  have := congrArg UInt8.toNat h
  simp at this
  omega
theorem letter_cut : ∀ v, v < 26 → (⟨#[97, 98, 99, 100, 101, 102, 103, 104, 105, 106, 107, 108, 109, 110, 111, 112, 113, 114, 115, 116, 117, 118, 119, 120, 121, 122]⟩ : ByteArray).extract v (v + 1) = letter v := by decide
def LetterPost (B b : Nat) (w : World) (e : Ending) (w' : World) : Prop := ∃ v : Nat, v < 26 ∧ e = .returned (.string (letter v)) ∧ Src B w' b ∧ Chg (· = b) w w'
theorem key26_val (b B : Nat) (w : World) (hsrc : Src B w b) : Calls Try.prog 83 #[.pointer (some ⟨b, 0, none⟩)] w (LetterPost B b w) := by
  go_enter Try.func83, Try.ntmps83
  go_wp2_with fail
  refine (next_any _ _ (by omega) (by omega) _ B hsrc).mono ?_
  rintro e w1 ⟨v, hv, rfl, hsrc2, hc, hz⟩
  have hv2 : v ≤ 25 := by omega
  have H := Lib.hid (letter_cut v (by omega))
  go_wp2_with fail
  go_ret
  exact ⟨v, by omega, by rw [← H.out]; rfl, hsrc2, hc⟩
/-- How many of the first i letters have a record. -/
def cntL (F : Nat → Rc) : Nat → Nat
  | 0 => 0
  | i + 1 => cntL F i + if (F i).st = 0 then 0 else 1
/-- Those letters. -/
def listL (F : Nat → Rc) : Nat → List (List UInt8)
  | 0 => []
  | i + 1 => listL F i ++ if (F i).st = 0 then [] else [(letter i).data.toList]
theorem listL_len (F : Nat → Rc) : ∀ i, (listL F i).length = cntL F i
  | 0 => rfl
  | i + 1 => by rw [listL, cntL, List.length_append, listL_len F i]; split <;> simp
theorem cntL_le (F : Nat → Rc) : ∀ i, cntL F i ≤ i
  | 0 => Nat.le_refl _
  | i + 1 => by have := cntL_le F i; rw [cntL]; split <;> omega
theorem mem_listL (F : Nat → Rc) (x : List UInt8) : ∀ i, x ∈ listL F i ↔ ∃ v, v < i ∧ (F v).st ≠ 0 ∧ (letter v).data.toList = x
  | 0 => by simp [listL]
  | i + 1 => by
    rw [listL, List.mem_append, mem_listL F x i]
    constructor
    · rintro (⟨v, h1, h2⟩ | h)
      · exact ⟨v, by omega, h2⟩
      · split at h
        · simp at h
        · rename_i h0
          exact ⟨i, by omega, h0, (List.mem_singleton.1 h).symm⟩
    · rintro ⟨v, h1, h2, h3⟩
      rcases (show v < i ∨ v = i by omega) with h | rfl
      · exact .inl ⟨v, h, h2, h3⟩
      · refine .inr ?_
        rw [if_neg h2]; simpa using h3.symm
theorem listL_asc (F : Nat → Rc) : ∀ i, i ≤ 26 → Asc (listL F i)
  | 0, _ => List.Pairwise.nil
  | i + 1, hi => by
    rw [listL]
    unfold Asc
    rw [List.pairwise_append]
    refine ⟨listL_asc F i (by omega), ?_, fun a ha b hb => ?_⟩
    · split
      · exact List.Pairwise.nil
      · exact List.pairwise_singleton _ _
    · split at hb
      · simp at hb
      · rw [List.mem_singleton] at hb
        subst hb
        obtain ⟨v, h1, _, rfl⟩ := (mem_listL F a i).1 ha
        show [UInt8.ofNat (97 + v)] < [UInt8.ofNat (97 + i)]
        rw [List.cons_lt_cons_iff]
        refine .inl ?_
        rw [UInt8.lt_iff_toNat_lt]
        simp; omega
/-- The store and what was put last for each letter. -/
structure LastOk (n : Nat) (sl : Nat → Option ByteArray) (f : Nat → Rc) (u : Int) (F : Nat → Rc) : Prop where
  ok : StOk n sl u
  val : ∀ v, v < 26 → Val rc0 n sl f (letter v) (F v)
  keys : ∀ key c, Holds n sl f key c → (∃ v, v < 26 ∧ key = letter v) ∧ c.st ≠ 0
theorem last_new : LastOk 4 (fun _ => none) (fun _ => rc0) 0 (fun _ => rc0) :=
  ⟨st_new, fun v _ => .inr ⟨fun i h => by simpa [Has] using h.2, rfl⟩, fun key c ⟨i, _, h, _⟩ => by simp at h⟩
theorem LastOk.list {n : Nat} {sl : Nat → Option ByteArray} {f : Nat → Rc} {u : Int} {F : Nat → Rc} (o : LastOk n sl f u F) : keysK sl (fun _ => true) n = listL F 26 := by
  refine asc_unique (keysK_asc o.ok.tab.dis) (listL_asc F 26 (Nat.le_refl _)) fun x => ?_
  rw [mem_keysK, mem_listL]
  constructor
  · rintro ⟨j, k, hj, h1, _, rfl⟩
    obtain ⟨⟨v, hv, rfl⟩, hst⟩ := o.keys k (f j) ⟨j, hj, h1, rfl⟩
    refine ⟨v, hv, ?_, rfl⟩
    have := val_same o.ok.tab (o.val v hv) (.inl ⟨j, hj, h1, rfl⟩)
    rw [this]; exact hst
  · rintro ⟨v, hv, hst, rfl⟩
    rcases o.val v hv with ⟨j, hj, h1, _⟩ | ⟨_, h⟩
    · exact ⟨j, letter v, hj, h1, rfl, rfl⟩
    · rw [h] at hst; exact absurd rfl hst
theorem LastOk.num {n : Nat} {sl : Nat → Option ByteArray} {f : Nat → Rc} {u : Int} {F : Nat → Rc} (o : LastOk n sl f u F) : u = (cntL F 26 : Nat) := by
  rw [← keysK_num o.ok.tab, o.list, listL_len]
theorem put_st {n : Nat} {sl : Nat → Option ByteArray} {f : Nat → Rc} {u : Int} (o : StOk n sl u) {key : ByteArray} (hk : key.size ≤ maxLen) {r : Rc} {n' : Nat} {sl' : Nat → Option ByteArray} {f' : Nat → Rc} {u' : Int} (s : PutSpec n sl f u key r 0 n' sl' f' u') : ∀ k c, Holds n' sl' f' k c → (k = key ∧ c = r ∧ r.st ≠ 0) ∨ Holds n sl f k c := by
  by_cases hst : r.st = 0
  · intro k c hkc
    rcases s with ⟨h, h0, _⟩ | ⟨hc, p, ok, hf, s⟩
    · omega
    rcases s with ⟨h0, rfl, _, rfl, rfl, s, hd, rfl, rfl⟩ | ⟨h0, rfl, _, rfl, rfl, rfl, rfl⟩ | ⟨h0, _⟩ | ⟨h0, _⟩ | ⟨h0, _⟩ | ⟨h0, _⟩
    · obtain ⟨fu, hfu, hfree⟩ := o.free
      obtain ⟨_, hH, _⟩ := rm_tab o.tab f (find_has hf) hfu hfree hd
      exact .inr ((hH k c).1 hkc).2
    · exact .inr hkc
    · exact absurd hst h0
    · exact absurd hst h0
    · exact absurd hst h0
    · exact absurd hst h0
  · intro k c hkc
    rcases ((put_ok_holds o hk hst s).2 k c).1 hkc with ⟨h1, h2⟩ | ⟨_, h⟩
    · exact .inl ⟨h1, h2, hst⟩
    · exact .inr h
/-- A Put of a letter's record: it fails only where the record is none. -/
theorem LastOk.put {n : Nat} {sl : Nat → Option ByteArray} {f : Nat → Rc} {u : Int} {F : Nat → Rc} (o : LastOk n sl f u F) {v : Nat} (hv : v < 26) {r : Rc} {code : Int} {n' : Nat} {sl' : Nat → Option ByteArray} {f' : Nat → Rc} {u' : Int} (s : PutSpec n sl f u (letter v) r code n' sl' f' u') :
    (code = 0 ∧ LastOk n' sl' f' u' (upd F v r)) ∨ (code ≠ 0 ∧ r.check = false ∧ LastOk n' sl' f' u' F) := by
  obtain ⟨o', h⟩ := put_law o.ok (letter_size v) s
  rcases h with ⟨rfl, _, hp⟩ | ⟨hc, rfl, rfl, rfl, rfl⟩
  · refine .inl ⟨rfl, o', fun v' hv' => ?_, fun key c hkc => ?_⟩
    · have := put_val hp (o.val v' hv')
      by_cases he : v' = v
      · subst he; rw [upd_same]; simpa using this
      · rw [upd_other _ _ he]
        rwa [if_neg (fun h => he (letter_inj hv' hv h))] at this
    · rcases put_st o.ok (letter_size v) s key c hkc with ⟨rfl, rfl, h⟩ | h
      · exact ⟨⟨v, hv, rfl⟩, h⟩
      · exact o.keys key c h
  · refine .inr ⟨hc, ?_, o⟩
    cases hck : r.check with
    | false => rfl
    | true =>
      exfalso
      have hn := o.num
      have hl := cntL_le F 26
      have hlo := o.ok.lo
      rcases s with ⟨h, _⟩ | ⟨_, p, ok, hf, s⟩
      · rw [hck] at h; simp at h
      rcases s with ⟨_, _, h, _⟩ | ⟨_, _, h, _⟩ | ⟨_, _, h, _⟩ | ⟨_, _, h1, h2, _⟩ | ⟨_, _, _, _, h, _⟩ | ⟨_, _, _, h, _⟩
      · exact hc h
      · exact hc h
      · exact hc h
      · omega
      · exact hc h
      · exact hc h
theorem zero_last : Try.zeroCells96 = recRow 26 := by kernel_rfl
theorem recs_zero (w : World) : RcsAt (w.alloc (Obj.cells Try.zeroCells96 96)) w.heap.size 26 (fun _ => rc0) := by
  rw [zero_last]
  have h : (w.alloc (.cells (recRow 26) 96)).heap[w.heap.size]? = some (.cells (recRow 26) 96) := (MapKept.heap_alloc w _).1
  refine ⟨(Array.getElem?_eq_some_iff.1 h).1, fun j => by simp only [World.frozen?, h]; simp, fun i hi => ?_⟩
  simp only [World.cell?, h]
  exact recRow_at 26 hi
theorem RcsAt.chg {w w' : World} {S : Nat → Prop} {h n : Nat} {f : Nat → Rc} (k : RcsAt w h n f) (c : Chg S w w') (hn : ¬ S h) : RcsAt w' h n f :=
  k.keep c.size (c.block h k.1 hn)
theorem RcsAt.ext {w w' : World} {h n : Nat} {f : Nat → Rc} (k : RcsAt w h n f) (x : Ext w w') : RcsAt w' h n f :=
  k.keep x.size (x.block k.1)
/-- The cells of n records. -/
def rcsCells (F : Nat → Rc) : Nat → List Value
  | 0 => []
  | n + 1 => rcsCells F n ++ (F n).cells
theorem rcsCells_len (F : Nat → Rc) : ∀ n, (rcsCells F n).length = n * 4
  | 0 => rfl
  | n + 1 => by rw [rcsCells, List.length_append, rcsCells_len F n]; simp [Rc.cells]; omega
theorem rcsCells_range {w : World} {h : Nat} {F : Nat → Rc} : ∀ n, RcsAt w h n F → w.rangeAt h 0 (rcsCells F n)
  | 0, _ => fun j v hv => by simp [rcsCells] at hv
  | n + 1, k => fun j v hv => by
    rw [rcsCells] at hv
    have hlen := rcsCells_len F n
    by_cases hj : j < n * 4
    · rw [List.getElem?_append_left (by omega)] at hv
      exact rcsCells_range n ⟨k.1, k.2.1, fun i hi => k.2.2 i (by omega)⟩ j v hv
    · rw [List.getElem?_append_right (by omega), hlen] at hv
      obtain ⟨c0, c1, c2, c3⟩ := k.2.2 n (by omega)
      rw [Nat.zero_add]
      have hj4 : j - n * 4 < 4 := by
        have := (List.getElem?_eq_some_iff.1 hv).1
        simpa [Rc.cells] using this
      obtain ⟨d, hd⟩ : ∃ d, j - n * 4 = d := ⟨_, rfl⟩
      have hjd : j = n * 4 + d := by omega
      rw [hd] at hv hj4
      rw [hjd]
      rcases (show d = 0 ∨ d = 1 ∨ d = 2 ∨ d = 3 by omega) with rfl | rfl | rfl | rfl <;> simp [Rc.cells] at hv <;> subst hv <;> assumption
theorem rcsCells_at (F : Nat → Rc) : ∀ (n i : Nat), i < n → ((rcsCells F n).drop (i * 4)).take 4 = (F i).cells
  | n + 1, i, hi => by
    have hlen := rcsCells_len F n
    rw [rcsCells]
    by_cases h : i < n
    · rw [List.drop_append_of_le_length (by omega), List.take_append_of_le_length (by rw [List.length_drop]; omega), rcsCells_at F n i h]
    · have : i = n := by omega
      subst this
      rw [← hlen, List.drop_left]
      rfl
theorem und96 : (Try.prog.underlying 96).map TypeDesc.isRow = some true := by kernel_rfl
theorem info96 : (Try.prog.info? 96).map (·.size) = some 104 := by kernel_rfl
theorem load96 : ∃ d, Try.prog.underlying 96 = some d ∧ d.isRow = true := by
  have hu := und96
  rw [Option.map_eq_some_iff] at hu
  obtain ⟨d, hd, hr⟩ := hu
  exact ⟨d, hd, hr⟩
/-- The whole array is loaded. -/
theorem wp_load96 {op : Oper} {a : Act} {w : World} {K : Act → World → Prop} {Q : Exit → Act → World → Prop} (x : Operand) (ho : op.op = .load 96 x) (lb : Nat) (hx : a.eval x = .pointer (some ⟨lb, 0, none⟩)) (F : Nat → Rc) (h : RcsAt w lb 26 F)
    (hK : K (a.put op.dst (.agg (rcsCells F 26).toArray)) w) : op.wp Try.prog a w K Q := by
  obtain ⟨d, hd, hr⟩ := load96
  exact wp_load_mid 96 x ho lb 0 hx (rcsCells F 26) d (rcsCells_range 26 h) hd hr (by rw [info96, rcsCells_len]) hK
theorem und96a : Try.prog.underlying 96 = some (.array 26 30) := by kernel_rfl
theorem undR : (Try.prog.underlying 30).map TypeDesc.isRow = some true := by kernel_rfl
theorem sizeR : (Try.prog.info? 30).map (·.size) = some 4 := by kernel_rfl
/-- An element of the loaded array. -/
theorem run_index96 (F : Nat → Rc) {j : Nat} (hj : j < 26) (w : World) : (Instr.index 96 (.agg (rcsCells F 26).toArray) (.int .i64 (j : Int))).run Try.prog w = .ok (.agg #[.int .i64 (F j).st, .int .i64 (F j).ow, .string (F j).nm, .int .i64 (F j).dl]) w := by
  have hu := undR
  rw [Option.map_eq_some_iff] at hu
  obtain ⟨d, hd, hr⟩ := hu
  have hq := sizeR
  rw [Option.map_eq_some_iff] at hq
  obtain ⟨q, hq, hs⟩ := hq
  have hagg : (isAgg 30).run Try.prog w = .ok true w := by
    unfold isAgg
    rw [Sem.run_bind, run_underlying hd w]
    cases d <;> simp_all
  have hsz : (sizeOf 30).run Try.prog w = .ok 4 w := by
    simp [sizeOf, typeInfo, hq, hs]
  have h0 : (0 : Int) ≤ (j : Int) ∧ (j : Int) < 26 := by omega
  have hc : (rcsCells F 26).toArray.extract (j * 4) (j * 4 + 4) = #[.int .i64 (F j).st, .int .i64 (F j).ow, .string (F j).nm, .int .i64 (F j).dl] := by
    rw [List.extract_toArray]
    show (List.extract (rcsCells F 26) (j * 4) (j * 4 + 4)).toArray = _
    rw [List.extract_eq_take_drop]
    have := rcsCells_at F 26 j hj
    rw [show j * 4 + 4 - j * 4 = 4 by omega, this]
    rfl
  simp only [Instr.index, asIntOf, Sem.run_bind, Sem.run_pure, Result.andThen_ok, run_underlying und96a]
  simp [h0, hsz, part, Sem.run_bind]
  exact rcsCells_at F 26 j hj
theorem let_conv (j : Nat) (hj : j < 26) (nb : Nat) (w : World) (hc : w.cell? ⟨nb, 0, none⟩ = some (.int .u8 (97 + (j : Int)))) : (convert 81 9 (.slice (some ⟨nb, 0, none⟩) 1 1)).run Try.prog w = .ok (.string (letter j)) w := by
  refine run_convert_bytes_back _ 81 9 5 ⟨nb, 0, none⟩ 1 [UInt8.ofNat (97 + j)] und_bytes und_byte und_str fun i hi => ?_
  rw [add_head]
  obtain rfl : i = 0 := by simp at hi; omega
  have e : (UInt8.ofNat (97 + j)).toNat = 97 + j := by simp; omega
  show w.cell? ⟨nb, 0, none⟩ = some (.int .u8 ((UInt8.ofNat (97 + j)).toNat : Int))
  rw [e, hc]; simp
/-- What the store and the array of the walk are like. -/
def LsI (w0 : World) (b sb lb : Nat) (wr : World) : Prop := ∃ g h n sl f u F, StoreAt wr b g h n sl f u ∧ LastOk n sl f u F ∧ w0.heap.size ≤ g ∧ w0.heap.size ≤ h ∧ g ≠ sb ∧ h ≠ sb ∧ g ≠ lb ∧ h ≠ lb ∧ RcsAt wr lb 26 F ∧ Src w0.heap.size wr sb ∧ Ext w0 wr
set_option maxRecDepth 100000
namespace storeLast
theorem walk (a : Option Addr) (len cap : Nat) (zs : List Int) (w : World) (hrow : IsRow .i64 w a len cap zs) :
    Calls Try.prog 26 #[.slice a len cap] w fun e w' => e = .returned (.bool true) ∧ Below w.heap.size w w' := by
  go_enter Try.func26, Try.ntmps26
  go_wp2_with fail
  refine (snew_any 4 _).mono ?_
  rintro e w1 (⟨hp, _⟩ | ⟨_, b, g, h, rfl, hb, hg, hh, hl, hx⟩)
  · exact absurd hp (by decide)
  have hl1 : StoreAt w1 b g h 4 (fun _ => none) (fun _ => rc0) 0 := hl
  clear hl
  go_wp2_with fail
  refine (from_any _ _ _ _).mono ?_
  rintro e w2 ⟨rfl, rfl⟩
  have hsrc : Src w.heap.size (w1.alloc (.cells #[.slice a len cap, .int .i64 0] 104)) w1.heap.size := src_of_row hrow hx
  have hbl : b < w1.heap.size := hl1.2.2.2.1
  have hgl : g < w1.heap.size := hl1.2.2.2.2.2.2.2.2.1.1
  have hhl : h < w1.heap.size := hl1.2.2.2.2.2.2.2.2.2.1
  have hl2 := hl1.ext ((Ext.refl _).alloc (.cells #[.slice a len cap, .int .i64 0] 104))
  have hx2 := hx.alloc (.cells #[.slice a len cap, .int .i64 0] 104)
  obtain ⟨sb, hsb⟩ : ∃ sb, w1.heap.size = sb := ⟨_, rfl⟩
  rw [hsb] at hsrc hbl hgl hhl
  have hsB : w.heap.size ≤ sb := by rw [← hsb]; exact hx.size
  obtain ⟨w2, hw2⟩ : ∃ w2, w1.alloc (.cells #[.slice a len cap, .int .i64 0] 104) = w2 := ⟨_, rfl⟩
  rw [hw2] at hsrc hl2 hx2 ⊢
  rw [hsb]
  have hr2 := recs_zero w2
  obtain ⟨lb, hlb⟩ : ∃ lb, w2.heap.size = lb := ⟨_, rfl⟩
  obtain ⟨w3, hw3⟩ : ∃ w3, w2.alloc (Obj.cells Try.zeroCells96 96) = w3 := ⟨_, rfl⟩
  have hsl := hsrc.lt
  have hbs : b < w2.heap.size := hl2.2.2.2.1
  have hgs : g < w2.heap.size := hl2.2.2.2.2.2.2.2.2.1.1
  have hhs : h < w2.heap.size := hl2.2.2.2.2.2.2.2.2.2.1
  have hbL : b ≠ lb := by omega
  have hsL : sb ≠ lb := by omega
  have hLB : w.heap.size ≤ lb := by have := hx2.size; omega
  have hbS : b ≠ sb := by omega
  have hP : LsI w b sb lb w3 := by
    rw [← hw3]
    exact ⟨g, h, 4, _, _, _, _, hl2.ext ((Ext.refl _).alloc _), last_new, hg, hh, by omega, by omega, by omega, by omega, by rw [← hlb]; exact hr2, hsrc.alloc _, hx2.alloc _⟩
  have HP := Lib.hid hP
  clear hP hl2 hsrc hx2 hr2 hg hh hgl hhl hgs hhs hl1 hx hrow
  clear g h
  go_upto_block 0 with fail
  clear hlb hw3 hsb hw2
  go_cut [7, 8, 9] from 25 to 48 (fun _ _ _ wx => LsI w b sb lb wx)
  case first =>
    go_wp2_with fail
    go_loopw [7] (fun o wr => ∃ k : Nat, k ≤ 60 ∧ o = .int .i64 (k : Int) ∧ LsI w b sb lb wr) (fun o _ => (60 - intOf o).toNat)
    case atStart => exact ⟨0, by omega, rfl, HP.out⟩
    case round =>
      clear HP
      obtain ⟨k, hk60, rfl, g, h, n, sl, f, u, F, hl, ho, hg, hh, hgS, hhS, hgL, hhL, hr, hsrc, hx⟩ := hrel
      by_cases hk : k < 60
      · have hd : decide ((k : Int) < 60) = true := by simp; omega
        have Hl := Lib.hid hl
        have Ho := Lib.hid ho
        have Hx := Lib.hid hx
        have Hr := Lib.hid hr
        clear hl ho hx hr
        go_wp2_with fail
        refine (left_src _ _ _ hsrc).mono ?_
        rintro e w3 ⟨⟨v, rfl⟩, hsrc3, hc3⟩
        have Hl3 := Lib.hid (Hl.out.chg_far hc3 hbS hgS hhS)
        have Hx3 := Lib.hid (Hx.out.chg_new hc3 (fun i hi => by subst hi; exact hsB))
        have Hr3 := Lib.hid (Hr.out.chg hc3 (fun e => hsL e.symm))
        clear hsrc hc3 Hl Hx Hr
        cases v
        · go_wp2_with fail
          go_meet
          exact ⟨g, h, n, sl, f, u, F, Hl3.out, Ho.out, hg, hh, hgS, hhS, hgL, hhL, Hr3.out, hsrc3, Hx3.out⟩
        · go_wp2_with fail
          refine (key26_val _ _ _ hsrc3).mono ?_
          rintro e w4 ⟨v, hv, rfl, hsrc4, hc4⟩
          have Hl4 := Lib.hid (Hl3.out.chg_far hc4 hbS hgS hhS)
          have Hx4 := Lib.hid (Hx3.out.chg_new hc4 (fun i hi => by subst hi; exact hsB))
          have Hr4 := Lib.hid (Hr3.out.chg hc4 (fun e => hsL e.symm))
          clear hsrc3 hc4 Hl3 Hx3 Hr3
          go_wp2_with fail
          refine (rec26_any _ _ _ hsrc4).mono ?_
          rintro e w5 ⟨st, ow, dl, nm, _, _, _, _, _, _, _, rfl, hsrc5, hc5⟩
          have Hl5 := Lib.hid (Hl4.out.chg_far hc5 hbS hgS hhS)
          have Hx5 := Lib.hid (Hx4.out.chg_new hc5 (fun i hi => by subst hi; exact hsB))
          have Hr5 := Lib.hid (Hr4.out.chg hc5 (fun e => hsL e.symm))
          clear hsrc4 hc5 Hl4 Hx4 Hr4
          have hxa : Ext w5 (w5.alloc (.cells #[.int .i64 st, .int .i64 ow, .string nm, .int .i64 dl] 30)) := (Ext.refl w5).alloc _
          have hra : RecAt (w5.alloc (.cells #[.int .i64 st, .int .i64 ow, .string nm, .int .i64 dl] 30)) w5.heap.size st ow dl nm := by
            refine ⟨?_, ?_, ?_, ?_, fun i => ?_⟩ <;> go_simp
          obtain ⟨rb, hrb⟩ : ∃ rb, w5.heap.size = rb := ⟨_, rfl⟩
          have hbl : b < rb := by rw [← hrb]; exact Hl5.out.2.2.2.1
          have hgl : g < rb := by rw [← hrb]; exact Hl5.out.2.2.2.2.2.2.2.2.1.1
          have hhl : h < rb := by rw [← hrb]; exact Hl5.out.2.2.2.2.2.2.2.2.2.1
          have hll : lb < rb := by rw [← hrb]; exact Hr5.out.1
          have Hl6 := Lib.hid (Hl5.out.ext hxa)
          have Hx6 := Lib.hid (Hx5.out.trans hxa)
          have Hr6 := Lib.hid (Hr5.out.ext hxa)
          have Hs6 := Lib.hid (hsrc5.alloc (.cells #[.int .i64 st, .int .i64 ow, .string nm, .int .i64 dl] 30))
          rw [hrb] at hra
          have Hra := Lib.hid hra
          have hnv : ¬ (rb = b ∨ rb = g ∨ rb = h) := by omega
          have hnL : ¬ (lb = b ∨ lb = g ∨ lb = h) := by rintro (e | e | e); exact hbL e.symm; exact hgL e.symm; exact hhL e.symm
          have hnS : ¬ (sb = b ∨ sb = g ∨ sb = h) := by rintro (e | e | e); exact hbS e.symm; exact hgS e.symm; exact hhS e.symm
          have hS : ∀ i, (i = b ∨ i = g ∨ i = h) → w.heap.size ≤ i := by rintro i (rfl | rfl | rfl) <;> assumption
          have hBS : ∀ i, i < w.heap.size → ¬ (i = b ∨ i = g ∨ i = h) := fun i hi e => absurd (hS i e) (by omega)
          have hsl5 := hsrc5.lt
          have hsr : sb < rb := by rw [← hrb]; exact hsl5
          have hz6 := Hx6.out.size
          clear hsrc5 hxa hra Hl5 Hx5 Hr5
          obtain ⟨w5a, hw5⟩ : ∃ x, w5.alloc (.cells #[.int .i64 st, .int .i64 ow, .string nm, .int .i64 dl] 30) = x := ⟨_, rfl⟩
          rw [hw5] at Hl6 Hx6 Hr6 Hs6 Hra
          have hrz := lt_of_cell Hra.out.1
          simp only at hrz
          obtain ⟨p0, p1, p2, p3, pf⟩ := Hra.out
          go_wp2_with fail
          refine (sput_any b g h n sl f u (letter v) st ow dl nm _ Ho.out.ok (letter_size v) Hl6.out).mono ?_
          rintro e w6 ⟨code, n9, g9, h9, sl9, f9, u9, rfl, hsp, hl9, hgh, hc9⟩
          have Hput := Lib.hid (Ho.out.put hv hsp)
          have Hl9 := Lib.hid hl9
          have Hx9 := Lib.hid (Hx6.out.chg_new hc9 hS)
          have Hr9 := Lib.hid (Hr6.out.chg hc9 hnL)
          have Hs9 := Lib.hid (Hs6.out.chg hc9 hnS hBS)
          have Hra9 := Lib.hid (Hra.out.chg hc9 hnv)
          have Hgh := Lib.hid (show (w.heap.size ≤ g9 ∧ w.heap.size ≤ h9 ∧ g9 ≠ sb ∧ h9 ≠ sb ∧ g9 ≠ lb ∧ h9 ≠ lb) by
            rcases hgh with ⟨rfl, rfl⟩ | ⟨q, q'⟩
            · exact ⟨hg, hh, hgS, hhS, hgL, hhL⟩
            · refine ⟨?_, ?_, ?_, ?_, ?_, ?_⟩ <;> omega)
          obtain ⟨r0, r1, r2, r3, rf⟩ := Hra9.out
          clear hsp hl9 hc9 hgh Hl6 Hx6 Hr6 Hs6 Hra hw5 p0 p1 p2 p3 pf
          rcases Hput.out with ⟨rfl, ho9⟩ | ⟨hcode, hck, ho9⟩
          · have Ho9 := Lib.hid ho9
            clear ho9 Hput
            obtain ⟨l0, l1, l2, l3⟩ := Hr9.out.2.2 v hv
            have lf := Hr9.out.2.1
            have hls : 0 < (letter v).size := by show 0 < 1; omega
            have hlv : ∀ h, ((letter v)[0]'h).toNat = 97 + v := fun h => by
              show (UInt8.ofNat (97 + v)).toNat = 97 + v
              simp; omega
            have hcg : Chg (· = lb) w6 ((((w6.setCell ⟨lb, v * 4, none⟩ (.int .i64 st)).setCell ⟨lb, v * 4 + 1, none⟩ (.int .i64 ow)).setCell ⟨lb, v * 4 + 2, none⟩ (.string nm)).setCell ⟨lb, v * 4 + 3, none⟩ (.int .i64 dl)).drew :=
              (((((Chg.refl (· = lb) w6).setCell (p := ⟨lb, v * 4, none⟩) (.inl rfl) _).setCell (p := ⟨lb, v * 4 + 1, none⟩) (.inl rfl) _).setCell (p := ⟨lb, v * 4 + 2, none⟩) (.inl rfl) _).setCell (p := ⟨lb, v * 4 + 3, none⟩) (.inl rfl) _).drew
            have hrs : RcsAt ((((w6.setCell ⟨lb, v * 4, none⟩ (.int .i64 st)).setCell ⟨lb, v * 4 + 1, none⟩ (.int .i64 ow)).setCell ⟨lb, v * 4 + 2, none⟩ (.string nm)).setCell ⟨lb, v * 4 + 3, none⟩ (.int .i64 dl)).drew lb 26 (upd F v ⟨st, ow, nm, dl⟩) :=
              (Hr9.out.set hv ⟨st, ow, nm, dl⟩).keep (Nat.le_refl _) rfl
            have Hend := Lib.hid (show LsI w b sb lb _ from ⟨g9, h9, n9, sl9, f9, u9, upd F v ⟨st, ow, nm, dl⟩, Hl9.out.chg_far hcg hbL Hgh.out.2.2.2.2.1 Hgh.out.2.2.2.2.2, Ho9.out, Hgh.out.1, Hgh.out.2.1, Hgh.out.2.2.1, Hgh.out.2.2.2.1, Hgh.out.2.2.2.2.1, Hgh.out.2.2.2.2.2, hrs, Hs9.out.chg hcg hsL (fun i hi e => by subst e; omega), Hx9.out.chg_new hcg (fun i hi => by subst hi; exact hLB)⟩)
            clear hcg hrs
            go_wp2_with fail
            go_region
            go_wp2_with fail
            go_roundw
            case rel => exact ⟨k + 1, by omega, by go_num, Hend.out⟩
            case measure => simp [intOf]; omega
          · have Ho9 := Lib.hid ho9
            have hcd : (code == 0) = false := by simpa using hcode
            clear ho9 Hput hcode
            go_wp2_with fail
            refine (rcheck_any _ _ _ _ _).mono ?_
            rintro e w7 ⟨rfl, hx7⟩
            have hck' : checkB st ow dl nm = false := hck
            have hl7 := Hl9.out.ext hx7
            have hr7 := Hr9.out.ext hx7
            have hs7 := Hs9.out.ext hx7
            have hxx := Hx9.out.trans hx7
            have Hall := Lib.hid (show LsI w b sb lb w7 from ⟨g9, h9, n9, sl9, f9, u9, F, hl7, Ho9.out, Hgh.out.1, Hgh.out.2.1, Hgh.out.2.2.1, Hgh.out.2.2.2.1, Hgh.out.2.2.2.2.1, Hgh.out.2.2.2.2.2, hr7, hs7, hxx⟩)
            clear hl7 hr7 hs7 hxx hx7
            go_wp2_with fail
            go_roundw
            case rel => exact ⟨k + 1, by omega, by go_num, Hall.out⟩
            case measure => simp [intOf]; omega
      · have hd : decide ((k : Int) < 60) = false := by simp; omega
        have Hl := Lib.hid hl
        have Ho := Lib.hid ho
        have Hx := Lib.hid hx
        have Hr := Lib.hid hr
        clear hl ho hx hr
        go_wp2_with fail
        go_meet
        exact ⟨g, h, n, sl, f, u, F, Hl.out, Ho.out, hg, hh, hgS, hhS, hgL, hhL, Hr.out, hsrc, Hx.out⟩
  case rest =>
    clear HP
    obtain ⟨g, h, n, sl, f, u, F, hl, ho, hg, hh, hgS, hhS, hgL, hhL, hr, hsrc, hx⟩ := hcut
    have Hl := Lib.hid hl
    have Ho := Lib.hid ho
    have Hx := Lib.hid hx
    have Hr := Lib.hid hr
    clear hl ho hx hr hsrc
    go_wp2_with fail
    refine wp_load96 _ rfl lb rfl F Hr.out ?_
    simp only [Act.put]
    go_wp2_with fail
    go_loopw [10, 50] (fun c o wr => ∃ j : Nat, j ≤ 26 ∧ o = .int .i64 (j : Int) ∧ c = .int .i64 (cntL F j : Nat) ∧ StoreAt wr b g h n sl f u ∧ Ext w wr) (fun _ o _ => 26 - (intOf o).toNat)
    case atStart => exact ⟨0, by omega, rfl, rfl, Hl.out, Hx.out⟩
    case round =>
      clear Hl Hx Hr
      obtain ⟨j, hj26, rfl, rfl, hl, hx⟩ := hrel
      by_cases hj : j < 26
      · have hd : decide ((j : Int) < 26) = true := by simp; omega
        have Hl := Lib.hid hl
        have Hx := Lib.hid hx
        clear hl hx
        have hix := fun w => run_index96 F hj w
        have hcl := cntL_le F j
        have hz := Hl.out.2.2.2.1
        obtain ⟨rc, hrc⟩ : ∃ rc, F j = rc := ⟨_, rfl⟩
        have hval : Val rc0 n sl f (letter j) rc := by rw [← hrc]; exact Ho.out.val j hj
        have hcn : (cntL F (j + 1) : Nat) = cntL F j + if rc.st = 0 then 0 else 1 := by rw [← hrc]; rfl
        rw [hrc] at hix
        obtain ⟨st, ow, nm, dl⟩ := rc
        simp only at hix hcn
        have Hval := Lib.hid hval
        have Hcn := Lib.hid hcn
        clear hrc hval hcn
        have hra : RecAt (wr.alloc (.cells #[.int .i64 st, .int .i64 ow, .string nm, .int .i64 dl] 30)) wr.heap.size st ow dl nm := by
          refine ⟨?_, ?_, ?_, ?_, fun i => ?_⟩ <;> go_simp
        have Hl6 := Lib.hid (Hl.out.ext ((Ext.refl wr).alloc (.cells #[.int .i64 st, .int .i64 ow, .string nm, .int .i64 dl] 30)))
        have Hx6 := Lib.hid (Hx.out.alloc (.cells #[.int .i64 st, .int .i64 ow, .string nm, .int .i64 dl] 30))
        obtain ⟨rb, hrb⟩ : ∃ rb, wr.heap.size = rb := ⟨_, rfl⟩
        rw [hrb] at hra
        have Hra := Lib.hid hra
        obtain ⟨w6, hw6⟩ : ∃ x, wr.alloc (.cells #[.int .i64 st, .int .i64 ow, .string nm, .int .i64 dl] 30) = x := ⟨_, rfl⟩
        rw [hw6] at Hl6 Hx6 Hra
        have hrl := lt_of_cell Hra.out.1
        simp only at hrl
        obtain ⟨p0, p1, p2, p3, pf⟩ := Hra.out
        obtain ⟨nb, hnb⟩ : ∃ nb, w6.heap.size = nb := ⟨_, rfl⟩
        have hkc := let_conv j hj nb
        have hw1 : IntKind.i64.wrap (97 + (j : Int)) = 97 + (j : Int) := by unfold IntKind.wrap; simp [IntKind.bits, IntKind.signed]; omega
        have hw2 : IntKind.u8.wrap (97 + (j : Int)) = 97 + (j : Int) := by unfold IntKind.wrap; simp [IntKind.bits, IntKind.signed]; omega
        clear Hl Hx hra
        go_wp2_with fail
        refine wp_region_held_drew (S := fun w' => w'.cell? ⟨rb, 0, none⟩ = some (.int .i64 st) ∧ w'.cell? ⟨rb, 1, none⟩ = some (.int .i64 ow) ∧ w'.cell? ⟨rb, 2, none⟩ = some (.string nm) ∧ w'.cell? ⟨rb, 3, none⟩ = some (.int .i64 dl)) (by kernel_rfl) ?_ (fun hHeld => ?_)
        · go_keep
        refine wpAnyH_take (i := 0) (oi := _) (v := ?_) rfl (by kernel_rfl) (by kernel_rfl) (by kernel_rfl) (fun _ _ _ h => h) (Or.inl ⟨by rfl, ?_⟩) (by assumption) ?_; rotate_left; (focus ((intro w hSw; (try dsimp only at hSw); go_simp); (first | done | (with_reducible rfl)))); (try simp only [Act.put]); (try simp only [List.setIfInBounds_toArray])
        refine wpAnyH_take (i := 1) (oi := _) (v := ?_) rfl (by kernel_rfl) (by kernel_rfl) (by kernel_rfl) (fun _ _ _ h => h) (Or.inl ⟨by rfl, ?_⟩) (by assumption) ?_; rotate_left; (focus ((intro w hSw; (try dsimp only at hSw); go_simp); (first | done | (with_reducible rfl)))); (try simp only [Act.put]); (try simp only [List.setIfInBounds_toArray])
        refine wpAnyH_take (i := 2) (oi := _) (v := ?_) rfl (by kernel_rfl) (by kernel_rfl) (by kernel_rfl) (fun _ _ _ h => h) (Or.inl ⟨by rfl, ?_⟩) (by assumption) ?_; rotate_left; (focus ((intro w hSw; (try dsimp only at hSw); go_simp); (first | done | (with_reducible rfl)))); (try simp only [Act.put]); (try simp only [List.setIfInBounds_toArray])
        refine wpAnyH_take (i := 3) (oi := _) (v := ?_) rfl (by kernel_rfl) (by kernel_rfl) (by kernel_rfl) (fun _ _ _ h => h) (Or.inl ⟨by rfl, ?_⟩) (by assumption) ?_; rotate_left; (focus ((intro w hSw; (try dsimp only at hSw); go_simp); (first | done | (with_reducible rfl)))); (try simp only [Act.put]); (try simp only [List.setIfInBounds_toArray])
        refine wpAnyH_take (i := 7) (oi := _) (v := ?_) rfl (by kernel_rfl) (by kernel_rfl) (by kernel_rfl) (fun _ _ _ h => h) (Or.inl ⟨by rfl, ?_⟩) (by assumption) ?_; rotate_left; (focus ((intro w hSw; (try dsimp only at hSw); go_simp); (first | done | (with_reducible rfl)))); (try simp only [Act.put]); (try simp only [List.setIfInBounds_toArray])
        refine wpAnyH_ready (rs := [4]) (by kernel_rfl) (by simp) ?_; refine AllReadyH.cons (o := _) rfl (fun K hK => ?_) AllReadyH.nil; go_simp
        have hxn : Ext w6 (w6.alloc (.cells #[.int .u8 (97 + (j : Int))] 5)).drew := ((Ext.refl w6).alloc _).drew
        have hcn : (w6.alloc (.cells #[.int .u8 (97 + (j : Int))] 5)).drew.cell? ⟨nb, 0, none⟩ = some (.int .u8 (97 + (j : Int))) := by rw [← hnb]; go_simp
        obtain ⟨p0, p1, p2, p3, pf⟩ := Hra.out.ext hxn
        (try go_wp2_with fail); refine hK.out _ _ ?_ (fun hHeld => ?_); (focus ((try dsimp only); (first | done | go_keep))); clear hK K; try simp only [Act.put, List.setIfInBounds_toArray, List.set_cons_zero, List.set_cons_succ]
        have Hl7 := Lib.hid (Hl6.out.ext hxn)
        have Hx7 := Lib.hid (Hx6.out.trans hxn)
        have Hra7 := Lib.hid (Hra.out.ext hxn)
        clear hxn Hl6 Hx6 Hra pf
        obtain ⟨w7, hw7⟩ : ∃ x, (w6.alloc (.cells #[.int .u8 (97 + (j : Int))] 5)).drew = x := ⟨_, rfl⟩
        rw [hw7] at hcn p0 p1 p2 p3 Hl7 Hx7 Hra7 ⊢
        clear hw7
        refine wpAnyH_mono (S := fun w' => (w'.cell? ⟨rb, 0, none⟩ = some (.int .i64 st) ∧ w'.cell? ⟨rb, 1, none⟩ = some (.int .i64 ow) ∧ w'.cell? ⟨rb, 2, none⟩ = some (.string nm) ∧ w'.cell? ⟨rb, 3, none⟩ = some (.int .i64 dl)) ∧ w'.cell? ⟨nb, 0, none⟩ = some (.int .u8 (97 + (j : Int)))) (fun _ h => h.1) _ _ _ _ ?_
        have hHeld : (fun w' : World => (w'.cell? ⟨rb, 0, none⟩ = some (.int .i64 st) ∧ w'.cell? ⟨rb, 1, none⟩ = some (.int .i64 ow) ∧ w'.cell? ⟨rb, 2, none⟩ = some (.string nm) ∧ w'.cell? ⟨rb, 3, none⟩ = some (.int .i64 dl)) ∧ w'.cell? ⟨nb, 0, none⟩ = some (.int .u8 (97 + (j : Int)))) w7 := ⟨⟨p0, p1, p2, p3⟩, hcn⟩
        refine wpAnyH_take (i := 5) (oi := _) (v := ?_) rfl (by kernel_rfl) (by kernel_rfl) (by kernel_rfl) (fun _ _ _ h => h) (Or.inl ⟨by rfl, ?_⟩) (by assumption) ?_; rotate_left; (focus ((intro w hSw; (try dsimp only at hSw); go_simp); (first | done | (with_reducible rfl)))); (try simp only [Act.put]); (try simp only [List.setIfInBounds_toArray])
        refine wpAnyH_ready (rs := [6]) (by kernel_rfl) (by simp) ?_; refine AllReadyH.cons (o := _) rfl (fun K hK => ?_) AllReadyH.nil; go_simp
        refine (sget_val b g h n sl f u (letter j) st ow dl nm _ Ho.out.ok (letter_size j) Hl7.out Hval.out).mono ?_
        rintro e w8 ⟨rfl, hx8⟩
        have Hl8 := Lib.hid (Hl7.out.ext hx8)
        have Hx8 := Lib.hid (Hx7.out.trans hx8)
        have hnl := lt_of_cell hcn
        simp only at hnl
        have hcn := (hx8.cell (p := ⟨nb, 0, none⟩) hnl).trans hcn
        obtain ⟨p0, p1, p2, p3, pf⟩ := Hra7.out.ext hx8
        clear hx8
        (try go_wp2_with fail); refine hK.out _ _ ?_ (fun hHeld => ?_); (focus ((try dsimp only); (first | done | go_keep))); clear hK K; try simp only [Act.put, List.setIfInBounds_toArray, List.set_cons_zero, List.set_cons_succ]
        refine wpAnyH_take (i := 8) (oi := _) (v := ?_) rfl (by kernel_rfl) (by kernel_rfl) (by kernel_rfl) (fun _ _ _ h => h) (Or.inl ⟨by rfl, ?_⟩) (by assumption) ?_; rotate_left; (focus ((intro w hSw; (try dsimp only at hSw); go_simp); (first | done | (with_reducible rfl)))); (try simp only [Act.put]); (try simp only [List.setIfInBounds_toArray])
        refine wpAnyH_done (by kernel_rfl) ?_ _
        clear Hl7 Hx7 Hra7 hix hkc hw1 hw2 hHeld
        by_cases hs0 : st = 0
        · subst hs0
          have hcj : (cntL F (j + 1) : Nat) = cntL F j := by rw [Hcn.out]; simp
          clear Hcn
          go_wp2_with fail
          go_roundw
          case rel => exact ⟨j + 1, by omega, by go_num, by rw [hcj], Hl8.out, Hx8.out⟩
          case measure => simp [intOf]; omega
        · have hcj : (cntL F (j + 1) : Nat) = cntL F j + 1 := by rw [Hcn.out]; simp [hs0]
          have hsb : (st == 0) = false := by simpa using hs0
          clear Hcn
          go_wp2_with fail
          go_roundw
          case rel => exact ⟨j + 1, by omega, by go_num, by rw [hcj]; go_num, Hl8.out, Hx8.out⟩
          case measure => simp [intOf]; omega
      · have hje : j = 26 := by omega
        subst hje
        have Hl := Lib.hid hl
        have Hx := Lib.hid hx
        have hnum := Ho.out.num
        have hlen : (keysK sl (fun _ => true) n).length = cntL F 26 := by rw [Ho.out.list, listL_len]
        have hn4 := Ho.out.ok.hi
        obtain ⟨c, hc⟩ : ∃ c, cntL F 26 = c := ⟨_, rfl⟩
        rw [hc] at hnum hlen ⊢
        subst hnum
        clear hl hx hc
        go_wp2_with fail
        refine (awake26 _).mono ?_
        rintro e w4 ⟨rfl, hx4⟩
        have Hl4 := Lib.hid (Hl.out.ext hx4)
        have Hx4 := Lib.hid (Hx.out.trans hx4)
        clear hx4 Hl Hx
        go_wp2_with fail
        refine (slen_any b g h n sl f _ _ Hl4.out).mono ?_
        rintro e w5 ⟨rfl, rfl⟩
        go_wp2_with fail
        refine (skeys_any b g h n sl f _ _ (by omega) Hl4.out).mono ?_
        rintro e w5 ⟨v5, rfl, ho5, hx5⟩
        obtain ⟨a5, c5, hv5⟩ := own_shape ho5
        subst hv5
        rw [hlen]
        have Hx5 := Lib.hid (Hx4.out.trans hx5)
        clear ho5 hx5
        go_wp2_with fail
        go_ret
        exact ⟨rfl, Ext.below Hx5.out⟩
end storeLast
end Go.Proofs.Ytkhfjedeccjnbaa
