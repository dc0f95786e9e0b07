/-
  model.Decide answers as the plain law says (28.2).
  Conditions: what Do demands of its arguments.
-/
import Derived.Test.YthenclenabcmgaaModC
import Derived.Test.YthenclenabcmgaaModE
namespace Go.Proofs.Ythenclenabcmgaa
open Go.RowKit Go.Sort Go.Shelf
set_option maxHeartbeats 4000000
set_option maxRecDepth 20000

theorem own_baseM {w : World} {base base' : Nat} {e : TypeId} {size : Nat} {v : Value} {n : Nat} {xs : List Value} (h : w.ownsRow base e size v n xs) (hb : base' ≤ base) : w.ownsRow base' e size v n xs :=
  ⟨h.1, h.2.imp id fun ⟨g, cap, cur, a, b, c⟩ => ⟨g, cap, cur, a, Nat.le_trans hb b, c⟩⟩
theorem rd_litM (w : World) (cs : Array Value) (t : TypeId) (z : Nat) (h : cs.size = z) : Rd (w.alloc (.cells cs t)) (fun _ => True) z (.slice (some ⟨w.heap.size, 0, none⟩) 1 1) 1 cs.toList := by
  refine ⟨by simp [h], _, 1, rfl, Nat.le_refl _, by unfold maxLen; omega, fun _ => ⟨w.heap.size, 0, rfl, trivial, by simp, fun j u hu => ?_⟩⟩
  rw [Nat.zero_add]
  show (w.alloc (.cells cs t)).cell? ⟨w.heap.size, j, none⟩ = some u
  have h1 : (w.alloc (.cells cs t)).heap[w.heap.size]? = some (.cells cs t) := heap_alloc_new w _
  simp only [World.cell?, h1]
  simpa using hu
theorem own_chgM {S : Nat → Prop} {w w' : World} {base : Nat} {e : TypeId} {size : Nat} {v : Value} {n : Nat} {xs : List Value} (h : w.ownsRow base e size v n xs) (c : Chg S w w') (hS : ∀ k, v.ownBlock = some k → ¬ S k) : w'.ownsRow base e size v n xs := by
  refine ⟨h.1, ?_⟩
  rcases h.2 with hn | ⟨g, cap, cur, rfl, hb, hgg, rest⟩
  · exact .inl hn
  · exact .inr ⟨g, cap, cur, rfl, hb, (c.block g (Array.getElem?_eq_some_iff.1 hgg).1 (hS g rfl)).trans hgg, rest⟩
/-- Records read out of a slice. -/
abbrev RecsAt (w : World) (S : Nat → Prop) (v : Value) (rs : List Rc) : Prop := Rd w S 4 v rs.length (flatR rs)
theorem recsAt_get {w : World} {S : Nat → Prop} {v : Value} {rs : List Rc} (h : RecsAt w S v rs) {j : Nat} {r : Rc} (hr : rs[j]? = some r) :
    ∃ g o c, v = .slice (some ⟨g, o, none⟩) rs.length c ∧ rs.length ≤ c ∧ c ≤ maxLen ∧ g < w.heap.size ∧
      w.cell? ⟨g, o + j * 4, none⟩ = some (.int .i64 r.st) ∧ w.cell? ⟨g, o + j * 4 + 1, none⟩ = some (.int .i64 r.ow) ∧ w.cell? ⟨g, o + j * 4 + 2, none⟩ = some (.string r.nm) ∧ w.cell? ⟨g, o + j * 4 + 3, none⟩ = some (.int .i64 r.dl) := by
  have hj := (List.getElem?_eq_some_iff.1 hr).1
  obtain ⟨g, o, c, h1, h2, h3, _, h5, h6⟩ := Rd.at_ h hj
  have e : rs.getD j default = r := by rw [List.getD_eq_getElem?_getD, hr]; rfl
  have q := fun i hi => flatR_at rs hj i hi
  rw [e] at q
  exact ⟨g, o, c, h1, h2, h3, h5, h6 _ _ (q 0 (by omega)), h6 _ _ (q 1 (by omega)), h6 _ _ (q 2 (by omega)), h6 _ _ (q 3 (by omega))⟩
/-- An answer's memory, still empty. -/
structure RZ (w : World) (rb : Nat) : Prop where
  z0 : w.cell? ⟨rb, 0, none⟩ = some (.int .i64 0)
  z1 : w.cell? ⟨rb, 1, none⟩ = some (.int .i64 0)
  z2 : w.cell? ⟨rb, 2, none⟩ = some (.string ⟨#[]⟩)
  z3 : w.cell? ⟨rb, 3, none⟩ = some (.int .i64 0)
  z4 : w.cell? ⟨rb, 4, none⟩ = some (.int .i64 0)
  z5 : w.cell? ⟨rb, 5, none⟩ = some (.string ⟨#[]⟩)
  z6 : w.cell? ⟨rb, 6, none⟩ = some (.int .i64 0)
  z7 : w.cell? ⟨rb, 7, none⟩ = some (.int .i64 0)
  fz : ∀ i, w.frozen? ⟨rb, i, none⟩ = false
  lt : rb < w.heap.size
theorem RZ.chg {S : Nat → Prop} {w w' : World} {rb : Nat} (h : RZ w rb) (c : Chg S w w') (hb : ¬ S rb) : RZ w' rb :=
  ⟨(c.cell (p := ⟨rb, 0, none⟩) h.lt hb).trans h.z0, (c.cell (p := ⟨rb, 1, none⟩) h.lt hb).trans h.z1, (c.cell (p := ⟨rb, 2, none⟩) h.lt hb).trans h.z2, (c.cell (p := ⟨rb, 3, none⟩) h.lt hb).trans h.z3, (c.cell (p := ⟨rb, 4, none⟩) h.lt hb).trans h.z4, (c.cell (p := ⟨rb, 5, none⟩) h.lt hb).trans h.z5, (c.cell (p := ⟨rb, 6, none⟩) h.lt hb).trans h.z6, (c.cell (p := ⟨rb, 7, none⟩) h.lt hb).trans h.z7, fun i => (c.frozen (p := ⟨rb, i, none⟩) h.lt hb).trans (h.fz i), Nat.lt_of_lt_of_le h.lt c.size⟩
theorem RZ.ext {w w' : World} {rb : Nat} (h : RZ w rb) (x : Ext w w') : RZ w' rb := h.chg (x.chg (fun _ => False)) (fun h => h)
theorem rz_new (w : World) : RZ (w.alloc (.cells #[.int .i64 0, .int .i64 0, .string ⟨#[]⟩, .int .i64 0, .int .i64 0, .string ⟨#[]⟩, .int .i64 0, .int .i64 0] 28)) w.heap.size := by
  constructor <;> first | go_simp | (intro i; go_simp) | simp
def dlOf (op ttl now : Int) : Int := if timedB op = true then now + ttl else 0
def afters (op client dl : Int) (ps : List (Nm × Rc)) : List Rc := ps.map fun p => afterR op client dl p.1 p.2
def DecPost (cap op client ttl now count : Int) (ps : List (Nm × Rc)) (w : World) (e : Ending) (w' : World) : Prop :=
  ∃ av, e = .returned (.tuple #[respV (judgeR cap op client ttl now count ps), av]) ∧ Ext w w' ∧
    ((judgeR cap op client ttl now count ps).e = 0 → w'.ownsRow w.heap.size 26 4 av ps.length (flatR (afters op client (dlOf op ttl now) ps))) ∧
    ((judgeR cap op client ttl now count ps).e ≠ 0 → av = .slice none 0 0)
/-- Where the walk through the names stands. -/
structure DecAt (cap op client now count dl : Int) (ps : List (Nm × Rc)) (w W0 : World) (i : Nat) (c : Int) (l : Value) (wr : World) : Prop where
  j : JudgeTo cap op client now count ps i c
  own : wr.ownsRow W0.heap.size 26 4 l i (flatR (afters op client dl (ps.take i)))
  ext : Ext W0 wr
theorem afters_snoc {op client dl : Int} {ps : List (Nm × Rc)} {i : Nat} {p : Nm × Rc} (h : ps[i]? = some p) : flatR (afters op client dl (ps.take (i + 1))) = flatR (afters op client dl (ps.take i)) ++ (afterR op client dl p.1 p.2).cells := by
  rw [take_at h]
  simp only [afters, List.map_append, List.map_cons, List.map_nil, flatR_snoc]
theorem judge_over {cap op client ttl now count : Int} {ps : List (Nm × Rc)} (h : timedB op = true ∧ 1073741824 - now < ttl) : judgeR cap op client ttl now count ps = ⟨8, -1, ⟨#[]⟩, default, now⟩ := by unfold judgeR; rw [if_pos h]
theorem judge_stop {cap op client ttl now count e : Int} {ps : List (Nm × Rc)} {i : Nat} {n : ByteArray} (h : ¬ (timedB op = true ∧ 1073741824 - now < ttl)) (hj : judgeGo cap op client now 0 count ps = some (e, i, n)) : judgeR cap op client ttl now count ps = ⟨e, i, n, default, now⟩ := by unfold judgeR; rw [if_neg h, hj]
theorem judge_fine {cap op client ttl now count : Int} {p : Nm × Rc} {ps : List (Nm × Rc)} (h : ¬ (timedB op = true ∧ 1073741824 - now < ttl)) (hj : judgeGo cap op client now 0 count (p :: ps) = none) : judgeR cap op client ttl now count (p :: ps) = ⟨0, -1, ⟨#[]⟩, if op = 7 ∧ liveB p.2.st p.2.dl now = true then p.2 else default, now⟩ := by unfold judgeR; rw [if_neg h, hj]
theorem oneE_bad {cap op client now c t : Int} {r : Rc} (ht : testE r.st r.ow r.dl op client now = t) (h : t ≠ 0) : oneE cap op client now c r = t := by unfold oneE; rw [ht, if_neg fun q => h q.1]
theorem oneE_full {cap op client now c : Int} {r : Rc} (ht : testE r.st r.ow r.dl op client now = 0) (hg : 0 < growsI r.st op) (hc : cap ≤ c) : oneE cap op client now c r = 7 := by unfold oneE; rw [if_pos ⟨ht, hg, hc⟩]
theorem oneE_room {cap op client now c : Int} {r : Rc} (ht : testE r.st r.ow r.dl op client now = 0) (hc : ¬ (0 < growsI r.st op ∧ cap ≤ c)) : oneE cap op client now c r = 0 := by unfold oneE; rw [ht, if_neg fun q => hc q.2]

theorem decide_over (cl cap count client op ttl now : Int) (v rv : Value) (ps : List (Nm × Rc)) (w : World) (n0 : 0 ≤ now) (n1 : now ≤ 1073741824) (hT : timedB op = true) (t0 : 1 ≤ ttl) (t1 : ttl ≤ 1073741824) (ho : 1073741824 - now < ttl) :
    Calls Try.prog 32 #[.agg #[.int .i64 cl, .int .i64 cap], .int .i64 count, .int .i64 client, .int .i64 op, .int .i64 ttl, v, rv, .int .i64 now] w (DecPost cap op client ttl now count ps w) := by
  have hv : dlV now ttl = 0 := by unfold dlV; rw [if_neg (by omega)]
  have he : dlE now ttl = 8 := by unfold dlE; rw [if_pos ⟨tickB_true ⟨n0, n1⟩, t0, t1⟩, if_neg (by omega)]
  have Hj := Lib.hid (judge_over (cap := cap) (client := client) (count := count) (ps := ps) ⟨hT, ho⟩)
  clear ho n0 n1 t0 t1
  go_enter Try.func32, Try.ntmps32
  go_wp2_with (first | (go_at_call 35; refine (mtimed_any _ _).mono ?_; rintro e w1 ⟨rfl, rfl⟩; rw [hT]) | (go_at_call 39; refine (deadline_any _ _ _).mono ?_; rintro e w1 ⟨rfl, rfl⟩; rw [hv, he]))
  refine bodyPost_ret (v := .tuple #[respV ⟨8, -1, ⟨#[]⟩, default, now⟩, .slice none 0 0]) (by simp [results, Try.results32, go_sem, respV, def_rc]) rfl ⟨.slice none 0 0, by rw [Hj.out], ?_, fun h => ?_, fun _ => rfl⟩
  · (repeat refine ext_setCell ?_ (by first | (simp; done) | (simp; omega)) _)
    exact ((Ext.refl w).alloc _).alloc _
  · rw [Hj.out] at h; simp at h

theorem decide_timed {S T : Nat → Prop} (cl cap count client op ttl now : Int) (v rv : Value) (ps : List (Nm × Rc)) (w : World) (n0 : 0 ≤ now) (n1 : now ≤ 1073741824) (hT : timedB op = true) (t0 : 1 ≤ ttl) (t1 : ttl ≤ 1073741824) (hq : ttl ≤ 1073741824 - now) (hc0 : 0 ≤ count) (hc1 : count ≤ 1000000)
    (hl0 : 1 ≤ ps.length) (hl1 : ps.length ≤ 16) (hn : NmsAt w S v (ps.map Prod.fst)) (hr : RecsAt w T rv (ps.map Prod.snd)) :
    Calls Try.prog 32 #[.agg #[.int .i64 cl, .int .i64 cap], .int .i64 count, .int .i64 client, .int .i64 op, .int .i64 ttl, v, rv, .int .i64 now] w (DecPost cap op client ttl now count ps w) := by
  obtain ⟨A, cA, rfl⟩ := hn.shape
  obtain ⟨_, B, cB, rfl, hB1, hB2, _⟩ := id hr
  obtain ⟨nn, hnn⟩ : ∃ n, ps.length = n := ⟨_, rfl⟩
  have hm1 : (ps.map Prod.fst).length = nn := by simp [hnn]
  have hm2 : (ps.map Prod.snd).length = nn := by simp [hnn]
  rw [hm1, hm2]
  have Hm1 := Lib.hid hm1
  have Hm2 := Lib.hid hm2
  have Hnn := Lib.hid hnn
  rw [hnn] at hl0 hl1
  have Hn := Lib.hid hn
  have Hr := Lib.hid hr
  obtain ⟨D, hD⟩ : ∃ d, dlOf op ttl now = d := ⟨_, rfl⟩
  have hv : dlV now ttl = D := by rw [← hD]; unfold dlV dlOf; rw [if_pos ⟨tickB_true ⟨n0, n1⟩, t0, t1, hq⟩, if_pos hT]
  have he : dlE now ttl = 0 := by unfold dlE; rw [if_pos ⟨tickB_true ⟨n0, n1⟩, t0, t1⟩, if_pos hq]
  have hno : ¬ (timedB op = true ∧ 1073741824 - now < ttl) := by omega
  clear n0 n1 t0 t1 hq
  have HD := Lib.hid hD
  clear hn hr hm1 hm2 hnn hB1 hB2 hD
  have Hno := Lib.hid hno
  obtain ⟨cb, hcb⟩ : ∃ b, w.heap.size = b := ⟨_, rfl⟩
  have Hcb := Lib.hid hcb
  clear hno
  go_enter Try.func32, Try.ntmps32
  go_wp2_with (first | (go_at_call 35; refine (mtimed_any _ _).mono ?_; rintro e w1 ⟨rfl, rfl⟩; rw [hT]) | (go_at_call 39; refine (deadline_any _ _ _).mono ?_; rintro e w1 ⟨rfl, rfl⟩; rw [hv, he]))
  have hz0 : RZ ((w.alloc (.cells #[.int .i64 cl, .int .i64 cap] 37)).alloc (.cells #[.int .i64 0, .int .i64 0, .string ⟨#[]⟩, .int .i64 0, .int .i64 0, .string ⟨#[]⟩, .int .i64 0, .int .i64 0] 28)) (cb + 1) := by
    have := rz_new (w.alloc (.cells #[.int .i64 cl, .int .i64 cap] 37))
    rw [show (w.alloc (.cells #[.int .i64 cl, .int .i64 cap] 37)).heap.size = cb + 1 by simp [hcb]] at this
    exact this
  have hcf : ((w.alloc (.cells #[.int .i64 cl, .int .i64 cap] 37)).alloc (.cells #[.int .i64 0, .int .i64 0, .string ⟨#[]⟩, .int .i64 0, .int .i64 0, .string ⟨#[]⟩, .int .i64 0, .int .i64 0] 28)).cell? ⟨cb, 1, none⟩ = some (.int .i64 cap) := by rw [← hcb]; go_simp
  have hxw : Ext w ((w.alloc (.cells #[.int .i64 cl, .int .i64 cap] 37)).alloc (.cells #[.int .i64 0, .int .i64 0, .string ⟨#[]⟩, .int .i64 0, .int .i64 0, .string ⟨#[]⟩, .int .i64 0, .int .i64 0] 28)) := ((Ext.refl w).alloc _).alloc _
  have hsz : ((w.alloc (.cells #[.int .i64 cl, .int .i64 cap] 37)).alloc (.cells #[.int .i64 0, .int .i64 0, .string ⟨#[]⟩, .int .i64 0, .int .i64 0, .string ⟨#[]⟩, .int .i64 0, .int .i64 0] 28)).heap.size = cb + 2 := by simp [hcb]
  obtain ⟨W0, hW0⟩ : ∃ W, (w.alloc (.cells #[.int .i64 cl, .int .i64 cap] 37)).alloc (.cells #[.int .i64 0, .int .i64 0, .string ⟨#[]⟩, .int .i64 0, .int .i64 0, .string ⟨#[]⟩, .int .i64 0, .int .i64 0] 28) = W := ⟨_, rfl⟩
  rw [hW0] at hz0 hcf hxw hsz
  rw [hW0]
  clear hW0 hcb
  have Hz0 := Lib.hid hz0
  have Hcf := Lib.hid hcf
  have Hxw := Lib.hid hxw
  have Hsz := Lib.hid hsz
  clear hz0 hcf hxw hsz
  go_loopw [44, 1, 21] (fun o s l wr => ∃ (i : Nat) (c : Int), i ≤ nn ∧ o = .int .i64 (i : Int) ∧ s = .int .i64 c ∧ DecAt cap op client now count D ps w W0 i c l wr) (fun o _ _ _ => nn - (intOf o).toNat)
  case atStart => exact ⟨0, count, by omega, rfl, rfl, JudgeTo.start _ _ _ _ _ _, World.ownsRow_nil _ _ _ _, Ext.refl _⟩
  case round =>
    obtain ⟨i, c, hi, rfl, rfl, hd⟩ := hrel
    obtain ⟨la, lc, rfl⟩ := own_shape hd.own
    have hbd := hd.j.bd
    have hc2 : c ≤ 1000016 := by omega
    have hc3 : 0 ≤ c := by omega
    clear hbd
    have Hd := Lib.hid hd
    have hz := Hz0.out.ext hd.ext
    have hcf : wr.cell? ⟨cb, 1, none⟩ = some (.int .i64 cap) := (hd.ext.cell (p := ⟨cb, 1, none⟩) (by have := Hsz.out; simp only; omega)).trans Hcf.out
    have hcbl : cb + 2 ≤ wr.heap.size := by have := hd.ext.size; have := Hsz.out; omega
    obtain ⟨z0, z1, z2, z3, z4, z5, z6, z7, zf, zl⟩ := hz
    clear hd
    by_cases hlt : i < nn
    · have hdc : decide ((i : Int) < (nn : Int)) = true := by simpa using hlt
      obtain ⟨⟨n, r⟩, hp⟩ : ∃ p, ps[i]? = some p := ⟨ps[i]'(by have := Hnn.out; omega), by simp⟩
      have hp1 : (ps.map Prod.fst)[i]? = some n := by rw [List.getElem?_map, hp]; rfl
      have hp2 : (ps.map Prod.snd)[i]? = some r := by rw [List.getElem?_map, hp]; rfl
      have hxr := Hxw.out.trans Hd.out.ext
      obtain ⟨g, o, c', hv1, p1, p2, _, b1, hcell⟩ := (NmsAt.ext Hn.out hxr).get (j := i) (by rw [Hm1.out]; exact hlt)
      obtain ⟨x1, x2, x3⟩ := hcell _ _ hp1
      obtain ⟨g2, o2, c2', hv2, p3, p4, b2, y0, y1, y2, y3⟩ := recsAt_get (Rd.ext Hr.out hxr) hp2
      rw [Hm1.out] at hv1 p1
      rw [Hm2.out] at hv2 p3
      simp only [Value.slice.injEq, true_and] at hv1 hv2
      obtain ⟨rfl, rfl⟩ := hv1
      obtain ⟨rfl, rfl⟩ := hv2
      have i0 : (0 : Int) ≤ (i : Int) := by omega
      have i1 : (i : Int) < (nn : Int) := by omega
      have Hp := Lib.hid hp
      have Hxr := Lib.hid hxr
      clear hcell hp hp1 hp2 hxr
      obtain ⟨t, ht⟩ : ∃ t, testE r.st r.ow r.dl op client now = t := ⟨_, rfl⟩
      obtain ⟨gr, hgr⟩ : ∃ g, growsI r.st op = g := ⟨_, rfl⟩
      have hA2 : cb + 2 ≤ wr.heap.size := hcbl
      go_wp2_with fail
      refine (test_any _ _ _ _ _ _ _ _).mono ?_
      rintro x w1 ⟨rfl, hy⟩
      rw [ht]
      have e0 : w1.cell? ⟨wr.heap.size + 1, 0, none⟩ = some (.int .i64 r.st) := (hy.cell (by simp)).trans (by go_simp)
      have e1 : w1.cell? ⟨wr.heap.size + 1, 1, none⟩ = some (.int .i64 r.ow) := (hy.cell (by simp)).trans (by go_simp)
      have e2 : w1.cell? ⟨wr.heap.size + 1, 2, none⟩ = some (.string r.nm) := (hy.cell (by simp)).trans (by go_simp)
      have e3 : w1.cell? ⟨wr.heap.size + 1, 3, none⟩ = some (.int .i64 r.dl) := (hy.cell (by simp)).trans (by go_simp)
      have e4 : w1.cell? ⟨wr.heap.size, 0, none⟩ = some (.string n.a) := (hy.cell (by simp; omega)).trans (by go_simp)
      have hb1 : wr.heap.size + 2 ≤ w1.heap.size := by have := hy.size; simp at this; omega
      have Hx1 := Lib.hid ((((Ext.refl wr).alloc _).alloc _).trans hy)
      clear hy x1 x2 x3 y0 y1 y2 y3 z0 z1 z2 z3 z4 z5 z6 z7 zf zl hcf b1 b2
      go_wp2_with fail
      refine (grows_any _ _ _ _ _ _).mono ?_
      rintro x w2 ⟨rfl, hy⟩
      rw [hgr]
      have e0 := (hy.cell (p := ⟨wr.heap.size + 1, 0, none⟩) (by simp only; omega)).trans e0
      have e1 := (hy.cell (p := ⟨wr.heap.size + 1, 1, none⟩) (by simp only; omega)).trans e1
      have e2 := (hy.cell (p := ⟨wr.heap.size + 1, 2, none⟩) (by simp only; omega)).trans e2
      have e3 := (hy.cell (p := ⟨wr.heap.size + 1, 3, none⟩) (by simp only; omega)).trans e3
      have e4 := (hy.cell (p := ⟨wr.heap.size, 0, none⟩) (by simp only; omega)).trans e4
      have hb2 : wr.heap.size + 2 ≤ w2.heap.size := Nat.le_trans hb1 hy.size
      have Hx2 := Lib.hid (Hx1.out.trans hy)
      have hcf : w2.cell? ⟨cb, 1, none⟩ = some (.int .i64 cap) := ((Hd.out.ext.trans Hx2.out).cell (p := ⟨cb, 1, none⟩) (by have := Hsz.out; simp only; omega)).trans Hcf.out
      obtain ⟨z0, z1, z2, z3, z4, z5, z6, z7, zf, zl⟩ := Hz0.out.ext (Hd.out.ext.trans Hx2.out)
      clear hy Hx1 hb1
      have Ht := Lib.hid ht
      have Hgr := Lib.hid hgr
      clear ht hgr
      have hkinds : (t ≠ 0 ∧ (t == 0) = false) ∨ (t = 0 ∧ 0 < gr ∧ cap ≤ c) ∨ (t = 0 ∧ ¬ (0 < gr ∧ cap ≤ c)) := by
        by_cases h1 : t = 0
        · by_cases h2 : 0 < gr ∧ cap ≤ c
          · exact .inr (.inl ⟨h1, h2⟩)
          · exact .inr (.inr ⟨h1, h2⟩)
        · exact .inl ⟨h1, by simpa using h1⟩
      rcases hkinds with ⟨h1, hq1⟩ | ⟨rfl, hq1, hq2⟩ | ⟨rfl, hq⟩
      · have hone := oneE_bad (cap := cap) (c := c) Ht.out h1
        have Hst := Lib.hid (judge_stop Hno.out (Hd.out.j.stop (p := (n, r)) Hp.out (by rw [hone]; exact h1)))
        simp only at Hst
        rw [hone] at Hst
        clear hone
        go_wp2_with fail
        refine bodyPost_ret (v := .tuple #[respV ⟨t, i, n.a, default, now⟩, .slice none 0 0]) (by simp [results, Try.results32, go_sem, respV, def_rc, *]) rfl ⟨.slice none 0 0, by rw [Hst.out], ?_, fun h => ?_, fun _ => rfl⟩
        · (repeat refine ext_setCell ?_ (by first | (have := Hcb.out; simp; omega) | (have := Hcb.out; simp only; omega)) _)
          exact Hxr.out.trans Hx2.out
        · rw [Hst.out] at h; exact absurd h h1
      · have hg0 : decide (0 < gr) = true := by simpa using hq1
        have hg1 : decide (cap ≤ c) = true := by simpa using hq2
        have hone := oneE_full (cap := cap) (c := c) Ht.out (by rw [Hgr.out]; exact hq1) hq2
        have Hst := Lib.hid (judge_stop Hno.out (Hd.out.j.stop (p := (n, r)) Hp.out (by rw [hone]; decide)))
        simp only at Hst
        rw [hone] at Hst
        clear hone
        go_wp2_with fail
        refine bodyPost_ret (v := .tuple #[respV ⟨7, i, n.a, default, now⟩, .slice none 0 0]) (by simp [results, Try.results32, go_sem, respV, def_rc, *]) rfl ⟨.slice none 0 0, by rw [Hst.out], ?_, fun h => ?_, fun _ => rfl⟩
        · (repeat refine ext_setCell ?_ (by first | (have := Hcb.out; simp; omega) | (have := Hcb.out; simp only; omega)) _)
          exact Hxr.out.trans Hx2.out
        · rw [Hst.out] at h; simp at h
      · have hone := oneE_room (cap := cap) (c := c) Ht.out (by rw [Hgr.out]; exact hq)
        have Hj1 := Lib.hid (Hd.out.j.next (p := (n, r)) Hp.out hone)
        have hgc := growsI_cases r.st op
        rw [Hgr.out] at hgc
        clear hone z0 z1 z2 z3 z4 z5 z6 z7 zf zl
        have Q : (gr = 1 ∧ decide (cap ≤ c) = false ∧ nextC op c r = c + 1) ∨ (gr = 0 ∧ True ∧ nextC op c r = c) ∨ (gr = -1 ∧ True ∧ nextC op c r = c) := by
          rcases hgc with h | h | h
          · exact .inl ⟨h, by simp; omega, by unfold nextC; rw [Hgr.out, if_pos (by omega)]⟩
          · exact .inr (.inl ⟨h, trivial, by unfold nextC; rw [Hgr.out, if_neg (by omega)]⟩)
          · exact .inr (.inr ⟨h, trivial, by unfold nextC; rw [Hgr.out, if_neg (by omega)]⟩)
        clear hgc hq
        rcases Q with ⟨rfl, q1, q2⟩ | ⟨rfl, q1, q2⟩ | ⟨rfl, q1, q2⟩
        all_goals
          rw [q2] at Hj1
          have Hq2 := Lib.hid q2
          clear q2
          go_wp2_with fail
          refine (after_any _ _ _ _ _ _ _ _ _).mono ?_
          rintro x w3 ⟨rfl, hy⟩
          have Hx3 := Lib.hid (Hx2.out.trans hy)
          have hbz : W0.heap.size ≤ (w3.alloc (.cells #[.int .i64 (afSt r.st op), .int .i64 (afOw r.ow op client), .string (afNm r.nm op n.a), .int .i64 (afDl r.dl op D)] 26)).heap.size := by
            have := hy.size; have := Hsz.out; simp; omega
          clear hy e0 e1 e2 e3 e4 hcf Hx2
          obtain ⟨i0', hi', hz0', hz1', hz2'⟩ := info_parts info_rec
          have hrl := rd_litM w3 #[.int .i64 (afSt r.st op), .int .i64 (afOw r.ow op client), .string (afNm r.nm op n.a), .int .i64 (afDl r.dl op D)] 26 4 (by rfl)
          go_wp2_with (at_builtin; refine wpList_append_rd _ rfl _ _ 76 rfl W0.heap.size 26 i0' _ 4 40 und_recs hi' hz0' hz1' hz2' rfl (by decide) _ i _ rfl (own_ext Hd.out.own (Hx3.out.alloc _)) (fun _ => True) _ 1 _ rfl hrl (by simp [Value.oneCell']) (by unfold maxLen; omega) (by omega) hbz ?_; intro v' w4 ha; obtain ⟨a3, c3, hv3⟩ := own_shape ha.own; subst hv3)
          have hend : DecAt cap op client now count D ps w W0 (i + 1) _ (.slice a3 (i + 1) c3) w4 := ⟨Hj1.out, by rw [afters_snoc Hp.out]; exact ha.own, (Hd.out.ext.trans (Hx3.out.alloc _)).grown ha.grown fun k hk => (Hd.out.own.lt k hk).1⟩
          have Hend := Lib.hid hend
          clear ha hend hrl hbz
          go_roundw
          case rel => exact ⟨i + 1, _, by omega, by go_num, by first | rfl | (congr 1; omega) | simp, Hend.out⟩
          case measure => simp [intOf]; omega
    · have hdc : decide ((i : Int) < (nn : Int)) = false := by simp; omega
      obtain rfl : i = nn := by omega
      have Hdone := Lib.hid (show judgeGo cap op client now 0 count ps = none from by
        have := Hd.out.j
        rw [← Hnn.out] at this
        exact this.done)
      have hown := Hd.out.own
      rw [List.take_of_length_le (by rw [Hnn.out]; exact Nat.le_refl _)] at hown
      have Hown := Lib.hid hown
      clear hown
      obtain ⟨⟨n, r⟩, ps', rfl⟩ : ∃ p ps', ps = p :: ps' := by
        cases ps with
        | nil => have := Hnn.out; simp at this; omega
        | cons p ps' => exact ⟨p, ps', rfl⟩
      have Hj := Lib.hid (judge_fine Hno.out Hdone.out)
      simp only at Hj
      have Hwl := Lib.hid hcbl
      by_cases h7 : op = 7
      · subst h7; exact absurd hT (by decide)
      · have h7' : (op == 7) = false := by simpa using h7
        have Hj' := Lib.hid (show judgeR cap op client ttl now count ((n, r) :: ps') = ⟨0, -1, ⟨#[]⟩, default, now⟩ by rw [Hj.out, if_neg fun q => h7 q.1])
        clear Hj h7
        go_wp2_with fail
        refine bodyPost_ret (v := .tuple #[respV ⟨0, -1, ⟨#[]⟩, default, now⟩, .slice la i lc]) (by simp [results, Try.results32, go_sem, respV, def_rc, *]) rfl ⟨.slice la i lc, by rw [Hj'.out], ?_, fun _ => ?_, fun h => absurd (by rw [Hj'.out]) h⟩
        · refine Ext.alloc ?_ _; (repeat refine ext_setCell ?_ (by first | (have := Hcb.out; simp; omega) | (have := Hcb.out; have := Hwl.out; simp only; omega)) _)
          exact (Hxw.out.trans Hd.out.ext)
        · rw [HD.out, Hnn.out]
          refine own_baseM (own_chgM (S := fun b => b = cb + 1 ∨ b = wr.heap.size) Hown.out ?_ fun k hk hs => ?_) (by rw [Hsz.out]; have := Hcb.out; omega)
          · refine Chg.alloc ?_ _; (repeat refine Chg.setCell (S := fun b => b = cb + 1 ∨ b = wr.heap.size) ?_ (by exact .inl (.inl rfl)) _); exact Chg.refl _ _
          · have := Hown.out.lt k hk; have := Hsz.out; rcases hs with hs | hs <;> omega
theorem decide_plain {S T : Nat → Prop} (cl cap count client op ttl now : Int) (v rv : Value) (ps : List (Nm × Rc)) (w : World) (hT : timedB op = false) (hc0 : 0 ≤ count) (hc1 : count ≤ 1000000)
    (hl0 : 1 ≤ ps.length) (hl1 : ps.length ≤ 16) (hn : NmsAt w S v (ps.map Prod.fst)) (hr : RecsAt w T rv (ps.map Prod.snd)) :
    Calls Try.prog 32 #[.agg #[.int .i64 cl, .int .i64 cap], .int .i64 count, .int .i64 client, .int .i64 op, .int .i64 ttl, v, rv, .int .i64 now] w (DecPost cap op client ttl now count ps w) := by
  obtain ⟨A, cA, rfl⟩ := hn.shape
  obtain ⟨_, B, cB, rfl, hB1, hB2, _⟩ := id hr
  obtain ⟨nn, hnn⟩ : ∃ n, ps.length = n := ⟨_, rfl⟩
  have hm1 : (ps.map Prod.fst).length = nn := by simp [hnn]
  have hm2 : (ps.map Prod.snd).length = nn := by simp [hnn]
  rw [hm1, hm2]
  have Hm1 := Lib.hid hm1
  have Hm2 := Lib.hid hm2
  have Hnn := Lib.hid hnn
  rw [hnn] at hl0 hl1
  have Hn := Lib.hid hn
  have Hr := Lib.hid hr
  have hD : dlOf op ttl now = 0 := by unfold dlOf; rw [hT]; rfl
  have hno : ¬ (timedB op = true ∧ 1073741824 - now < ttl) := by rw [hT]; simp
  have HD := Lib.hid hD
  clear hn hr hm1 hm2 hnn hB1 hB2 hD
  have Hno := Lib.hid hno
  obtain ⟨cb, hcb⟩ : ∃ b, w.heap.size = b := ⟨_, rfl⟩
  have Hcb := Lib.hid hcb
  clear hno
  go_enter Try.func32, Try.ntmps32
  go_wp2_with (go_at_call 35; refine (mtimed_any _ _).mono ?_; rintro e w1 ⟨rfl, rfl⟩; rw [hT])
  have hz0 : RZ ((w.alloc (.cells #[.int .i64 cl, .int .i64 cap] 37)).alloc (.cells #[.int .i64 0, .int .i64 0, .string ⟨#[]⟩, .int .i64 0, .int .i64 0, .string ⟨#[]⟩, .int .i64 0, .int .i64 0] 28)) (cb + 1) := by
    have := rz_new (w.alloc (.cells #[.int .i64 cl, .int .i64 cap] 37))
    rw [show (w.alloc (.cells #[.int .i64 cl, .int .i64 cap] 37)).heap.size = cb + 1 by simp [hcb]] at this
    exact this
  have hcf : ((w.alloc (.cells #[.int .i64 cl, .int .i64 cap] 37)).alloc (.cells #[.int .i64 0, .int .i64 0, .string ⟨#[]⟩, .int .i64 0, .int .i64 0, .string ⟨#[]⟩, .int .i64 0, .int .i64 0] 28)).cell? ⟨cb, 1, none⟩ = some (.int .i64 cap) := by rw [← hcb]; go_simp
  have hxw : Ext w ((w.alloc (.cells #[.int .i64 cl, .int .i64 cap] 37)).alloc (.cells #[.int .i64 0, .int .i64 0, .string ⟨#[]⟩, .int .i64 0, .int .i64 0, .string ⟨#[]⟩, .int .i64 0, .int .i64 0] 28)) := ((Ext.refl w).alloc _).alloc _
  have hsz : ((w.alloc (.cells #[.int .i64 cl, .int .i64 cap] 37)).alloc (.cells #[.int .i64 0, .int .i64 0, .string ⟨#[]⟩, .int .i64 0, .int .i64 0, .string ⟨#[]⟩, .int .i64 0, .int .i64 0] 28)).heap.size = cb + 2 := by simp [hcb]
  obtain ⟨W0, hW0⟩ : ∃ W, (w.alloc (.cells #[.int .i64 cl, .int .i64 cap] 37)).alloc (.cells #[.int .i64 0, .int .i64 0, .string ⟨#[]⟩, .int .i64 0, .int .i64 0, .string ⟨#[]⟩, .int .i64 0, .int .i64 0] 28) = W := ⟨_, rfl⟩
  rw [hW0] at hz0 hcf hxw hsz
  rw [hW0]
  clear hW0 hcb
  have Hz0 := Lib.hid hz0
  have Hcf := Lib.hid hcf
  have Hxw := Lib.hid hxw
  have Hsz := Lib.hid hsz
  clear hz0 hcf hxw hsz
  go_loopw [44, 1, 21] (fun o s l wr => ∃ (i : Nat) (c : Int), i ≤ nn ∧ o = .int .i64 (i : Int) ∧ s = .int .i64 c ∧ DecAt cap op client now count 0 ps w W0 i c l wr) (fun o _ _ _ => nn - (intOf o).toNat)
  case atStart => exact ⟨0, count, by omega, rfl, rfl, JudgeTo.start _ _ _ _ _ _, World.ownsRow_nil _ _ _ _, Ext.refl _⟩
  case round =>
    obtain ⟨i, c, hi, rfl, rfl, hd⟩ := hrel
    obtain ⟨la, lc, rfl⟩ := own_shape hd.own
    have hbd := hd.j.bd
    have hc2 : c ≤ 1000016 := by omega
    have hc3 : 0 ≤ c := by omega
    clear hbd
    have Hd := Lib.hid hd
    have hz := Hz0.out.ext hd.ext
    have hcf : wr.cell? ⟨cb, 1, none⟩ = some (.int .i64 cap) := (hd.ext.cell (p := ⟨cb, 1, none⟩) (by have := Hsz.out; simp only; omega)).trans Hcf.out
    have hcbl : cb + 2 ≤ wr.heap.size := by have := hd.ext.size; have := Hsz.out; omega
    obtain ⟨z0, z1, z2, z3, z4, z5, z6, z7, zf, zl⟩ := hz
    clear hd
    by_cases hlt : i < nn
    · have hdc : decide ((i : Int) < (nn : Int)) = true := by simpa using hlt
      obtain ⟨⟨n, r⟩, hp⟩ : ∃ p, ps[i]? = some p := ⟨ps[i]'(by have := Hnn.out; omega), by simp⟩
      have hp1 : (ps.map Prod.fst)[i]? = some n := by rw [List.getElem?_map, hp]; rfl
      have hp2 : (ps.map Prod.snd)[i]? = some r := by rw [List.getElem?_map, hp]; rfl
      have hxr := Hxw.out.trans Hd.out.ext
      obtain ⟨g, o, c', hv1, p1, p2, _, b1, hcell⟩ := (NmsAt.ext Hn.out hxr).get (j := i) (by rw [Hm1.out]; exact hlt)
      obtain ⟨x1, x2, x3⟩ := hcell _ _ hp1
      obtain ⟨g2, o2, c2', hv2, p3, p4, b2, y0, y1, y2, y3⟩ := recsAt_get (Rd.ext Hr.out hxr) hp2
      rw [Hm1.out] at hv1 p1
      rw [Hm2.out] at hv2 p3
      simp only [Value.slice.injEq, true_and] at hv1 hv2
      obtain ⟨rfl, rfl⟩ := hv1
      obtain ⟨rfl, rfl⟩ := hv2
      have i0 : (0 : Int) ≤ (i : Int) := by omega
      have i1 : (i : Int) < (nn : Int) := by omega
      have Hp := Lib.hid hp
      have Hxr := Lib.hid hxr
      clear hcell hp hp1 hp2 hxr
      obtain ⟨t, ht⟩ : ∃ t, testE r.st r.ow r.dl op client now = t := ⟨_, rfl⟩
      obtain ⟨gr, hgr⟩ : ∃ g, growsI r.st op = g := ⟨_, rfl⟩
      have hA2 : cb + 2 ≤ wr.heap.size := hcbl
      go_wp2_with fail
      refine (test_any _ _ _ _ _ _ _ _).mono ?_
      rintro x w1 ⟨rfl, hy⟩
      rw [ht]
      have e0 : w1.cell? ⟨wr.heap.size + 1, 0, none⟩ = some (.int .i64 r.st) := (hy.cell (by simp)).trans (by go_simp)
      have e1 : w1.cell? ⟨wr.heap.size + 1, 1, none⟩ = some (.int .i64 r.ow) := (hy.cell (by simp)).trans (by go_simp)
      have e2 : w1.cell? ⟨wr.heap.size + 1, 2, none⟩ = some (.string r.nm) := (hy.cell (by simp)).trans (by go_simp)
      have e3 : w1.cell? ⟨wr.heap.size + 1, 3, none⟩ = some (.int .i64 r.dl) := (hy.cell (by simp)).trans (by go_simp)
      have e4 : w1.cell? ⟨wr.heap.size, 0, none⟩ = some (.string n.a) := (hy.cell (by simp; omega)).trans (by go_simp)
      have hb1 : wr.heap.size + 2 ≤ w1.heap.size := by have := hy.size; simp at this; omega
      have Hx1 := Lib.hid ((((Ext.refl wr).alloc _).alloc _).trans hy)
      clear hy x1 x2 x3 y0 y1 y2 y3 z0 z1 z2 z3 z4 z5 z6 z7 zf zl hcf b1 b2
      go_wp2_with fail
      refine (grows_any _ _ _ _ _ _).mono ?_
      rintro x w2 ⟨rfl, hy⟩
      rw [hgr]
      have e0 := (hy.cell (p := ⟨wr.heap.size + 1, 0, none⟩) (by simp only; omega)).trans e0
      have e1 := (hy.cell (p := ⟨wr.heap.size + 1, 1, none⟩) (by simp only; omega)).trans e1
      have e2 := (hy.cell (p := ⟨wr.heap.size + 1, 2, none⟩) (by simp only; omega)).trans e2
      have e3 := (hy.cell (p := ⟨wr.heap.size + 1, 3, none⟩) (by simp only; omega)).trans e3
      have e4 := (hy.cell (p := ⟨wr.heap.size, 0, none⟩) (by simp only; omega)).trans e4
      have hb2 : wr.heap.size + 2 ≤ w2.heap.size := Nat.le_trans hb1 hy.size
      have Hx2 := Lib.hid (Hx1.out.trans hy)
      have hcf : w2.cell? ⟨cb, 1, none⟩ = some (.int .i64 cap) := ((Hd.out.ext.trans Hx2.out).cell (p := ⟨cb, 1, none⟩) (by have := Hsz.out; simp only; omega)).trans Hcf.out
      obtain ⟨z0, z1, z2, z3, z4, z5, z6, z7, zf, zl⟩ := Hz0.out.ext (Hd.out.ext.trans Hx2.out)
      clear hy Hx1 hb1
      have Ht := Lib.hid ht
      have Hgr := Lib.hid hgr
      clear ht hgr
      have hkinds : (t ≠ 0 ∧ (t == 0) = false) ∨ (t = 0 ∧ 0 < gr ∧ cap ≤ c) ∨ (t = 0 ∧ ¬ (0 < gr ∧ cap ≤ c)) := by
        by_cases h1 : t = 0
        · by_cases h2 : 0 < gr ∧ cap ≤ c
          · exact .inr (.inl ⟨h1, h2⟩)
          · exact .inr (.inr ⟨h1, h2⟩)
        · exact .inl ⟨h1, by simpa using h1⟩
      rcases hkinds with ⟨h1, hq1⟩ | ⟨rfl, hq1, hq2⟩ | ⟨rfl, hq⟩
      · have hone := oneE_bad (cap := cap) (c := c) Ht.out h1
        have Hst := Lib.hid (judge_stop Hno.out (Hd.out.j.stop (p := (n, r)) Hp.out (by rw [hone]; exact h1)))
        simp only at Hst
        rw [hone] at Hst
        clear hone
        go_wp2_with fail
        refine bodyPost_ret (v := .tuple #[respV ⟨t, i, n.a, default, now⟩, .slice none 0 0]) (by simp [results, Try.results32, go_sem, respV, def_rc, *]) rfl ⟨.slice none 0 0, by rw [Hst.out], ?_, fun h => ?_, fun _ => rfl⟩
        · (repeat refine ext_setCell ?_ (by first | (have := Hcb.out; simp; omega) | (have := Hcb.out; simp only; omega)) _)
          exact Hxr.out.trans Hx2.out
        · rw [Hst.out] at h; exact absurd h h1
      · have hg0 : decide (0 < gr) = true := by simpa using hq1
        have hg1 : decide (cap ≤ c) = true := by simpa using hq2
        have hone := oneE_full (cap := cap) (c := c) Ht.out (by rw [Hgr.out]; exact hq1) hq2
        have Hst := Lib.hid (judge_stop Hno.out (Hd.out.j.stop (p := (n, r)) Hp.out (by rw [hone]; decide)))
        simp only at Hst
        rw [hone] at Hst
        clear hone
        go_wp2_with fail
        refine bodyPost_ret (v := .tuple #[respV ⟨7, i, n.a, default, now⟩, .slice none 0 0]) (by simp [results, Try.results32, go_sem, respV, def_rc, *]) rfl ⟨.slice none 0 0, by rw [Hst.out], ?_, fun h => ?_, fun _ => rfl⟩
        · (repeat refine ext_setCell ?_ (by first | (have := Hcb.out; simp; omega) | (have := Hcb.out; simp only; omega)) _)
          exact Hxr.out.trans Hx2.out
        · rw [Hst.out] at h; simp at h
      · have hone := oneE_room (cap := cap) (c := c) Ht.out (by rw [Hgr.out]; exact hq)
        have Hj1 := Lib.hid (Hd.out.j.next (p := (n, r)) Hp.out hone)
        have hgc := growsI_cases r.st op
        rw [Hgr.out] at hgc
        clear hone z0 z1 z2 z3 z4 z5 z6 z7 zf zl
        have Q : (gr = 1 ∧ decide (cap ≤ c) = false ∧ nextC op c r = c + 1) ∨ (gr = 0 ∧ True ∧ nextC op c r = c) ∨ (gr = -1 ∧ True ∧ nextC op c r = c) := by
          rcases hgc with h | h | h
          · exact .inl ⟨h, by simp; omega, by unfold nextC; rw [Hgr.out, if_pos (by omega)]⟩
          · exact .inr (.inl ⟨h, trivial, by unfold nextC; rw [Hgr.out, if_neg (by omega)]⟩)
          · exact .inr (.inr ⟨h, trivial, by unfold nextC; rw [Hgr.out, if_neg (by omega)]⟩)
        clear hgc hq
        rcases Q with ⟨rfl, q1, q2⟩ | ⟨rfl, q1, q2⟩ | ⟨rfl, q1, q2⟩
        all_goals
          rw [q2] at Hj1
          have Hq2 := Lib.hid q2
          clear q2
          go_wp2_with fail
          refine (after_any _ _ _ _ _ _ _ _ _).mono ?_
          rintro x w3 ⟨rfl, hy⟩
          have Hx3 := Lib.hid (Hx2.out.trans hy)
          have hbz : W0.heap.size ≤ (w3.alloc (.cells #[.int .i64 (afSt r.st op), .int .i64 (afOw r.ow op client), .string (afNm r.nm op n.a), .int .i64 (afDl r.dl op 0)] 26)).heap.size := by
            have := hy.size; have := Hsz.out; simp; omega
          clear hy e0 e1 e2 e3 e4 hcf Hx2
          obtain ⟨i0', hi', hz0', hz1', hz2'⟩ := info_parts info_rec
          have hrl := rd_litM w3 #[.int .i64 (afSt r.st op), .int .i64 (afOw r.ow op client), .string (afNm r.nm op n.a), .int .i64 (afDl r.dl op 0)] 26 4 (by rfl)
          go_wp2_with (at_builtin; refine wpList_append_rd _ rfl _ _ 76 rfl W0.heap.size 26 i0' _ 4 40 und_recs hi' hz0' hz1' hz2' rfl (by decide) _ i _ rfl (own_ext Hd.out.own (Hx3.out.alloc _)) (fun _ => True) _ 1 _ rfl hrl (by simp [Value.oneCell']) (by unfold maxLen; omega) (by omega) hbz ?_; intro v' w4 ha; obtain ⟨a3, c3, hv3⟩ := own_shape ha.own; subst hv3)
          have hend : DecAt cap op client now count 0 ps w W0 (i + 1) _ (.slice a3 (i + 1) c3) w4 := ⟨Hj1.out, by rw [afters_snoc Hp.out]; exact ha.own, (Hd.out.ext.trans (Hx3.out.alloc _)).grown ha.grown fun k hk => (Hd.out.own.lt k hk).1⟩
          have Hend := Lib.hid hend
          clear ha hend hrl hbz
          go_roundw
          case rel => exact ⟨i + 1, _, by omega, by go_num, by first | rfl | (congr 1; omega) | simp, Hend.out⟩
          case measure => simp [intOf]; omega
    · have hdc : decide ((i : Int) < (nn : Int)) = false := by simp; omega
      obtain rfl : i = nn := by omega
      have Hdone := Lib.hid (show judgeGo cap op client now 0 count ps = none from by
        have := Hd.out.j
        rw [← Hnn.out] at this
        exact this.done)
      have hown := Hd.out.own
      rw [List.take_of_length_le (by rw [Hnn.out]; exact Nat.le_refl _)] at hown
      have Hown := Lib.hid hown
      clear hown
      obtain ⟨⟨n, r⟩, ps', rfl⟩ : ∃ p ps', ps = p :: ps' := by
        cases ps with
        | nil => have := Hnn.out; simp at this; omega
        | cons p ps' => exact ⟨p, ps', rfl⟩
      have Hj := Lib.hid (judge_fine Hno.out Hdone.out)
      simp only at Hj
      have Hwl := Lib.hid hcbl
      by_cases h7 : op = 7
      · subst h7
        obtain ⟨g2, o2, c2', hv2, p3, p4, b2, y0, y1, y2, y3⟩ := recsAt_get (Rd.ext Hr.out (Hxw.out.trans Hd.out.ext)) (j := 0) (r := r) rfl
        rw [Hm2.out] at hv2 p3
        simp only [Value.slice.injEq, true_and] at hv2
        obtain ⟨rfl, rfl⟩ := hv2
        simp only [Nat.zero_mul, Nat.add_zero] at y0 y1 y2 y3
        have i1 : (0 : Int) < (i : Int) := by omega
        obtain ⟨lv, hlv⟩ : ∃ b, liveB r.st r.dl now = b := ⟨_, rfl⟩
        go_wp2_with fail
        refine (live_any _ _ _ _ _ _).mono ?_
        rintro x w5 ⟨rfl, hy⟩
        rw [hlv]
        have Hy := Lib.hid (((Ext.refl wr).alloc _).trans hy)
        have t0 : w5.cell? ⟨wr.heap.size, 0, none⟩ = some (.int .i64 0) := (hy.cell (by simp)).trans (by go_simp)
        have t1 : w5.cell? ⟨wr.heap.size, 1, none⟩ = some (.int .i64 (-1)) := (hy.cell (by simp)).trans (by go_simp)
        have t2 : w5.cell? ⟨wr.heap.size, 2, none⟩ = some (.string ⟨#[]⟩) := (hy.cell (by simp)).trans (by go_simp)
        have t3 : w5.cell? ⟨wr.heap.size, 3, none⟩ = some (.int .i64 0) := (hy.cell (by simp)).trans (by go_simp)
        have t4 : w5.cell? ⟨wr.heap.size, 4, none⟩ = some (.int .i64 0) := (hy.cell (by simp)).trans (by go_simp)
        have t5 : w5.cell? ⟨wr.heap.size, 5, none⟩ = some (.string ⟨#[]⟩) := (hy.cell (by simp)).trans (by go_simp)
        have t6 : w5.cell? ⟨wr.heap.size, 6, none⟩ = some (.int .i64 0) := (hy.cell (by simp)).trans (by go_simp)
        have t7 : w5.cell? ⟨wr.heap.size, 7, none⟩ = some (.int .i64 now) := (hy.cell (by simp)).trans (by go_simp)
        have tf : ∀ j, w5.frozen? ⟨wr.heap.size, j, none⟩ = false := fun j => (hy.frozen (by simp)).trans (by go_simp)
        have tl : wr.heap.size < w5.heap.size := Nat.lt_of_lt_of_le (by simp) hy.size
        clear z0 z1 z2 z3 z4 z5 z6 z7 zf zl
        obtain ⟨z0, z1, z2, z3, z4, z5, z6, z7, zf, zl⟩ := Hz0.out.ext (Hd.out.ext.trans Hy.out)
        have y0 := (Hy.out.cell (p := ⟨g2, o2, none⟩) b2).trans y0
        have y1 := (Hy.out.cell (p := ⟨g2, o2 + 1, none⟩) b2).trans y1
        have y2 := (Hy.out.cell (p := ⟨g2, o2 + 2, none⟩) b2).trans y2
        have y3 := (Hy.out.cell (p := ⟨g2, o2 + 3, none⟩) b2).trans y3
        have hne : ¬ wr.heap.size = cb + 1 := by omega
        have Hlv := Lib.hid hlv
        clear hy hlv hcf
        cases lv with
        | true =>
          have Hj' := Lib.hid (show judgeR cap 7 client ttl now count ((n, r) :: ps') = ⟨0, -1, ⟨#[]⟩, r, now⟩ by rw [Hj.out]; simp [Hlv.out])
          clear Hj
          go_wp2_with fail
          refine bodyPost_ret (v := .tuple #[respV ⟨0, -1, ⟨#[]⟩, r, now⟩, .slice la i lc]) (by simp [results, Try.results32, go_sem, respV, *]) rfl ⟨.slice la i lc, by rw [Hj'.out], ?_, fun _ => ?_, fun h => absurd (by rw [Hj'.out]) h⟩
          · (repeat refine ext_setCell ?_ (by first | (have := Hcb.out; simp; omega) | (have := Hcb.out; have := Hwl.out; simp only; omega)) _)
            exact (Hxw.out.trans Hd.out.ext).trans Hy.out
          · rw [HD.out, Hnn.out]
            refine own_baseM (own_chgM (S := fun b => b = cb + 1 ∨ b = wr.heap.size) Hown.out ?_ fun k hk hs => ?_) (by rw [Hsz.out]; have := Hcb.out; omega)
            · (repeat refine Chg.setCell (S := fun b => b = cb + 1 ∨ b = wr.heap.size) ?_ (by first | exact .inl (.inl rfl) | exact .inl (.inr rfl)) _); exact Hy.out.chg _
            · have := Hown.out.lt k hk; have := Hsz.out; rcases hs with hs | hs <;> omega
        | false =>
          have Hj' := Lib.hid (show judgeR cap 7 client ttl now count ((n, r) :: ps') = ⟨0, -1, ⟨#[]⟩, default, now⟩ by rw [Hj.out]; simp [Hlv.out])
          clear Hj
          go_wp2_with fail
          refine bodyPost_ret (v := .tuple #[respV ⟨0, -1, ⟨#[]⟩, default, now⟩, .slice la i lc]) (by simp [results, Try.results32, go_sem, respV, def_rc, *]) rfl ⟨.slice la i lc, by rw [Hj'.out], ?_, fun _ => ?_, fun h => absurd (by rw [Hj'.out]) h⟩
          · (repeat refine ext_setCell ?_ (by first | (have := Hcb.out; simp; omega) | (have := Hcb.out; have := Hwl.out; simp only; omega)) _)
            exact (Hxw.out.trans Hd.out.ext).trans Hy.out
          · rw [HD.out, Hnn.out]
            refine own_baseM (own_chgM (S := fun b => b = cb + 1 ∨ b = wr.heap.size) Hown.out ?_ fun k hk hs => ?_) (by rw [Hsz.out]; have := Hcb.out; omega)
            · (repeat refine Chg.setCell (S := fun b => b = cb + 1 ∨ b = wr.heap.size) ?_ (by first | exact .inl (.inl rfl) | exact .inl (.inr rfl)) _); exact Hy.out.chg _
            · have := Hown.out.lt k hk; have := Hsz.out; rcases hs with hs | hs <;> omega
      · have h7' : (op == 7) = false := by simpa using h7
        have Hj' := Lib.hid (show judgeR cap op client ttl now count ((n, r) :: ps') = ⟨0, -1, ⟨#[]⟩, default, now⟩ by rw [Hj.out, if_neg fun q => h7 q.1])
        clear Hj h7
        go_wp2_with fail
        refine bodyPost_ret (v := .tuple #[respV ⟨0, -1, ⟨#[]⟩, default, now⟩, .slice la i lc]) (by simp [results, Try.results32, go_sem, respV, def_rc, *]) rfl ⟨.slice la i lc, by rw [Hj'.out], ?_, fun _ => ?_, fun h => absurd (by rw [Hj'.out]) h⟩
        · refine Ext.alloc ?_ _; (repeat refine ext_setCell ?_ (by first | (have := Hcb.out; simp; omega) | (have := Hcb.out; have := Hwl.out; simp only; omega)) _)
          exact (Hxw.out.trans Hd.out.ext)
        · rw [HD.out, Hnn.out]
          refine own_baseM (own_chgM (S := fun b => b = cb + 1 ∨ b = wr.heap.size) Hown.out ?_ fun k hk hs => ?_) (by rw [Hsz.out]; have := Hcb.out; omega)
          · refine Chg.alloc ?_ _; (repeat refine Chg.setCell (S := fun b => b = cb + 1 ∨ b = wr.heap.size) ?_ (by exact .inl (.inl rfl)) _); exact Chg.refl _ _
          · have := Hown.out.lt k hk; have := Hsz.out; rcases hs with hs | hs <;> omega
theorem decide_any {S T : Nat → Prop} (cl cap count client op ttl now : Int) (v rv : Value) (ps : List (Nm × Rc)) (w : World) (hp : Proper cl client op ttl now (ps.map Prod.fst)) (hc0 : 0 ≤ count) (hc1 : count ≤ 1000000)
    (hn : NmsAt w S v (ps.map Prod.fst)) (hr : RecsAt w T rv (ps.map Prod.snd)) :
    Calls Try.prog 32 #[.agg #[.int .i64 cl, .int .i64 cap], .int .i64 count, .int .i64 client, .int .i64 op, .int .i64 ttl, v, rv, .int .i64 now] w (DecPost cap op client ttl now count ps w) := by
  have l0 := hp.l0
  have l1 := hp.l1
  rw [List.length_map] at l0 l1
  cases hT : timedB op with
  | true =>
    obtain ⟨t0, t1⟩ := hp.t1 hT
    by_cases h : ttl ≤ 1073741824 - now
    · exact decide_timed cl cap count client op ttl now v rv ps w hp.n0 hp.n1 hT t0 t1 h hc0 hc1 l0 l1 hn hr
    · exact decide_over cl cap count client op ttl now v rv ps w hp.n0 hp.n1 hT t0 t1 (by omega)
  | false => exact decide_plain cl cap count client op ttl now v rv ps w hT hc0 hc1 l0 l1 hn hr
end Go.Proofs.Ythenclenabcmgaa
