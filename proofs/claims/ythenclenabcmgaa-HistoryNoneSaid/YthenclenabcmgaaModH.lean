/-
  model.Do answers as the plain law says, and leaves the records that it says (28.2).
  Conditions: keys within a process's reach; few records.
-/
import Derived.Test.YthenclenabcmgaaModF
import Derived.Deep.RegionHeld3
import Derived.Deep.DeepCutAuto
namespace Go.Proofs.Ythenclenabcmgaa
open Go.RowKit Go.Sort Go.Shelf
set_option maxHeartbeats 4000000
set_option maxRecDepth 100000

/-- The names with the records that they get. -/
def putQ (l : List Kp) (qs : List (Nm × Rc)) : List Kp := qs.foldl (fun l q => putK l q.1.k q.2) l
def afterQ (op client dl : Int) (ps : List (Nm × Rc)) : List (Nm × Rc) := ps.map fun p => (p.1, afterR op client dl p.1 p.2)
theorem putQ_snoc (l : List Kp) (qs : List (Nm × Rc)) (q : Nm × Rc) : putQ l (qs ++ [q]) = putK (putQ l qs) q.1.k q.2 := by simp [putQ, List.foldl_append]
theorem afterQ_snd (op client dl : Int) (ps : List (Nm × Rc)) : (afterQ op client dl ps).map Prod.snd = afters op client dl ps := by simp [afterQ, afters, List.map_map, Function.comp_def]
theorem afterQ_fst (op client dl : Int) (ps : List (Nm × Rc)) : (afterQ op client dl ps).map Prod.fst = ps.map Prod.fst := by simp [afterQ, List.map_map, Function.comp_def]
theorem putAll_Q (op client dl : Int) (l : List Kp) (ps : List (Nm × Rc)) : putAll op client dl l ps = putQ l (afterQ op client dl ps) := by
  unfold putAll putQ afterQ
  rw [List.foldl_map]
theorem putK_len (l : List Kp) (k : ByteArray) (r : Rc) : (putK l k r).length ≤ l.length + 1 := by
  have : ∀ (l : List Kp) d, (putGo k r d l).length ≤ l.length + 1 := by
    intro l
    induction l with
    | nil => intro d; cases d <;> simp [putGo]
    | cons p l ih =>
      intro d
      rw [putGo]
      split
      · have := ih d; simp only [List.length_cons]; omega
      · split
        · have h2 : (putGo k r true l).length ≤ l.length := by
            have : ∀ l : List Kp, (putGo k r true l).length ≤ l.length := by
              intro l
              induction l with
              | nil => simp [putGo]
              | cons q l ih2 =>
                rw [putGo]
                split
                · simp only [List.length_cons]; omega
                · split
                  · rename_i h; simp at h
                  · simp only [List.length_cons]; omega
            exact this l
          simp only [List.length_cons]; omega
        · have := ih d; simp only [List.length_cons]; omega
  exact this l _
theorem putQ_len (l : List Kp) (qs : List (Nm × Rc)) : (putQ l qs).length ≤ l.length + qs.length := by
  induction qs generalizing l with
  | nil => simp [putQ]
  | cons q qs ih =>
    have h1 := ih (putK l q.1.k q.2)
    have h2 := putK_len l q.1.k q.2
    show (putQ (putK l q.1.k q.2) qs).length ≤ _
    simp only [List.length_cons]; omega
/-- What the walk through the entries of Do holds of the world. -/
theorem modS {w : World} {b m : Nat} {cl cap : Int} {l : List Kp} (h : ModAt w b m cl cap l) : w.cell? ⟨b, 0, none⟩ = some (.int .i64 cl) ∧ w.cell? ⟨b, 1, none⟩ = some (.int .i64 cap) ∧ w.cell? ⟨b, 2, none⟩ = some (.map (some m)) ∧ ∀ ty, (Builtin.len_ #[69] ty #[.map (some m)]).run Try.prog w = .ok (.int .i64 (l.length : Int)) w :=
  ⟨h.c0, h.c1, h.c2, fun ty => h.map.len ty⟩
def DoPost (b m : Nat) (cl cap client op ttl now : Int) (l : List Kp) (ns : List Nm) (w : World) (e : Ending) (w' : World) : Prop :=
  e = .returned (respV (doR cl cap l client op ttl now ns)) ∧ ModAt w' b m cl cap (doL cl cap l client op ttl now ns) ∧ Chg (· = m) w w'
/-- An answer's memory. -/
structure RespAt (w : World) (rb : Nat) (R : Resp) : Prop where
  z0 : w.cell? ⟨rb, 0, none⟩ = some (.int .i64 R.e)
  z1 : w.cell? ⟨rb, 1, none⟩ = some (.int .i64 R.at_)
  z2 : w.cell? ⟨rb, 2, none⟩ = some (.string R.nm)
  z3 : w.cell? ⟨rb, 3, none⟩ = some (.int .i64 R.rc.st)
  z4 : w.cell? ⟨rb, 4, none⟩ = some (.int .i64 R.rc.ow)
  z5 : w.cell? ⟨rb, 5, none⟩ = some (.string R.rc.nm)
  z6 : w.cell? ⟨rb, 6, none⟩ = some (.int .i64 R.rc.dl)
  z7 : w.cell? ⟨rb, 7, none⟩ = some (.int .i64 R.tick)
  lt : rb < w.heap.size
theorem RespAt.chg {S : Nat → Prop} {w w' : World} {rb : Nat} {R : Resp} (h : RespAt w rb R) (c : Chg S w w') (hb : ¬ S rb) : RespAt w' rb R :=
  ⟨(c.cell (p := ⟨rb, 0, none⟩) h.lt hb).trans h.z0, (c.cell (p := ⟨rb, 1, none⟩) h.lt hb).trans h.z1, (c.cell (p := ⟨rb, 2, none⟩) h.lt hb).trans h.z2, (c.cell (p := ⟨rb, 3, none⟩) h.lt hb).trans h.z3, (c.cell (p := ⟨rb, 4, none⟩) h.lt hb).trans h.z4, (c.cell (p := ⟨rb, 5, none⟩) h.lt hb).trans h.z5, (c.cell (p := ⟨rb, 6, none⟩) h.lt hb).trans h.z6, (c.cell (p := ⟨rb, 7, none⟩) h.lt hb).trans h.z7, Nat.lt_of_lt_of_le h.lt c.size⟩
theorem resp_new (w : World) (R : Resp) : RespAt (w.alloc (.cells #[.int .i64 R.e, .int .i64 R.at_, .string R.nm, .int .i64 R.rc.st, .int .i64 R.rc.ow, .string R.rc.nm, .int .i64 R.rc.dl, .int .i64 R.tick] 28)) w.heap.size R := by
  constructor <;> first | go_simp | simp
theorem dec_qs {cap op client ttl now count : Int} {ps : List (Nm × Rc)} {w w' : World} {e : Ending} {B : Nat} (h : DecPost cap op client ttl now count ps w e w') (hB : B ≤ w.heap.size) :
    ∃ a n c qs, e = .returned (.tuple #[respV (judgeR cap op client ttl now count ps), .slice a n c]) ∧ Ext w w' ∧ RecsAt w' (fun k => B ≤ k) (.slice a n c) (qs.map Prod.snd) ∧ qs = (if (judgeR cap op client ttl now count ps).e = 0 then afterQ op client (dlOf op ttl now) ps else []) ∧ n = qs.length := by
  obtain ⟨av, rfl, hx, h1, h2⟩ := h
  by_cases h0 : (judgeR cap op client ttl now count ps).e = 0
  · have ho := h1 h0
    obtain ⟨a, c, rfl⟩ := own_shape ho
    refine ⟨a, _, c, afterQ op client (dlOf op ttl now) ps, rfl, hx, ?_, by rw [if_pos h0], by simp [afterQ]⟩
    rw [afterQ_snd]
    have e1 : (afters op client (dlOf op ttl now) ps).length = ps.length := by simp [afters]
    unfold RecsAt
    rw [e1]
    exact Rd.of_own ho fun k hk => Nat.le_trans hB (ho.lt k hk).1
  · have := h2 h0
    subst this
    exact ⟨none, 0, 0, [], rfl, hx, Rd.nil _ _ _, by rw [if_neg h0], rfl⟩
/-- Behind Decide. -/
def DoMid (cap op client ttl now : Int) (l : List Kp) (ns : List Nm) (w1 : World) (p a : Value) (wx : World) : Prop :=
  ∃ rb2 A n c qs, p = .pointer (some ⟨rb2, 0, none⟩) ∧ a = .slice A n c ∧ RespAt wx rb2 (judgeR cap op client ttl now l.length (withR l ns)) ∧ w1.heap.size ≤ rb2 ∧ RecsAt wx (fun k => w1.heap.size ≤ k) (.slice A n c) (qs.map Prod.snd) ∧ n = qs.length ∧
    qs = (if (judgeR cap op client ttl now l.length (withR l ns)).e = 0 then afterQ op client (dlOf op ttl now) (withR l ns) else []) ∧ Ext w1 wx
theorem mdo_any {S : Nat → Prop} (b m : Nat) (cl cap client op ttl now : Int) (l : List Kp) (v : Value) (ns : List Nm) (w : World) (h : ModAt w b m cl cap l) (hll : l.length ≤ 100000) (hks : ∀ n ∈ ns, n.k.size ≤ maxLen) (hn : NmsAt w S v ns) (hS : ¬ S m) :
    Calls Try.prog 28 #[.pointer (some ⟨b, 0, none⟩), .int .i64 client, .int .i64 op, .int .i64 ttl, v, .int .i64 now] w (DoPost b m cl cap client op ttl now l ns w) := by
  obtain ⟨A, cA, rfl⟩ := hn.shape
  obtain ⟨rb, hrb⟩ : ∃ b, w.heap.size = b := ⟨_, rfl⟩
  have hbl := h.lt
  have hml := h.map.lt
  have H := Lib.hid h
  have Hn := Lib.hid hn
  have Hks := Lib.hid hks
  have HS := Lib.hid hS
  have Hrb := Lib.hid hrb
  rw [hrb] at hbl hml
  clear h hn hks hS
  have X0 := Lib.hid ((Ext.refl w).alloc (.cells #[.int .i64 0, .int .i64 0, .string ⟨#[]⟩, .int .i64 0, .int .i64 0, .string ⟨#[]⟩, .int .i64 0, .int .i64 0] 28))
  have hz0 := rz_new w
  rw [hrb] at hz0
  have Hz0 := Lib.hid hz0
  clear hz0
  go_enter Try.func28, Try.ntmps28
  go_wp2_with fail
  refine (permitted_any b cl client op ttl now _ ns _ (H.out.ext X0.out).c0 (Hn.out.ext X0.out)).mono ?_
  rintro x w1 ⟨rfl, hx⟩
  have hz1 := Hz0.out.ext hx
  have Hx1 := Lib.hid (X0.out.trans hx)
  clear hx hrb
  cases hp : properB cl client op ttl now ns with
  | false =>
    have hR : doR cl cap l client op ttl now ns = ⟨1, -1, ⟨#[]⟩, default, 0⟩ := by unfold doR; rw [hp]; simp
    have hL : doL cl cap l client op ttl now ns = l := by unfold doL; rw [hp]; simp
    have HR := Lib.hid hR
    have HL := Lib.hid hL
    have Hp := Lib.hid hp
    obtain ⟨z0, z1, z2, z3, z4, z5, z6, z7, zf, zl⟩ := hz1
    clear hR hL hp
    go_wp2_with fail
    have hcg : Ext w ((((((((w1.setCell ⟨rb, 0, none⟩ (.int .i64 1)).setCell ⟨rb, 1, none⟩ (.int .i64 (-1))).setCell ⟨rb, 2, none⟩ (.string ⟨#[]⟩)).setCell ⟨rb, 3, none⟩ (.int .i64 0)).setCell ⟨rb, 4, none⟩ (.int .i64 0)).setCell ⟨rb, 5, none⟩ (.string ⟨#[]⟩)).setCell ⟨rb, 6, none⟩ (.int .i64 0)).setCell ⟨rb, 7, none⟩ (.int .i64 0)) := by
      (repeat refine ext_setCell ?_ (by rw [Hrb.out]; exact Nat.le_refl _) _)
      exact Hx1.out
    refine bodyPost_ret (v := respV ⟨1, -1, ⟨#[]⟩, default, 0⟩) (by simp [results, Try.results28, go_sem, respV, def_rc, *]) rfl ⟨by rw [HR.out], ?_, hcg.chg _⟩
    rw [HL.out]
    exact H.out.ext hcg
  | true =>
    have Hp := Lib.hid (of_decide_eq_true hp)
    have Hpb := Lib.hid hp
    have hl1 := (of_decide_eq_true hp).l1
    obtain ⟨nn, hnn⟩ : ∃ n, ns.length = n := ⟨_, rfl⟩
    rw [hnn] at hl1
    rw [hnn]
    have Hnn := Lib.hid hnn
    have Hz1 := Lib.hid hz1
    have hw1 : rb + 1 ≤ w1.heap.size := hz1.lt
    clear hp hnn hz1
    go_wp2_with fail
    go_loopw [31, 13] (fun o r wr => ∃ i : Nat, i ≤ nn ∧ o = .int .i64 (i : Int) ∧ wr.ownsRow w1.heap.size 26 4 r i (flatR ((ns.take i).map fun n => getK l n.k)) ∧ Ext w1 wr) (fun o _ _ => nn - (intOf o).toNat)
    case atStart => exact ⟨0, by omega, rfl, World.ownsRow_nil _ _ _ _, Ext.refl _⟩
    case round =>
      obtain ⟨i, hi, rfl, hown, hx⟩ := hrel
      obtain ⟨la, lc, rfl⟩ := own_shape hown
      have Hown := Lib.hid hown
      have Hx := Lib.hid hx
      have Hxw := Lib.hid (Hx1.out.trans hx)
      clear hown hx
      by_cases hlt : i < nn
      · have hdc : decide ((i : Int) < (nn : Int)) = true := by simpa using hlt
        obtain ⟨g, o, c', hv, p1, p2, hSg, b1, hcell⟩ := (Hn.out.ext Hxw.out).get (j := i) (by rw [Hnn.out]; exact hlt)
        rw [Hnn.out] at hv p1
        simp only [Value.slice.injEq, true_and] at hv
        obtain ⟨rfl, rfl⟩ := hv
        obtain ⟨n, hni⟩ : ∃ n, ns[i]? = some n := ⟨ns[i]'(by have := Hnn.out; omega), by simp⟩
        obtain ⟨x1, x2, x3⟩ := hcell _ _ hni
        have i0 : (0 : Int) ≤ (i : Int) := by omega
        have i1 : (i : Int) < (nn : Int) := by omega
        have Hni := Lib.hid hni
        have hk := Hks.out n (List.mem_of_getElem? hni)
        clear hcell hni
        go_upto_region 7 with fail
        have hA1 : Ext wr (wr.alloc (.cells #[.string n.a, .string n.u, .string n.k] 41)) := (Ext.refl wr).alloc _
        have n2 : (wr.alloc (.cells #[.string n.a, .string n.u, .string n.k] 41)).cell? ⟨wr.heap.size, 2, none⟩ = some (.string n.k) := by go_simp
        have hs1 : (wr.alloc (.cells #[.string n.a, .string n.u, .string n.k] 41)).heap.size = wr.heap.size + 1 := by simp
        obtain ⟨W1, hW1⟩ : ∃ W, wr.alloc (.cells #[.string n.a, .string n.u, .string n.k] 41) = W := ⟨_, rfl⟩
        rw [hW1] at hA1 n2 hs1
        rw [hW1]
        obtain ⟨nb, hnb⟩ : ∃ b, wr.heap.size = b := ⟨_, rfl⟩
        rw [hnb] at n2 hs1
        rw [hnb]
        have hm1 := H.out.ext (Hxw.out.trans hA1)
        have hc2 := hm1.c2
        have hlk := hm1.map.look hk
        unfold rcV at hlk
        have HA1 := Lib.hid hA1
        have Hs1 := Lib.hid hs1
        have Hnb := Lib.hid hnb
        have Hm1 := Lib.hid hm1
        clear hW1 hA1 hs1 hnb hm1 x1 x2 x3
        refine wp_region_held_drew (S := fun w' => w'.cell? ⟨b, 2, none⟩ = some (.map (some m)) ∧ w'.cell? ⟨nb, 2, none⟩ = some (.string n.k) ∧ (Instr.lookup 69 (.map (some m)) (.string n.k) false).run Try.prog w' = .ok (.agg #[.int .i64 (getK l n.k).st, .int .i64 (getK l n.k).ow, .string (getK l n.k).nm, .int .i64 (getK l n.k).dl]) w') (by kernel_rfl) ?_ (fun hHeld => ?_)
        · exact ⟨hc2, n2, (Hm1.out.map.ext (Ext.refl W1).drew).look hk⟩
        refine wpAnyH_take (i := 0) (oi := _) (v := ?_) rfl (by kernel_rfl) (by kernel_rfl) (by kernel_rfl) (fun _ _ _ h => h) (Or.inl ⟨by rfl, ?_⟩) (by assumption) ?_; rotate_left; (focus ((intro w hSw; (try dsimp only at hSw); go_simp); (first | done | (with_reducible rfl)))); (try simp only [Act.put]); (try simp only [List.setIfInBounds_toArray])
        refine wpAnyH_take (i := 1) (oi := _) (v := ?_) rfl (by kernel_rfl) (by kernel_rfl) (by kernel_rfl) (fun _ _ _ h => h) (Or.inl ⟨by rfl, ?_⟩) (by assumption) ?_; rotate_left; (focus ((intro w hSw; (try dsimp only at hSw); go_simp); (first | done | (with_reducible rfl)))); (try simp only [Act.put]); (try simp only [List.setIfInBounds_toArray])
        refine wpAnyH_take (i := 2) (oi := _) (v := ?_) rfl (by kernel_rfl) (by kernel_rfl) (by kernel_rfl) (fun _ _ _ h => h) (Or.inl ⟨by rfl, ?_⟩) (by assumption) ?_; rotate_left; (focus ((intro w hSw; (try dsimp only at hSw); go_simp); (first | done | (with_reducible rfl)))); (try simp only [Act.put]); (try simp only [List.setIfInBounds_toArray])
        refine wpAnyH_take (i := 3) (oi := _) (v := ?_) rfl (by kernel_rfl) (by kernel_rfl) (by kernel_rfl) (fun _ _ _ h => h) (Or.inl ⟨by rfl, ?_⟩) (by assumption) ?_; rotate_left; (focus ((intro w hSw; (try dsimp only at hSw); go_simp); (first | done | (with_reducible rfl)))); (try simp only [Act.put]); (try simp only [List.setIfInBounds_toArray])
        refine wpAnyH_take (i := 4) (oi := _) (v := ?_) rfl (by kernel_rfl) (by kernel_rfl) (by kernel_rfl) (fun _ _ _ h => h) (Or.inl ⟨by rfl, ?_⟩) (by assumption) ?_; rotate_left; (focus ((intro w hSw; (try dsimp only at hSw); go_simp); (first | done | (with_reducible rfl)))); (try simp only [Act.put]); (try simp only [List.setIfInBounds_toArray])
        refine wpAnyH_take (i := 5) (oi := _) (v := ?_) rfl (by kernel_rfl) (by kernel_rfl) (by kernel_rfl) (fun _ _ _ h => h) (Or.inl ⟨by rfl, ?_⟩) (by assumption) ?_; rotate_left; (focus ((intro w hSw; (try dsimp only at hSw); go_simp); (first | done | (with_reducible rfl)))); (try simp only [Act.put]); (try simp only [List.setIfInBounds_toArray])
        refine wpAnyH_take (i := 6) (oi := _) (v := ?_) rfl (by kernel_rfl) (by kernel_rfl) (by kernel_rfl) (fun _ _ _ h => h) (Or.inl ⟨by rfl, ?_⟩) (by assumption) ?_; rotate_left; (focus ((intro w hSw; (try dsimp only at hSw); go_simp); (first | done | (with_reducible rfl)))); (try simp only [Act.put]); (try simp only [List.setIfInBounds_toArray])
        refine wpAnyH_take (i := 7) (oi := _) (v := ?_) rfl (by kernel_rfl) (by kernel_rfl) (by kernel_rfl) (fun _ _ _ h => h) (Or.inl ⟨by rfl, ?_⟩) (by assumption) ?_; rotate_left; (focus ((intro w hSw; (try dsimp only at hSw); go_simp); (first | done | (with_reducible rfl)))); (try simp only [Act.put]); (try simp only [List.setIfInBounds_toArray])
        refine wpAnyH_ready (rs := [8]) (by kernel_rfl) (by simp) ?_; refine AllReadyH.cons (o := _) rfl (fun K hK => ?_) AllReadyH.nil; go_simp
        have hxa : Ext W1 ((W1.alloc (.cells #[.int .i64 (getK l n.k).st, .int .i64 (getK l n.k).ow, .string (getK l n.k).nm, .int .i64 (getK l n.k).dl] 26)).drew) := ((Ext.refl W1).alloc _).drew
        have hbW : b < W1.heap.size := by have := Hs1.out; have := Hnb.out; have := Hx.out.size; omega
        have hnW : nb < W1.heap.size := by have := Hs1.out; omega
        have hrl : Rd ((W1.alloc (.cells #[.int .i64 (getK l n.k).st, .int .i64 (getK l n.k).ow, .string (getK l n.k).nm, .int .i64 (getK l n.k).dl] 26)).drew) (fun _ => True) 4 (.slice (some ⟨W1.heap.size, 0, none⟩) 1 1) 1 [.int .i64 (getK l n.k).st, .int .i64 (getK l n.k).ow, .string (getK l n.k).nm, .int .i64 (getK l n.k).dl] := (rd_litM W1 #[.int .i64 (getK l n.k).st, .int .i64 (getK l n.k).ow, .string (getK l n.k).nm, .int .i64 (getK l n.k).dl] 26 4 (by rfl)).drew
        have hc2a := (hxa.cell (p := ⟨b, 2, none⟩) hbW).trans hc2
        have n2a := (hxa.cell (p := ⟨nb, 2, none⟩) hnW).trans n2
        have hma := Hm1.out.map.ext hxa
        have hbz : w1.heap.size ≤ ((W1.alloc (.cells #[.int .i64 (getK l n.k).st, .int .i64 (getK l n.k).ow, .string (getK l n.k).nm, .int .i64 (getK l n.k).dl] 26)).drew).heap.size := Nat.le_trans (Nat.le_trans Hx.out.size HA1.out.size) hxa.size
        have Hxa := Lib.hid hxa
        have Hma := Lib.hid hma
        have Hrl := Lib.hid hrl
        have Hbz := Lib.hid hbz
        refine hK.out _ _ ⟨hc2a, n2a, hma.look hk⟩ (fun hHeld => ?_)
        clear hK K hxa hma hrl hbz hlk hc2 n2
        try simp only [Act.put, List.setIfInBounds_toArray, List.set_cons_zero, List.set_cons_succ]
        refine wpAnyH_ready (rs := [9]) (by kernel_rfl) (by simp) ?_
        refine AllReadyH.cons (o := _) rfl (fun K hK => ?_) AllReadyH.nil
        obtain ⟨j0, hj, hj0, hj1, hj2⟩ := info_parts info_rec
        refine step_append_rd _ (by rfl) (.tmp 35) (.tmp 43) 76 (by rfl) w1.heap.size 26 j0 _ 4 40 und_recs hj hj0 hj1 hj2 (by rfl) (by decide) (.slice la i lc) i (flatR ((ns.take i).map fun n => getK l n.k)) (by rfl) (own_ext Hown.out (HA1.out.trans Hxa.out)) (fun _ => True) (.slice (some ⟨W1.heap.size, 0, none⟩) 1 1) 1 [.int .i64 (getK l n.k).st, .int .i64 (getK l n.k).ow, .string (getK l n.k).nm, .int .i64 (getK l n.k).dl] (by rfl) Hrl.out (by simp [Value.oneCell']) (by unfold maxLen; omega) (by omega) Hbz.out ?_
        intro v' w3 ha
        have hcg : Chg (fun k => w1.heap.size ≤ k ∧ k < nb) _ w3 := (Chg.refl _ _).grown ha.grown (fun k hk => .inl (by have := Hown.out.lt k hk; have := Hnb.out; omega))
        have hx3 : Ext w1 w3 := ((Hx.out.trans HA1.out).trans Hxa.out).chg_new hcg fun k hk => hk.1
        have hend : w3.ownsRow w1.heap.size 26 4 v' (i + 1) (flatR ((ns.take (i + 1)).map fun n => getK l n.k)) := by
          rw [take_at Hni.out, List.map_append, List.map_cons, List.map_nil, flatR_snoc]
          exact ha.own
        have hm3 := H.out.ext (Hx1.out.trans hx3)
        have n23 := (hcg.cell (p := ⟨nb, 2, none⟩) (Nat.lt_of_lt_of_le hnW Hxa.out.size) (by simp only; omega)).trans n2a
        have Hend := Lib.hid hend
        have Hx3 := Lib.hid hx3
        have Hm3 := Lib.hid hm3
        go_simp
        refine hK.out _ _ ⟨Hm3.out.c2, n23, Hm3.out.map.look hk⟩ (fun hHeld => ?_)
        clear hK K hcg hx3 hend hm3 n23 ha n2a hc2a
        try simp only [Act.put, List.setIfInBounds_toArray, List.set_cons_zero, List.set_cons_succ]
        refine wpAnyH_take (i := 10) (oi := _) (v := ?_) rfl (by kernel_rfl) (by kernel_rfl) (by kernel_rfl) (fun _ _ _ h => h) (Or.inl ⟨by rfl, ?_⟩) (by assumption) ?_; rotate_left; (focus ((intro w hSw; (try dsimp only at hSw); go_simp); (first | done | (with_reducible rfl)))); (try simp only [Act.put]); (try simp only [List.setIfInBounds_toArray])
        refine wpAnyH_done (by kernel_rfl) ?_ _
        go_simp
        obtain ⟨a3, c3, hv3⟩ := own_shape Hend.out
        subst hv3
        clear hHeld
        go_wp2_with fail
        go_roundw
        case rel => exact ⟨i + 1, by omega, by go_num, Hend.out, Hx3.out⟩
        case measure => simp [intOf]; omega
      · have hdc : decide ((i : Int) < (nn : Int)) = false := by simp; omega
        obtain rfl : nn = i := by omega
        have hrecs : RecsAt wr (fun k => w1.heap.size ≤ k) (.slice la nn lc) ((withR l ns).map Prod.snd) := by
          have h1 := Hown.out
          rw [List.take_of_length_le (by rw [Hnn.out]; exact Nat.le_refl _)] at h1
          have e1 : (withR l ns).map Prod.snd = ns.map fun n => getK l n.k := by simp [withR, List.map_map, Function.comp_def]
          have e2 : (ns.map fun n => getK l n.k).length = nn := by rw [List.length_map]; exact Hnn.out
          rw [e1]
          unfold RecsAt
          rw [e2]
          exact Rd.of_own h1 fun k hk => (h1.lt k hk).1
        have hps : (withR l ns).map Prod.fst = ns := by simp [withR, List.map_map, Function.comp_def]
        have hm1 := H.out.ext Hxw.out
        have Hrecs := Lib.hid hrecs
        have Hps := Lib.hid hps
        have Hm1 := Lib.hid hm1
        clear hrecs hps hm1
        have hnI : NmsAt wr S (.slice A nn cA) ((withR l ns).map Prod.fst) := by
          rw [Hps.out, ← Hnn.out]
          exact Hn.out.ext Hxw.out
        have HnI := Lib.hid hnI
        clear hnI
        go_upto_region 9 with fail
        go_cut [16, 17] (fun p a wx => DoMid cap op client ttl now l ns w1 p a wx)
        case first =>
          rename_i J1 K1 hJ hM
          refine wp_region_held_drew (S := fun w' => w'.cell? ⟨b, 0, none⟩ = some (.int .i64 cl) ∧ w'.cell? ⟨b, 1, none⟩ = some (.int .i64 cap) ∧ w'.cell? ⟨b, 2, none⟩ = some (.map (some m)) ∧ ∀ ty, (Builtin.len_ #[69] ty #[.map (some m)]).run Try.prog w' = .ok (.int .i64 (l.length : Int)) w') (by kernel_rfl) ?_ (fun hHeld => ?_)
          · exact modS (Hm1.out.ext (Ext.refl wr).drew)
          refine wpAnyH_take (i := 0) (oi := _) (v := ?_) rfl (by kernel_rfl) (by kernel_rfl) (by kernel_rfl) (fun _ _ _ h => h) (Or.inl ⟨by rfl, ?_⟩) (by assumption) ?_; rotate_left; (focus ((intro w hSw; (try dsimp only at hSw); go_simp); (first | done | (with_reducible rfl)))); (try simp only [Act.put]); (try simp only [List.setIfInBounds_toArray])
          refine wpAnyH_take (i := 1) (oi := _) (v := ?_) rfl (by kernel_rfl) (by kernel_rfl) (by kernel_rfl) (fun _ _ _ h => h) (Or.inl ⟨by rfl, ?_⟩) (by assumption) ?_; rotate_left; (focus ((intro w hSw; (try dsimp only at hSw); go_simp); (first | done | (with_reducible rfl)))); (try simp only [Act.put]); (try simp only [List.setIfInBounds_toArray])
          refine wpAnyH_take (i := 2) (oi := _) (v := ?_) rfl (by kernel_rfl) (by kernel_rfl) (by kernel_rfl) (fun _ _ _ h => h) (Or.inl ⟨by rfl, ?_⟩) (by assumption) ?_; rotate_left; (focus ((intro w hSw; (try dsimp only at hSw); go_simp); (first | done | (with_reducible rfl)))); (try simp only [Act.put]); (try simp only [List.setIfInBounds_toArray])
          refine wpAnyH_take (i := 3) (oi := _) (v := ?_) rfl (by kernel_rfl) (by kernel_rfl) (by kernel_rfl) (fun _ _ _ h => h) (Or.inl ⟨by rfl, ?_⟩) (by assumption) ?_; rotate_left; (focus ((intro w hSw; (try dsimp only at hSw); go_simp); (first | done | (with_reducible rfl)))); (try simp only [Act.put]); (try simp only [List.setIfInBounds_toArray])
          refine wpAnyH_take (i := 4) (oi := _) (v := ?_) rfl (by kernel_rfl) (by kernel_rfl) (by kernel_rfl) (fun _ _ _ h => h) (Or.inl ⟨by rfl, ?_⟩) (by assumption) ?_; rotate_left; (focus ((intro w hSw; (try dsimp only at hSw); go_simp); (first | done | (with_reducible rfl)))); (try simp only [Act.put]); (try simp only [List.setIfInBounds_toArray])
          refine wpAnyH_take (i := 5) (oi := _) (v := ?_) rfl (by kernel_rfl) (by kernel_rfl) (by kernel_rfl) (fun _ _ _ h => h) (Or.inl ⟨by rfl, ?_⟩) (by assumption) ?_; rotate_left; (focus ((intro w hSw; (try dsimp only at hSw); go_simp); (first | done | (with_reducible rfl)))); (try simp only [Act.put]); (try simp only [List.setIfInBounds_toArray])
          refine wpAnyH_take (i := 6) (oi := _) (v := ?_) rfl (by kernel_rfl) (by kernel_rfl) (by kernel_rfl) (fun _ _ _ h => h) (Or.inl ⟨by rfl, ?_⟩) (by assumption) ?_; rotate_left; (focus ((intro w hSw; (try dsimp only at hSw); go_simp); (first | done | (with_reducible rfl)))); (try simp only [Act.put]); (try simp only [List.setIfInBounds_toArray])
          refine wpAnyH_take (i := 7) (oi := _) (v := ?_) rfl (by kernel_rfl) (by kernel_rfl) (by kernel_rfl) (fun _ _ _ h => h) (Or.inl ⟨by rfl, ?_⟩) (by assumption) ?_; rotate_left; (focus ((intro w hSw; (try dsimp only at hSw); go_simp); (first | done | (with_reducible rfl)))); (try simp only [Act.put]); (try simp only [List.setIfInBounds_toArray])
          refine wpAnyH_take (i := 8) (oi := _) (v := ?_) rfl (by kernel_rfl) (by kernel_rfl) (by kernel_rfl) (fun _ _ _ h => h) (Or.inl ⟨by rfl, ?_⟩) (by assumption) ?_; rotate_left; (focus ((intro w hSw; (try dsimp only at hSw); go_simp); (first | done | (with_reducible rfl)))); (try simp only [Act.put]); (try simp only [List.setIfInBounds_toArray])
          refine wpAnyH_take (i := 9) (oi := _) (v := ?_) rfl (by kernel_rfl) (by kernel_rfl) (by kernel_rfl) (fun _ _ _ h => h) (Or.inl ⟨by rfl, ?_⟩) (by assumption) ?_; rotate_left; (focus ((intro w hSw; (try dsimp only at hSw); go_simp); (first | done | (with_reducible rfl)))); (try simp only [Act.put]); (try simp only [List.setIfInBounds_toArray])
          refine wpAnyH_take (i := 10) (oi := _) (v := ?_) rfl (by kernel_rfl) (by kernel_rfl) (by kernel_rfl) (fun _ _ _ h => h) (Or.inl ⟨by rfl, ?_⟩) (by assumption) ?_; rotate_left; (focus ((intro w hSw; (try dsimp only at hSw); go_simp); (first | done | (with_reducible rfl)))); (try simp only [Act.put]); (try simp only [List.setIfInBounds_toArray])
          refine wpAnyH_take (i := 11) (oi := _) (v := ?_) rfl (by kernel_rfl) (by kernel_rfl) (by kernel_rfl) (fun _ _ _ h => h) (Or.inl ⟨by rfl, ?_⟩) (by assumption) ?_; rotate_left; (focus ((intro w hSw; (try dsimp only at hSw); go_simp); (first | done | (with_reducible rfl)))); (try simp only [Act.put]); (try simp only [List.setIfInBounds_toArray])
          refine wpAnyH_take (i := 12) (oi := _) (v := ?_) rfl (by kernel_rfl) (by kernel_rfl) (by kernel_rfl) (fun _ _ _ h => h) (Or.inl ⟨by rfl, ?_⟩) (by assumption) ?_; rotate_left; (focus ((intro w hSw; (try dsimp only at hSw); go_simp); (first | done | (with_reducible rfl)))); (try simp only [Act.put]); (try simp only [List.setIfInBounds_toArray])
          refine wpAnyH_take (i := 13) (oi := _) (v := ?_) rfl (by kernel_rfl) (by kernel_rfl) (by kernel_rfl) (fun _ _ _ h => h) (Or.inl ⟨by rfl, ?_⟩) (by assumption) ?_; rotate_left; (focus ((intro w hSw; (try dsimp only at hSw); go_simp); (first | done | (with_reducible rfl)))); (try simp only [Act.put]); (try simp only [List.setIfInBounds_toArray])
          refine wpAnyH_take (i := 14) (oi := _) (v := ?_) rfl (by kernel_rfl) (by kernel_rfl) (by kernel_rfl) (fun _ _ _ h => h) (Or.inl ⟨by rfl, ?_⟩) (by assumption) ?_; rotate_left; (focus ((intro w hSw; (try dsimp only at hSw); go_simp); (first | done | (with_reducible rfl)))); (try simp only [Act.put]); (try simp only [List.setIfInBounds_toArray])
          refine wpAnyH_ready (rs := [15, 19]) (by kernel_rfl) (by simp) ?_
          refine AllReadyH.cons (o := _) rfl (fun K hK => ?_) (AllReadyH.cons (o := _) rfl (fun K hK => ?_) AllReadyH.nil)
          · go_simp
            refine (decide_any cl cap l.length client op ttl now _ _ (withR l ns) wr.drew (by rw [Hps.out]; exact Hp.out) (by omega) (by omega) (HnI.out.ext (Ext.refl wr).drew) (Rd.ext Hrecs.out (Ext.refl wr).drew)).mono ?_
            intro x w3 hpost
            obtain ⟨a4, n4, c4, qs, rfl, hx3, hr3, hq3, hn3⟩ := dec_qs (B := w1.heap.size) hpost Hx.out.size
            obtain ⟨R, hR⟩ : ∃ R, judgeR cap op client ttl now l.length (withR l ns) = R := ⟨_, rfl⟩
            rw [hR] at hq3
            rw [hR]
            unfold respV
            have HR := Lib.hid hR
            have Hx3 := Lib.hid hx3
            have Hr3 := Lib.hid hr3
            have Hq3 := Lib.hid hq3
            have Hn3 := Lib.hid hn3
            clear hpost hx3 hr3 hq3 hR hn3
            dsimp only
            refine hK.out _ _ (modS (Hm1.out.ext ((Ext.refl wr).drew.trans Hx3.out))) (fun hHeld => ?_)
            clear hK K
            try simp only [Act.put, List.setIfInBounds_toArray, List.set_cons_zero, List.set_cons_succ]
            refine wpAnyH_take (i := 16) (oi := _) (v := ?_) rfl (by kernel_rfl) (by kernel_rfl) (by kernel_rfl) (fun _ _ _ h => h) (Or.inl ⟨by rfl, ?_⟩) (by assumption) ?_; rotate_left; (focus ((intro w hSw; (try dsimp only at hSw); go_simp); (first | done | (with_reducible rfl)))); (try simp only [Act.put]); (try simp only [List.setIfInBounds_toArray])
            refine wpAnyH_take (i := 17) (oi := _) (v := ?_) rfl (by kernel_rfl) (by kernel_rfl) (by kernel_rfl) (fun _ _ _ h => h) (Or.inl ⟨by rfl, ?_⟩) (by assumption) ?_; rotate_left; (focus ((intro w hSw; (try dsimp only at hSw); go_simp); (first | done | (with_reducible rfl)))); (try simp only [Act.put]); (try simp only [List.setIfInBounds_toArray])
            refine wpAnyH_take (i := 18) (oi := _) (v := ?_) rfl (by kernel_rfl) (by kernel_rfl) (by kernel_rfl) (fun _ _ _ h => h) (Or.inl ⟨by rfl, ?_⟩) (by assumption) ?_; rotate_left; (focus ((intro w hSw; (try dsimp only at hSw); go_simp); (first | done | (with_reducible rfl)))); (try simp only [Act.put]); (try simp only [List.setIfInBounds_toArray])
            refine wpAnyH_ready (rs := [19]) (by kernel_rfl) (by simp) ?_; refine AllReadyH.cons (o := _) rfl (fun K hK => ?_) AllReadyH.nil; go_simp
            refine hK.out _ _ (modS (Hm1.out.ext (((Ext.refl wr).drew.trans Hx3.out).alloc _))) (fun hHeld => ?_)
            clear hK K
            try simp only [Act.put, List.setIfInBounds_toArray, List.set_cons_zero, List.set_cons_succ]
            refine wpAnyH_ready (rs := [20]) (by kernel_rfl) (by simp) ?_; refine AllReadyH.cons (o := _) rfl (fun K hK => ?_) AllReadyH.nil; go_simp
            refine hK.out _ _ (modS (Hm1.out.ext (((Ext.refl wr).drew.trans Hx3.out).alloc _))) (fun hHeld => ?_)
            clear hK K
            try simp only [Act.put, List.setIfInBounds_toArray, List.set_cons_zero, List.set_cons_succ]
            refine wpAnyH_take (i := 21) (oi := _) (v := ?_) rfl (by kernel_rfl) (by kernel_rfl) (by kernel_rfl) (fun _ _ _ h => h) (Or.inl ⟨by rfl, ?_⟩) (by assumption) ?_; rotate_left; (focus ((intro w hSw; (try dsimp only at hSw); go_simp); (first | done | (with_reducible rfl)))); (try simp only [Act.put]); (try simp only [List.setIfInBounds_toArray])
            refine wpAnyH_done (by kernel_rfl) ?_ _
            go_simp
            refine hM _ _ (hJ _ _ ?_)
            have hxa : Ext w3 (w3.alloc (.cells #[.int .i64 R.e, .int .i64 R.at_, .string R.nm, .int .i64 R.rc.st, .int .i64 R.rc.ow, .string R.rc.nm, .int .i64 R.rc.dl, .int .i64 R.tick] 28)) := (Ext.refl w3).alloc _
            have hfin : DoMid cap op client ttl now l ns w1 (.pointer (some ⟨w3.heap.size, 0, none⟩)) (.slice a4 n4 c4) (w3.alloc (.cells #[.int .i64 R.e, .int .i64 R.at_, .string R.nm, .int .i64 R.rc.st, .int .i64 R.rc.ow, .string R.rc.nm, .int .i64 R.rc.dl, .int .i64 R.tick] 28)) :=
              ⟨_, _, _, _, _, rfl, rfl, by rw [HR.out]; exact resp_new w3 R, Nat.le_trans Hx.out.size Hx3.out.size, Rd.ext Hr3.out hxa, Hn3.out, by rw [HR.out]; exact Hq3.out, ((Hx.out.drew.trans Hx3.out).trans hxa)⟩
            clear hHeld
            (repeat apply Exists.intro)
            exact ⟨hfin, rfl⟩
          · go_simp
            have hxz : Ext wr (wr.alloc (.cells #[.int .i64 0, .int .i64 0, .string ⟨#[]⟩, .int .i64 0, .int .i64 0, .string ⟨#[]⟩, .int .i64 0, .int .i64 0] 28)) := (Ext.refl wr).alloc _
            have hrz := rz_new wr
            have hsz : (wr.alloc (.cells #[.int .i64 0, .int .i64 0, .string ⟨#[]⟩, .int .i64 0, .int .i64 0, .string ⟨#[]⟩, .int .i64 0, .int .i64 0] 28)).heap.size = wr.heap.size + 1 := by simp
            obtain ⟨W2, hW2⟩ : ∃ W, wr.alloc (.cells #[.int .i64 0, .int .i64 0, .string ⟨#[]⟩, .int .i64 0, .int .i64 0, .string ⟨#[]⟩, .int .i64 0, .int .i64 0] 28) = W := ⟨_, rfl⟩
            rw [hW2] at hxz hrz hsz
            rw [hW2]
            obtain ⟨rb2, hrb2⟩ : ∃ b, wr.heap.size = b := ⟨_, rfl⟩
            rw [hrb2] at hrz hsz
            rw [hrb2]
            have Hxz := Lib.hid hxz
            have Hrz := Lib.hid hrz
            have Hsz := Lib.hid hsz
            have Hrb2 := Lib.hid hrb2
            clear hW2 hxz hrz hsz hrb2
            refine hK.out _ _ (modS (Hm1.out.ext Hxz.out.drew)) (fun hHeld => ?_)
            clear hK K
            try simp only [Act.put, List.setIfInBounds_toArray, List.set_cons_zero, List.set_cons_succ]
            refine wpAnyH_ready (rs := [15]) (by kernel_rfl) (by simp) ?_; refine AllReadyH.cons (o := _) rfl (fun K hK => ?_) AllReadyH.nil; go_simp
            refine (decide_any cl cap l.length client op ttl now _ _ (withR l ns) W2.drew (by rw [Hps.out]; exact Hp.out) (by omega) (by omega) (HnI.out.ext Hxz.out.drew) (Rd.ext Hrecs.out Hxz.out.drew)).mono ?_
            intro x w3 hpost
            obtain ⟨a4, n4, c4, qs, rfl, hx3, hr3, hq3, hn3⟩ := dec_qs (B := W2.heap.size) hpost (Nat.le_refl _)
            obtain ⟨R, hR⟩ : ∃ R, judgeR cap op client ttl now l.length (withR l ns) = R := ⟨_, rfl⟩
            rw [hR] at hq3
            rw [hR]
            unfold respV
            have HR := Lib.hid hR
            have Hx3 := Lib.hid ((Ext.refl W2).drew.trans hx3)
            have Hr3 := Lib.hid hr3
            have Hq3 := Lib.hid hq3
            have Hn3 := Lib.hid hn3
            clear hpost hx3 hr3 hq3 hR hn3
            dsimp only
            refine hK.out _ _ (modS (Hm1.out.ext (Hxz.out.trans Hx3.out))) (fun hHeld => ?_)
            clear hK K
            try simp only [Act.put, List.setIfInBounds_toArray, List.set_cons_zero, List.set_cons_succ]
            refine wpAnyH_take (i := 16) (oi := _) (v := ?_) rfl (by kernel_rfl) (by kernel_rfl) (by kernel_rfl) (fun _ _ _ h => h) (Or.inl ⟨by rfl, ?_⟩) (by assumption) ?_; rotate_left; (focus ((intro w hSw; (try dsimp only at hSw); go_simp); (first | done | (with_reducible rfl)))); (try simp only [Act.put]); (try simp only [List.setIfInBounds_toArray])
            refine wpAnyH_take (i := 17) (oi := _) (v := ?_) rfl (by kernel_rfl) (by kernel_rfl) (by kernel_rfl) (fun _ _ _ h => h) (Or.inl ⟨by rfl, ?_⟩) (by assumption) ?_; rotate_left; (focus ((intro w hSw; (try dsimp only at hSw); go_simp); (first | done | (with_reducible rfl)))); (try simp only [Act.put]); (try simp only [List.setIfInBounds_toArray])
            refine wpAnyH_take (i := 18) (oi := _) (v := ?_) rfl (by kernel_rfl) (by kernel_rfl) (by kernel_rfl) (fun _ _ _ h => h) (Or.inl ⟨by rfl, ?_⟩) (by assumption) ?_; rotate_left; (focus ((intro w hSw; (try dsimp only at hSw); go_simp); (first | done | (with_reducible rfl)))); (try simp only [Act.put]); (try simp only [List.setIfInBounds_toArray])
            obtain ⟨z0, z1, z2, z3, z4, z5, z6, z7, zf, zl⟩ := Hrz.out.ext Hx3.out
            refine wpAnyH_ready (rs := [20]) (by kernel_rfl) (by simp) ?_; refine AllReadyH.cons (o := _) rfl (fun K hK => ?_) AllReadyH.nil; go_simp
            have hrw : w1.heap.size ≤ rb2 := by have := Hx.out.size; have := Hrb2.out; omega
            have hcg : Ext w1 ((((((((w3.setCell ⟨rb2, 0, none⟩ (.int .i64 R.e)).setCell ⟨rb2, 1, none⟩ (.int .i64 R.at_)).setCell ⟨rb2, 2, none⟩ (.string R.nm)).setCell ⟨rb2, 3, none⟩ (.int .i64 R.rc.st)).setCell ⟨rb2, 4, none⟩ (.int .i64 R.rc.ow)).setCell ⟨rb2, 5, none⟩ (.string R.rc.nm)).setCell ⟨rb2, 6, none⟩ (.int .i64 R.rc.dl)).setCell ⟨rb2, 7, none⟩ (.int .i64 R.tick)) := by
              (repeat refine ext_setCell ?_ hrw _)
              exact (Hx.out.trans Hxz.out).trans Hx3.out
            have hcg2 : Chg (· = rb2) w3 ((((((((w3.setCell ⟨rb2, 0, none⟩ (.int .i64 R.e)).setCell ⟨rb2, 1, none⟩ (.int .i64 R.at_)).setCell ⟨rb2, 2, none⟩ (.string R.nm)).setCell ⟨rb2, 3, none⟩ (.int .i64 R.rc.st)).setCell ⟨rb2, 4, none⟩ (.int .i64 R.rc.ow)).setCell ⟨rb2, 5, none⟩ (.string R.rc.nm)).setCell ⟨rb2, 6, none⟩ (.int .i64 R.rc.dl)).setCell ⟨rb2, 7, none⟩ (.int .i64 R.tick)) := by
              (repeat refine Chg.setCell (S := (· = rb2)) ?_ (.inl rfl) _)
              exact Chg.refl _ _
            have hresp : RespAt ((((((((w3.setCell ⟨rb2, 0, none⟩ (.int .i64 R.e)).setCell ⟨rb2, 1, none⟩ (.int .i64 R.at_)).setCell ⟨rb2, 2, none⟩ (.string R.nm)).setCell ⟨rb2, 3, none⟩ (.int .i64 R.rc.st)).setCell ⟨rb2, 4, none⟩ (.int .i64 R.rc.ow)).setCell ⟨rb2, 5, none⟩ (.string R.rc.nm)).setCell ⟨rb2, 6, none⟩ (.int .i64 R.rc.dl)).setCell ⟨rb2, 7, none⟩ (.int .i64 R.tick)) rb2 R := by
              constructor <;> first | go_simp | (simp [World.setCell]; omega)
            have hfin : DoMid cap op client ttl now l ns w1 (.pointer (some ⟨rb2, 0, none⟩)) (.slice a4 n4 c4) ((((((((w3.setCell ⟨rb2, 0, none⟩ (.int .i64 R.e)).setCell ⟨rb2, 1, none⟩ (.int .i64 R.at_)).setCell ⟨rb2, 2, none⟩ (.string R.nm)).setCell ⟨rb2, 3, none⟩ (.int .i64 R.rc.st)).setCell ⟨rb2, 4, none⟩ (.int .i64 R.rc.ow)).setCell ⟨rb2, 5, none⟩ (.string R.rc.nm)).setCell ⟨rb2, 6, none⟩ (.int .i64 R.rc.dl)).setCell ⟨rb2, 7, none⟩ (.int .i64 R.tick)) :=
              ⟨_, _, _, _, _, rfl, rfl, by rw [HR.out]; exact hresp, hrw, Rd.mono (Rd.chg Hr3.out hcg2 fun k hk e => by have := Hsz.out; omega) fun k hk _ => by have := Hsz.out; omega, Hn3.out, by rw [HR.out]; exact Hq3.out, hcg⟩
            have hmf := Hm1.out.ext (Hxz.out.trans Hx3.out)
            have hmf2 := hmf.chg hcg2 (by have := Hrb2.out; have := Hx.out.size; omega) (by have := Hrb2.out; have := Hx.out.size; omega)
            refine hK.out _ _ (modS hmf2) (fun hHeld => ?_)
            clear hK K
            try simp only [Act.put, List.setIfInBounds_toArray, List.set_cons_zero, List.set_cons_succ]
            refine wpAnyH_take (i := 21) (oi := _) (v := ?_) rfl (by kernel_rfl) (by kernel_rfl) (by kernel_rfl) (fun _ _ _ h => h) (Or.inl ⟨by rfl, ?_⟩) (by assumption) ?_; rotate_left; (focus ((intro w hSw; (try dsimp only at hSw); go_simp); (first | done | (with_reducible rfl)))); (try simp only [Act.put]); (try simp only [List.setIfInBounds_toArray])
            refine wpAnyH_done (by kernel_rfl) ?_ _
            go_simp
            refine hM _ _ (hJ _ _ ?_)
            clear hHeld hcg hcg2 hresp hmf hmf2
            (repeat apply Exists.intro)
            exact ⟨hfin, rfl⟩
        case rest =>
          obtain ⟨rb2, A2, n2, c2, qs, rfl, rfl, hresp, hrb2, hrecs2, rfl, hqs, hxc⟩ := hcut
          obtain ⟨R, hR⟩ : ∃ R, judgeR cap op client ttl now l.length (withR l ns) = R := ⟨_, rfl⟩
          rw [hR] at hresp hqs
          have hdoR : doR cl cap l client op ttl now ns = R := by unfold doR; rw [if_pos Hpb.out, hR]
          have hdoL : doL cl cap l client op ttl now ns = putQ l qs := by
            unfold doL
            rw [hR, hqs]
            by_cases h0 : R.e = 0
            · rw [if_pos ⟨Hpb.out, h0⟩, if_pos h0, ← putAll_Q]
              unfold putAll
              congr 1
              funext l p
              rw [after_dl (d' := dlOf op ttl now) (fun ht => by unfold dlOf; rw [if_pos ht])]
            · rw [if_neg fun q => h0 q.2, if_neg h0]; rfl
          have hql : qs.length ≤ 16 := by
            rw [hqs]
            split
            · simp [afterQ, withR]; rw [Hnn.out]; exact hl1
            · simp
          have hqn : ∀ (j : Nat) (q : Nm × Rc), qs[j]? = some q → ns[j]? = some q.1 := by
            intro j q hq
            have hj : (qs.map Prod.fst)[j]? = some q.1 := by rw [List.getElem?_map, hq]; rfl
            rw [hqs] at hj
            split at hj
            · rw [afterQ_fst, Hps.out] at hj; exact hj
            · simp at hj
          have HdoR := Lib.hid hdoR
          have HdoL := Lib.hid hdoL
          have Hqn := Lib.hid hqn
          have Hresp := Lib.hid hresp
          have Hrecs2 := Lib.hid hrecs2
          have Hxc := Lib.hid (Hx1.out.trans hxc)
          have Hxc1 := Lib.hid hxc
          have Hrb2 := Lib.hid hrb2
          have Hqn2 := Lib.hid (show qs.length = (qs.map Prod.snd).length by simp)
          clear hR hqs hdoR hdoL hqn hresp hrecs2 hxc hrb2
          go_wp2_with fail
          go_loopw [67] (fun o wr => ∃ i : Nat, i ≤ qs.length ∧ o = .int .i64 (i : Int) ∧ MapAt wr m (putQ l (qs.take i)) ∧ Chg (· = m) wc wr) (fun o _ => qs.length - (intOf o).toNat)
          case atStart => exact ⟨0, by omega, rfl, (H.out.ext Hxc.out).map, Chg.refl _ _⟩
          case round =>
            obtain ⟨i, hi', rfl, hmp, hcg⟩ := hrel
            have Hmp := Lib.hid hmp
            have Hcg := Lib.hid hcg
            clear hmp hcg
            by_cases hlt2 : i < qs.length
            · have hdc2 : decide ((i : Int) < (qs.length : Int)) = true := by simpa using hlt2
              obtain ⟨⟨n, r⟩, hqi⟩ : ∃ q, qs[i]? = some q := ⟨qs[i], by simp [hlt2]⟩
              have hqr : (qs.map Prod.snd)[i]? = some r := by rw [List.getElem?_map, hqi]; rfl
              have hni := Hqn.out i _ hqi
              simp only at hni
              have hmlw1 : m < w1.heap.size := by omega
              have hrm : ∀ k, w1.heap.size ≤ k → ¬ k = m := fun k hk e => by omega
              obtain ⟨g2, o2, c2', hv2, p3, p4, b2, y0, y1, y2, y3⟩ := recsAt_get (Rd.chg Hrecs2.out Hcg.out hrm) hqr
              rw [← Hqn2.out] at hv2 p3
              obtain ⟨g, o, c', hv, p1, p2, hSg, b1, hcell⟩ := NmsAt.get (Rd.chg (Hn.out.ext Hxc.out) Hcg.out fun k hk e => HS.out (e ▸ hk)) (j := i) ((List.getElem?_eq_some_iff.1 hni).1)
              rw [Hnn.out] at hv p1
              simp only [Value.slice.injEq, true_and] at hv hv2
              obtain ⟨rfl, rfl⟩ := hv
              obtain ⟨rfl, rfl⟩ := hv2
              obtain ⟨_, _, x3⟩ := hcell _ _ hni
              have i0 : (0 : Int) ≤ (i : Int) := by omega
              have i1 : (i : Int) < (qs.length : Int) := by omega
              have i2 : (i : Int) < (nn : Int) := by have := (List.getElem?_eq_some_iff.1 hni).1; rw [Hnn.out] at this; omega
              have hk := Hks.out n (List.mem_of_getElem? hni)
              have hgm : ¬ g = m := fun e => HS.out (e ▸ hSg)
              have hlm : (putQ l (qs.take i)).length < maxLen := by have := putQ_len l (qs.take i); rw [List.length_take] at this; unfold maxLen; omega
              have hne : ¬ b = m := H.out.ne
              have Hqi := Lib.hid hqi
              clear hqi hqr hni hcell hmlw1 hrm
              by_cases hst : r.st = 0
              · have hst' : (r.st == 0) = true := by simpa using hst
                have Hst := Lib.hid hst
                clear hst
                go_upto_region 14 with fail
                have hA1 : Ext wr (wr.alloc (.cells #[.int .i64 r.st, .int .i64 r.ow, .string r.nm, .int .i64 r.dl] 26)) := (Ext.refl wr).alloc _
                have e0 : (wr.alloc (.cells #[.int .i64 r.st, .int .i64 r.ow, .string r.nm, .int .i64 r.dl] 26)).cell? ⟨wr.heap.size, 0, none⟩ = some (.int .i64 r.st) := by go_simp
                have e1 : (wr.alloc (.cells #[.int .i64 r.st, .int .i64 r.ow, .string r.nm, .int .i64 r.dl] 26)).cell? ⟨wr.heap.size, 1, none⟩ = some (.int .i64 r.ow) := by go_simp
                have e2 : (wr.alloc (.cells #[.int .i64 r.st, .int .i64 r.ow, .string r.nm, .int .i64 r.dl] 26)).cell? ⟨wr.heap.size, 2, none⟩ = some (.string r.nm) := by go_simp
                have e3 : (wr.alloc (.cells #[.int .i64 r.st, .int .i64 r.ow, .string r.nm, .int .i64 r.dl] 26)).cell? ⟨wr.heap.size, 3, none⟩ = some (.int .i64 r.dl) := by go_simp
                have hs1 : (wr.alloc (.cells #[.int .i64 r.st, .int .i64 r.ow, .string r.nm, .int .i64 r.dl] 26)).heap.size = wr.heap.size + 1 := by simp
                obtain ⟨W1, hW1⟩ : ∃ W, wr.alloc (.cells #[.int .i64 r.st, .int .i64 r.ow, .string r.nm, .int .i64 r.dl] 26) = W := ⟨_, rfl⟩
                rw [hW1] at hA1 e0 e1 e2 e3 hs1
                rw [hW1]
                obtain ⟨nb, hnb⟩ : ∃ b, wr.heap.size = b := ⟨_, rfl⟩
                rw [hnb] at e0 e1 e2 e3 hs1
                rw [hnb]
                have hmlt := Hmp.out.lt
                have hbw : b < wr.heap.size := by have := (Hxc.out.size); have := Hcg.out.size; have := H.out.lt; omega
                have hc2 : W1.cell? ⟨b, 2, none⟩ = some (.map (some m)) := (hA1.cell (p := ⟨b, 2, none⟩) hbw).trans ((Hcg.out.cell (p := ⟨b, 2, none⟩) (by have := Hxc.out.size; have := H.out.lt; simp only; omega) hne).trans (H.out.ext Hxc.out).c2)
                have x3 := (hA1.cell (p := ⟨g, o + i * 3 + 2, none⟩) b1).trans x3
                have hbW : b < W1.heap.size := Nat.lt_of_lt_of_le hbw hA1.size
                have hgW : g < W1.heap.size := Nat.lt_of_lt_of_le b1 hA1.size
                have hnW : nb < W1.heap.size := by omega
                have hnm : ¬ nb = m := by omega
                have Hmw := Lib.hid (Hmp.out.ext hA1)
                have HcgW := Lib.hid (Hcg.out.trans (hA1.chg (fun k => k = m)))
                clear hW1 hA1 y0 y1 y2 y3 hs1 hmlt hbw hnb
                refine wp_region_held_drew (S := fun w' => w'.cell? ⟨b, 2, none⟩ = some (.map (some m)) ∧ w'.cell? ⟨g, o + i * 3 + 2, none⟩ = some (.string n.k)) (by kernel_rfl) ?_ (fun hHeld => ?_)
                · exact ⟨hc2, x3⟩
                refine wpAnyH_take (i := 0) (oi := _) (v := ?_) rfl (by kernel_rfl) (by kernel_rfl) (by kernel_rfl) (fun _ _ _ h => h) (Or.inl ⟨by rfl, ?_⟩) (by assumption) ?_; rotate_left; (focus ((intro w hSw; (try dsimp only at hSw); go_simp); (first | done | (with_reducible rfl)))); (try simp only [Act.put]); (try simp only [List.setIfInBounds_toArray])
                refine wpAnyH_take (i := 1) (oi := _) (v := ?_) rfl (by kernel_rfl) (by kernel_rfl) (by kernel_rfl) (fun _ _ _ h => h) (Or.inl ⟨by rfl, ?_⟩) (by assumption) ?_; rotate_left; (focus ((intro w hSw; (try dsimp only at hSw); go_simp); (first | done | (with_reducible rfl)))); (try simp only [Act.put]); (try simp only [List.setIfInBounds_toArray])
                refine wpAnyH_take (i := 2) (oi := _) (v := ?_) rfl (by kernel_rfl) (by kernel_rfl) (by kernel_rfl) (fun _ _ _ h => h) (Or.inl ⟨by rfl, ?_⟩) (by assumption) ?_; rotate_left; (focus ((intro w hSw; (try dsimp only at hSw); go_simp); (first | done | (with_reducible rfl)))); (try simp only [Act.put]); (try simp only [List.setIfInBounds_toArray])
                refine wpAnyH_take (i := 3) (oi := _) (v := ?_) rfl (by kernel_rfl) (by kernel_rfl) (by kernel_rfl) (fun _ _ _ h => h) (Or.inl ⟨by rfl, ?_⟩) (by assumption) ?_; rotate_left; (focus ((intro w hSw; (try dsimp only at hSw); go_simp); (first | done | (with_reducible rfl)))); (try simp only [Act.put]); (try simp only [List.setIfInBounds_toArray])
                refine wpAnyH_take (i := 4) (oi := _) (v := ?_) rfl (by kernel_rfl) (by kernel_rfl) (by kernel_rfl) (fun _ _ _ h => h) (Or.inl ⟨by rfl, ?_⟩) (by assumption) ?_; rotate_left; (focus ((intro w hSw; (try dsimp only at hSw); go_simp); (first | done | (with_reducible rfl)))); (try simp only [Act.put]); (try simp only [List.setIfInBounds_toArray])
                refine wpAnyH_take (i := 5) (oi := _) (v := ?_) rfl (by kernel_rfl) (by kernel_rfl) (by kernel_rfl) (fun _ _ _ h => h) (Or.inl ⟨by rfl, ?_⟩) (by assumption) ?_; rotate_left; (focus ((intro w hSw; (try dsimp only at hSw); go_simp); (first | done | (with_reducible rfl)))); (try simp only [Act.put]); (try simp only [List.setIfInBounds_toArray])
                refine wpAnyH_take (i := 6) (oi := _) (v := ?_) rfl (by kernel_rfl) (by kernel_rfl) (by kernel_rfl) (fun _ _ _ h => h) (Or.inl ⟨by rfl, ?_⟩) (by assumption) ?_; rotate_left; (focus ((intro w hSw; (try dsimp only at hSw); go_simp); (first | done | (with_reducible rfl)))); (try simp only [Act.put]); (try simp only [List.setIfInBounds_toArray])
                refine wpAnyH_take (i := 7) (oi := _) (v := ?_) rfl (by kernel_rfl) (by kernel_rfl) (by kernel_rfl) (fun _ _ _ h => h) (Or.inl ⟨by rfl, ?_⟩) (by assumption) ?_; rotate_left; (focus ((intro w hSw; (try dsimp only at hSw); go_simp); (first | done | (with_reducible rfl)))); (try simp only [Act.put]); (try simp only [List.setIfInBounds_toArray])
                refine wpAnyH_take (i := 8) (oi := _) (v := ?_) rfl (by kernel_rfl) (by kernel_rfl) (by kernel_rfl) (fun _ _ _ h => h) (Or.inl ⟨by rfl, ?_⟩) (by assumption) ?_; rotate_left; (focus ((intro w hSw; (try dsimp only at hSw); go_simp); (first | done | (with_reducible rfl)))); (try simp only [Act.put]); (try simp only [List.setIfInBounds_toArray])
                obtain ⟨w4, hrun, hmap4, hcg4, hsz4⟩ := (Hmw.out.ext (Ext.refl W1).drew).del hk Hst.out 0
                refine wpAnyH_ready (rs := [9]) (by kernel_rfl) (by simp) ?_; refine AllReadyH.cons (o := _) rfl (fun K hK => ?_) AllReadyH.nil; go_simp
                refine hK.out _ _ ⟨(hcg4.cell (p := ⟨b, 2, none⟩) hbW hne).trans hc2, (hcg4.cell (p := ⟨g, o + i * 3 + 2, none⟩) hgW hgm).trans x3⟩ (fun hHeld => ?_)
                clear hK K
                try simp only [Act.put, List.setIfInBounds_toArray, List.set_cons_zero, List.set_cons_succ]
                refine wpAnyH_done (by kernel_rfl) ?_ _
                have Hm4 := Lib.hid hmap4
                have Hcg4 := Lib.hid (HcgW.out.trans ((Chg.refl (fun k => k = m) W1).drew.trans hcg4))
                clear hHeld hmap4 hcg4 hsz4 hrun x3 hc2 e0 e1 e2 e3
                go_simp
                go_wp2_with fail
                go_roundw
                case rel => exact ⟨i + 1, by omega, by go_num, by rw [take_at Hqi.out, putQ_snoc]; exact Hm4.out, Hcg4.out⟩
                case measure => simp [intOf]; omega
              · have hst' : (r.st == 0) = false := by simpa using hst
                have Hst := Lib.hid hst
                clear hst
                go_upto_region 15 with fail
                have hA1 : Ext wr (wr.alloc (.cells #[.int .i64 r.st, .int .i64 r.ow, .string r.nm, .int .i64 r.dl] 26)) := (Ext.refl wr).alloc _
                have e0 : (wr.alloc (.cells #[.int .i64 r.st, .int .i64 r.ow, .string r.nm, .int .i64 r.dl] 26)).cell? ⟨wr.heap.size, 0, none⟩ = some (.int .i64 r.st) := by go_simp
                have e1 : (wr.alloc (.cells #[.int .i64 r.st, .int .i64 r.ow, .string r.nm, .int .i64 r.dl] 26)).cell? ⟨wr.heap.size, 1, none⟩ = some (.int .i64 r.ow) := by go_simp
                have e2 : (wr.alloc (.cells #[.int .i64 r.st, .int .i64 r.ow, .string r.nm, .int .i64 r.dl] 26)).cell? ⟨wr.heap.size, 2, none⟩ = some (.string r.nm) := by go_simp
                have e3 : (wr.alloc (.cells #[.int .i64 r.st, .int .i64 r.ow, .string r.nm, .int .i64 r.dl] 26)).cell? ⟨wr.heap.size, 3, none⟩ = some (.int .i64 r.dl) := by go_simp
                have hs1 : (wr.alloc (.cells #[.int .i64 r.st, .int .i64 r.ow, .string r.nm, .int .i64 r.dl] 26)).heap.size = wr.heap.size + 1 := by simp
                obtain ⟨W1, hW1⟩ : ∃ W, wr.alloc (.cells #[.int .i64 r.st, .int .i64 r.ow, .string r.nm, .int .i64 r.dl] 26) = W := ⟨_, rfl⟩
                rw [hW1] at hA1 e0 e1 e2 e3 hs1
                rw [hW1]
                obtain ⟨nb, hnb⟩ : ∃ b, wr.heap.size = b := ⟨_, rfl⟩
                rw [hnb] at e0 e1 e2 e3 hs1
                rw [hnb]
                have hmlt := Hmp.out.lt
                have hbw : b < wr.heap.size := by have := (Hxc.out.size); have := Hcg.out.size; have := H.out.lt; omega
                have hc2 : W1.cell? ⟨b, 2, none⟩ = some (.map (some m)) := (hA1.cell (p := ⟨b, 2, none⟩) hbw).trans ((Hcg.out.cell (p := ⟨b, 2, none⟩) (by have := Hxc.out.size; have := H.out.lt; simp only; omega) hne).trans (H.out.ext Hxc.out).c2)
                have x3 := (hA1.cell (p := ⟨g, o + i * 3 + 2, none⟩) b1).trans x3
                have hbW : b < W1.heap.size := Nat.lt_of_lt_of_le hbw hA1.size
                have hgW : g < W1.heap.size := Nat.lt_of_lt_of_le b1 hA1.size
                have hnW : nb < W1.heap.size := by omega
                have hnm : ¬ nb = m := by omega
                have Hmw := Lib.hid (Hmp.out.ext hA1)
                have HcgW := Lib.hid (Hcg.out.trans (hA1.chg (fun k => k = m)))
                clear hW1 hA1 y0 y1 y2 y3 hs1 hmlt hbw hnb
                refine wp_region_held_drew (S := fun w' => w'.cell? ⟨b, 2, none⟩ = some (.map (some m)) ∧ w'.cell? ⟨g, o + i * 3 + 2, none⟩ = some (.string n.k) ∧ w'.cell? ⟨nb, 0, none⟩ = some (.int .i64 r.st) ∧ w'.cell? ⟨nb, 1, none⟩ = some (.int .i64 r.ow) ∧ w'.cell? ⟨nb, 2, none⟩ = some (.string r.nm) ∧ w'.cell? ⟨nb, 3, none⟩ = some (.int .i64 r.dl)) (by kernel_rfl) ?_ (fun hHeld => ?_)
                · exact ⟨hc2, x3, e0, e1, e2, e3⟩
                refine wpAnyH_take (i := 0) (oi := _) (v := ?_) rfl (by kernel_rfl) (by kernel_rfl) (by kernel_rfl) (fun _ _ _ h => h) (Or.inl ⟨by rfl, ?_⟩) (by assumption) ?_; rotate_left; (focus ((intro w hSw; (try dsimp only at hSw); go_simp); (first | done | (with_reducible rfl)))); (try simp only [Act.put]); (try simp only [List.setIfInBounds_toArray])
                refine wpAnyH_take (i := 1) (oi := _) (v := ?_) rfl (by kernel_rfl) (by kernel_rfl) (by kernel_rfl) (fun _ _ _ h => h) (Or.inl ⟨by rfl, ?_⟩) (by assumption) ?_; rotate_left; (focus ((intro w hSw; (try dsimp only at hSw); go_simp); (first | done | (with_reducible rfl)))); (try simp only [Act.put]); (try simp only [List.setIfInBounds_toArray])
                refine wpAnyH_take (i := 2) (oi := _) (v := ?_) rfl (by kernel_rfl) (by kernel_rfl) (by kernel_rfl) (fun _ _ _ h => h) (Or.inl ⟨by rfl, ?_⟩) (by assumption) ?_; rotate_left; (focus ((intro w hSw; (try dsimp only at hSw); go_simp); (first | done | (with_reducible rfl)))); (try simp only [Act.put]); (try simp only [List.setIfInBounds_toArray])
                refine wpAnyH_take (i := 3) (oi := _) (v := ?_) rfl (by kernel_rfl) (by kernel_rfl) (by kernel_rfl) (fun _ _ _ h => h) (Or.inl ⟨by rfl, ?_⟩) (by assumption) ?_; rotate_left; (focus ((intro w hSw; (try dsimp only at hSw); go_simp); (first | done | (with_reducible rfl)))); (try simp only [Act.put]); (try simp only [List.setIfInBounds_toArray])
                refine wpAnyH_take (i := 4) (oi := _) (v := ?_) rfl (by kernel_rfl) (by kernel_rfl) (by kernel_rfl) (fun _ _ _ h => h) (Or.inl ⟨by rfl, ?_⟩) (by assumption) ?_; rotate_left; (focus ((intro w hSw; (try dsimp only at hSw); go_simp); (first | done | (with_reducible rfl)))); (try simp only [Act.put]); (try simp only [List.setIfInBounds_toArray])
                refine wpAnyH_take (i := 5) (oi := _) (v := ?_) rfl (by kernel_rfl) (by kernel_rfl) (by kernel_rfl) (fun _ _ _ h => h) (Or.inl ⟨by rfl, ?_⟩) (by assumption) ?_; rotate_left; (focus ((intro w hSw; (try dsimp only at hSw); go_simp); (first | done | (with_reducible rfl)))); (try simp only [Act.put]); (try simp only [List.setIfInBounds_toArray])
                refine wpAnyH_take (i := 6) (oi := _) (v := ?_) rfl (by kernel_rfl) (by kernel_rfl) (by kernel_rfl) (fun _ _ _ h => h) (Or.inl ⟨by rfl, ?_⟩) (by assumption) ?_; rotate_left; (focus ((intro w hSw; (try dsimp only at hSw); go_simp); (first | done | (with_reducible rfl)))); (try simp only [Act.put]); (try simp only [List.setIfInBounds_toArray])
                refine wpAnyH_take (i := 7) (oi := _) (v := ?_) rfl (by kernel_rfl) (by kernel_rfl) (by kernel_rfl) (fun _ _ _ h => h) (Or.inl ⟨by rfl, ?_⟩) (by assumption) ?_; rotate_left; (focus ((intro w hSw; (try dsimp only at hSw); go_simp); (first | done | (with_reducible rfl)))); (try simp only [Act.put]); (try simp only [List.setIfInBounds_toArray])
                refine wpAnyH_take (i := 8) (oi := _) (v := ?_) rfl (by kernel_rfl) (by kernel_rfl) (by kernel_rfl) (fun _ _ _ h => h) (Or.inl ⟨by rfl, ?_⟩) (by assumption) ?_; rotate_left; (focus ((intro w hSw; (try dsimp only at hSw); go_simp); (first | done | (with_reducible rfl)))); (try simp only [Act.put]); (try simp only [List.setIfInBounds_toArray])
                refine wpAnyH_take (i := 9) (oi := _) (v := ?_) rfl (by kernel_rfl) (by kernel_rfl) (by kernel_rfl) (fun _ _ _ h => h) (Or.inl ⟨by rfl, ?_⟩) (by assumption) ?_; rotate_left; (focus ((intro w hSw; (try dsimp only at hSw); go_simp); (first | done | (with_reducible rfl)))); (try simp only [Act.put]); (try simp only [List.setIfInBounds_toArray])
                obtain ⟨w4, hrun, hmap4, hcg4, hsz4⟩ := (Hmw.out.ext (Ext.refl W1).drew).put hlm hk Hst.out
                unfold rcV at hrun
                refine wpAnyH_ready (rs := [10]) (by kernel_rfl) (by simp) ?_; refine AllReadyH.cons (o := _) rfl (fun K hK => ?_) AllReadyH.nil; go_simp
                refine hK.out _ _ ⟨(hcg4.cell (p := ⟨b, 2, none⟩) hbW hne).trans hc2, (hcg4.cell (p := ⟨g, o + i * 3 + 2, none⟩) hgW hgm).trans x3, (hcg4.cell (p := ⟨nb, 0, none⟩) hnW hnm).trans e0, (hcg4.cell (p := ⟨nb, 1, none⟩) hnW hnm).trans e1, (hcg4.cell (p := ⟨nb, 2, none⟩) hnW hnm).trans e2, (hcg4.cell (p := ⟨nb, 3, none⟩) hnW hnm).trans e3⟩ (fun hHeld => ?_)
                clear hK K
                try simp only [Act.put, List.setIfInBounds_toArray, List.set_cons_zero, List.set_cons_succ]
                refine wpAnyH_done (by kernel_rfl) ?_ _
                have Hm4 := Lib.hid hmap4
                have Hcg4 := Lib.hid (HcgW.out.trans ((Chg.refl (fun k => k = m) W1).drew.trans hcg4))
                clear hHeld hmap4 hcg4 hsz4 hrun x3 hc2 e0 e1 e2 e3
                go_simp
                go_wp2_with fail
                go_roundw
                case rel => exact ⟨i + 1, by omega, by go_num, by rw [take_at Hqi.out, putQ_snoc]; exact Hm4.out, Hcg4.out⟩
                case measure => simp [intOf]; omega
            · have hdc2 : decide ((i : Int) < (qs.length : Int)) = false := by simp; omega
              obtain rfl : i = qs.length := by omega
              have hx9 : Chg (· = m) w wr := (Hxc.out.chg _).trans Hcg.out
              have hrz := (Hz1.out.ext Hxc1.out).chg Hcg.out (by omega)
              have hr9 := Hresp.out.chg Hcg.out (by have := Hrb2.out; omega)
              obtain ⟨z0, z1, z2, z3, z4, z5, z6, z7, zf, zl⟩ := hrz
              obtain ⟨r0, r1, r2, r3, r4, r5, r6, r7, rl⟩ := hr9
              have hmp9 := Hmp.out
              rw [List.take_of_length_le (Nat.le_refl _)] at hmp9
              have Hx9 := Lib.hid hx9
              have Hmp9 := Lib.hid hmp9
              clear hx9 hmp9
              go_wp2_with fail
              have hcf : Chg (· = m) w ((((((((wr.setCell ⟨rb, 0, none⟩ (.int .i64 R.e)).setCell ⟨rb, 1, none⟩ (.int .i64 R.at_)).setCell ⟨rb, 2, none⟩ (.string R.nm)).setCell ⟨rb, 3, none⟩ (.int .i64 R.rc.st)).setCell ⟨rb, 4, none⟩ (.int .i64 R.rc.ow)).setCell ⟨rb, 5, none⟩ (.string R.rc.nm)).setCell ⟨rb, 6, none⟩ (.int .i64 R.rc.dl)).setCell ⟨rb, 7, none⟩ (.int .i64 R.tick)) := by
                (repeat refine Chg.setCell ?_ (.inr (by rw [Hrb.out]; exact Nat.le_refl _)) _)
                exact Hx9.out
              have hcb : Chg (· = rb) wr ((((((((wr.setCell ⟨rb, 0, none⟩ (.int .i64 R.e)).setCell ⟨rb, 1, none⟩ (.int .i64 R.at_)).setCell ⟨rb, 2, none⟩ (.string R.nm)).setCell ⟨rb, 3, none⟩ (.int .i64 R.rc.st)).setCell ⟨rb, 4, none⟩ (.int .i64 R.rc.ow)).setCell ⟨rb, 5, none⟩ (.string R.rc.nm)).setCell ⟨rb, 6, none⟩ (.int .i64 R.rc.dl)).setCell ⟨rb, 7, none⟩ (.int .i64 R.tick)) := by
                (repeat refine Chg.setCell (S := (· = rb)) ?_ (.inl rfl) _)
                exact Chg.refl _ _
              refine bodyPost_ret (v := respV R) (by simp [results, Try.results28, go_sem, respV, *]) rfl ⟨by rw [HdoR.out], ?_, hcf⟩
              rw [HdoL.out]
              exact H.out.turn hcf (Hmp9.out.chg hcb (by omega))
end Go.Proofs.Ythenclenabcmgaa
