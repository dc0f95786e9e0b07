/-
  The reference's Do answers as the plain law says, and leaves the records that it says (28.2).
  Conditions: few records.
-/
import Derived.Test.YtfbhbnolnjcaiaaModD
import Derived.Test.YtfbhbnolnjcaiaaModG
import Derived.Test.YtfbhbnolnjcaiaaModH
import Derived.Test.YtfbhbnolnjcaiaaRKept
import Derived.Test.YtfbhbnolnjcaiaaGround
import Derived.Deep.DeepCutAuto
namespace Go.Proofs.Ytfbhbnolnjcaiaa
open Go.RowKit Go.Sort Go.Shelf
set_option maxHeartbeats 8000000
set_option maxRecDepth 100000

def RDoPost (b : Nat) (cl cap client op ttl now : Int) (l : List Kp) (ns : List Nm) (w : World) (e : Ending) (w' : World) : Prop :=
  e = .returned (respV (doR cl cap l client op ttl now ns)) ∧ RModAt w' (fun k => b < k) b cl cap (doL cl cap l client op ttl now ns) ∧ Chg (· = b) w w'
theorem Chg.then_new {S T : Nat → Prop} {a b c : World} (h : Chg S a b) (k : Chg T b c) (hT : ∀ i, T i → a.heap.size ≤ i) : Chg S a c :=
  ⟨k.os.trans h.os, k.tape.trans h.tape, k.output.trans h.output, Nat.le_trans h.size k.size, fun i hi hS => (k.block i (Nat.lt_of_lt_of_le hi h.size) (fun ht => by have := hT i ht; omega)).trans (h.block i hi hS)⟩
theorem putAll_snoc (op client dl : Int) (l : List Kp) (ps : List (Nm × Rc)) (p : Nm × Rc) : putAll op client dl l (ps ++ [p]) = putK (putAll op client dl l ps) p.1.k (afterR op client dl p.1 p.2) := by simp [putAll, List.foldl_append]
theorem putAll_lenR (op client dl : Int) : ∀ (ps : List (Nm × Rc)) (l : List Kp), (putAll op client dl l ps).length ≤ l.length + ps.length
  | [], l => by simp [putAll]
  | p :: ps, l => by
    have h1 := putAll_lenR op client dl ps (putK l p.1.k (afterR op client dl p.1 p.2))
    have h2 := putK_len l p.1.k (afterR op client dl p.1 p.2)
    show (putAll op client dl (putK l p.1.k (afterR op client dl p.1 p.2)) ps).length ≤ _
    simp only [List.length_cons]; omega
theorem RModAt.low {S T : Nat → Prop} {w : World} {b : Nat} {cl cap : Int} {l : List Kp} (h : RModAt w S b cl cap l) (hST : ∀ k, S k → T k) (hb : ¬ T b) : RModAt w T b cl cap l := by
  obtain ⟨v, h1, h2⟩ := h.c2
  exact ⟨h.c0, h.c1, ⟨v, h1, Rd.mono h2 fun k hk _ => hST k hk⟩, h.fz, h.lt, hb⟩
theorem RModAt.set {S : Nat → Prop} {w w' : World} {b : Nat} {cl cap : Int} {l l' : List Kp} {v : Value} {B : Nat} (h : RModAt w S b cl cap l) (x : Ext w w') (ho : w'.ownsRow B 133 5 v l'.length (kpsCells l')) (hB : ∀ k, B ≤ k → S k) : RModAt (w'.setCell ⟨b, 2, none⟩ v) S b cl cap l' := by
  obtain ⟨v0, c2, _⟩ := h.c2
  have c0 := (x.cell (p := ⟨b, 0, none⟩) h.lt).trans h.c0
  have c1 := (x.cell (p := ⟨b, 1, none⟩) h.lt).trans h.c1
  have c2' := (x.cell (p := ⟨b, 2, none⟩) h.lt).trans c2
  have fz := fun i => (x.frozen (p := ⟨b, i, none⟩) h.lt).trans (h.fz i)
  have hl := Nat.lt_of_lt_of_le h.lt x.size
  have hc : Chg (· = b) w' (w'.setCell ⟨b, 2, none⟩ v) := (Chg.refl (· = b) w').setCell (p := ⟨b, 2, none⟩) (.inl rfl) v
  have hr : Rd w' S 5 v l'.length (kpsCells l') := Rd.of_own ho fun k hk => hB k (ho.lt k hk).1
  refine ⟨by go_simp, by go_simp, ⟨v, by go_simp, Rd.chg hr hc fun k hk e => h.nS (e ▸ hk)⟩, fun i => by go_simp, by simpa [World.setCell] using hl, h.nS⟩
/-- Behind Judge. -/
def RDoMid (cap op client ttl now : Int) (l : List Kp) (ns : List Nm) (w1 : World) (p : Value) (wx : World) : Prop :=
  ∃ rb2, p = .pointer (some ⟨rb2, 0, none⟩) ∧ RespAt wx rb2 (judgeR cap op client ttl now l.length (withR l ns)) ∧ w1.heap.size ≤ rb2 ∧ Ext w1 wx
theorem rmdo_any {S : Nat → Prop} (b : Nat) (cl cap client op ttl now : Int) (l : List Kp) (v : Value) (ns : List Nm) (w : World) (h : RModAt w (fun k => b < k) b cl cap l) (hll : l.length ≤ 50000) (hn : NmsAt w S v ns) (hS : ¬ S b) :
    Calls Try.prog 14 #[.pointer (some ⟨b, 0, none⟩), .int .i64 client, .int .i64 op, .int .i64 ttl, v, .int .i64 now] w (RDoPost b cl cap client op ttl now l ns w) := by
  obtain ⟨A, cA, rfl⟩ := hn.shape
  obtain ⟨rb, hrb⟩ : ∃ b, w.heap.size = b := ⟨_, rfl⟩
  have hbl := h.lt
  have H := Lib.hid h
  have Hn := Lib.hid hn
  have HS := Lib.hid hS
  have Hrb := Lib.hid hrb
  rw [hrb] at hbl
  clear h hn hS
  have X0 := Lib.hid ((Ext.refl w).alloc (.cells #[.int .i64 0, .int .i64 0, .string ⟨#[]⟩, .int .i64 0, .int .i64 0, .string ⟨#[]⟩, .int .i64 0, .int .i64 0] 28))
  have hz0 := rz_new w
  rw [hrb] at hz0
  have Hz0 := Lib.hid hz0
  have hm0 := H.out.ext X0.out
  have c0 := hm0.c0
  have c1 := hm0.c1
  clear hz0 hm0
  go_enter Try.func14, Try.ntmps14
  go_wp2_with fail
  refine (rproper_any (cap := cap) cl client op ttl now _ ns _ (Hn.out.ext X0.out)).mono ?_
  rintro x w1 ⟨rfl, hx⟩
  have hz1 := Hz0.out.ext hx
  have Hx1 := Lib.hid (X0.out.trans hx)
  clear hx hrb c0 c1
  cases hp : properB cl client op ttl now ns with
  | false =>
    have hR : doR cl cap l client op ttl now ns = ⟨1, -1, ⟨#[]⟩, default, 0⟩ := by unfold doR; rw [hp]; simp
    have hL : doL cl cap l client op ttl now ns = l := by unfold doL; rw [hp]; simp
    have HR := Lib.hid hR
    have HL := Lib.hid hL
    have Hp := Lib.hid hp
    obtain ⟨z0, z1, z2, z3, z4, z5, z6, z7, zf, zl⟩ := hz1
    clear hR hL hp
    go_wp2_with fail
    have hcg : Ext w ((((((((w1.setCell ⟨rb, 0, none⟩ (.int .i64 1)).setCell ⟨rb, 1, none⟩ (.int .i64 (-1))).setCell ⟨rb, 2, none⟩ (.string ⟨#[]⟩)).setCell ⟨rb, 3, none⟩ (.int .i64 0)).setCell ⟨rb, 4, none⟩ (.int .i64 0)).setCell ⟨rb, 5, none⟩ (.string ⟨#[]⟩)).setCell ⟨rb, 6, none⟩ (.int .i64 0)).setCell ⟨rb, 7, none⟩ (.int .i64 0)) := by
      (repeat refine ext_setCell ?_ (by rw [Hrb.out]; exact Nat.le_refl _) _)
      exact Hx1.out
    refine bodyPost_ret (v := respV ⟨1, -1, ⟨#[]⟩, default, 0⟩) (by simp [results, Try.results14, go_sem, respV, def_rc, *]) rfl ⟨by rw [HR.out], ?_, hcg.chg _⟩
    rw [HL.out]
    exact H.out.ext hcg
  | true =>
    have Hp := Lib.hid (of_decide_eq_true hp)
    have Hpb := Lib.hid hp
    have hl1 := (of_decide_eq_true hp).l1
    obtain ⟨nn, hnn⟩ : ∃ n, ns.length = n := ⟨_, rfl⟩
    rw [hnn] at hl1
    rw [hnn]
    have Hnn := Lib.hid hnn
    have Hz1 := Lib.hid hz1
    have hw1 : rb + 1 ≤ w1.heap.size := hz1.lt
    clear hp hnn hz1
    go_wp2_with fail
    go_loopw [33, 13] (fun o r wr => ∃ i : Nat, i ≤ nn ∧ o = .int .i64 (i : Int) ∧ wr.ownsRow w1.heap.size 26 4 r i (flatR ((ns.take i).map fun n => getK l n.k)) ∧ Ext w1 wr) (fun o _ _ => nn - (intOf o).toNat)
    case atStart => exact ⟨0, by omega, rfl, World.ownsRow_nil _ _ _ _, Ext.refl _⟩
    case round =>
      obtain ⟨i, hi, rfl, hown, hx⟩ := hrel
      obtain ⟨la, lc, rfl⟩ := own_shape hown
      have Hown := Lib.hid hown
      have Hx := Lib.hid hx
      have Hxw := Lib.hid (Hx1.out.trans hx)
      clear hown hx
      by_cases hlt : i < nn
      · have hdc : decide ((i : Int) < (nn : Int)) = true := by simpa using hlt
        obtain ⟨g, o, c', hv, p1, p2, hSg, b1, hcell⟩ := (Hn.out.ext Hxw.out).get (j := i) (by rw [Hnn.out]; exact hlt)
        rw [Hnn.out] at hv p1
        simp only [Value.slice.injEq, true_and] at hv
        obtain ⟨rfl, rfl⟩ := hv
        obtain ⟨n, hni⟩ : ∃ n, ns[i]? = some n := ⟨ns[i]'(by have := Hnn.out; omega), by simp⟩
        obtain ⟨x1, x2, x3⟩ := hcell _ _ hni
        have i0 : (0 : Int) ≤ (i : Int) := by omega
        have i1 : (i : Int) < (nn : Int) := by omega
        have Hni := Lib.hid hni
        clear hcell hni
        go_upto_region 7 with fail
        have hA1 : Ext wr (wr.alloc (.cells #[.string n.a, .string n.u, .string n.k] 68)) := (Ext.refl wr).alloc _
        have n2 : (wr.alloc (.cells #[.string n.a, .string n.u, .string n.k] 68)).cell? ⟨wr.heap.size, 2, none⟩ = some (.string n.k) := by go_simp
        have hs1 : (wr.alloc (.cells #[.string n.a, .string n.u, .string n.k] 68)).heap.size = wr.heap.size + 1 := by simp
        obtain ⟨W1, hW1⟩ : ∃ W, wr.alloc (.cells #[.string n.a, .string n.u, .string n.k] 68) = W := ⟨_, rfl⟩
        rw [hW1] at hA1 n2 hs1
        rw [hW1]
        obtain ⟨nb, hnb⟩ : ∃ b, wr.heap.size = b := ⟨_, rfl⟩
        rw [hnb] at n2 hs1
        rw [hnb]
        have hm1 := H.out.ext (Hxw.out.trans hA1)
        obtain ⟨lv, hc2, hka⟩ := hm1.c2
        obtain ⟨kA, kC, rfl⟩ := hka.shape
        have HA1 := Lib.hid hA1
        have Hs1 := Lib.hid hs1
        have Hnb := Lib.hid hnb
        have Hm1 := Lib.hid hm1
        have Hka := Lib.hid hka
        clear hW1 hA1 hs1 hnb hm1 x1 x2 x3 hka
        refine wp_region_held_drew (S := fun w' => w'.cell? ⟨b, 2, none⟩ = some (.slice kA l.length kC) ∧ w'.cell? ⟨nb, 2, none⟩ = some (.string n.k)) (by kernel_rfl) ?_ (fun hHeld => ?_)
        · exact ⟨hc2, n2⟩
        refine wpAnyH_take (i := 0) (oi := _) (v := ?_) rfl (by kernel_rfl) (by kernel_rfl) (by kernel_rfl) (fun _ _ _ h => h) (Or.inl ⟨by rfl, ?_⟩) (by assumption) ?_; rotate_left; (focus ((intro w hSw; (try dsimp only at hSw); go_simp); (first | done | (with_reducible rfl)))); (try simp only [Act.put]); (try simp only [List.setIfInBounds_toArray])
        refine wpAnyH_take (i := 1) (oi := _) (v := ?_) rfl (by kernel_rfl) (by kernel_rfl) (by kernel_rfl) (fun _ _ _ h => h) (Or.inl ⟨by rfl, ?_⟩) (by assumption) ?_; rotate_left; (focus ((intro w hSw; (try dsimp only at hSw); go_simp); (first | done | (with_reducible rfl)))); (try simp only [Act.put]); (try simp only [List.setIfInBounds_toArray])
        refine wpAnyH_take (i := 2) (oi := _) (v := ?_) rfl (by kernel_rfl) (by kernel_rfl) (by kernel_rfl) (fun _ _ _ h => h) (Or.inl ⟨by rfl, ?_⟩) (by assumption) ?_; rotate_left; (focus ((intro w hSw; (try dsimp only at hSw); go_simp); (first | done | (with_reducible rfl)))); (try simp only [Act.put]); (try simp only [List.setIfInBounds_toArray])
        refine wpAnyH_take (i := 3) (oi := _) (v := ?_) rfl (by kernel_rfl) (by kernel_rfl) (by kernel_rfl) (fun _ _ _ h => h) (Or.inl ⟨by rfl, ?_⟩) (by assumption) ?_; rotate_left; (focus ((intro w hSw; (try dsimp only at hSw); go_simp); (first | done | (with_reducible rfl)))); (try simp only [Act.put]); (try simp only [List.setIfInBounds_toArray])
        refine wpAnyH_take (i := 4) (oi := _) (v := ?_) rfl (by kernel_rfl) (by kernel_rfl) (by kernel_rfl) (fun _ _ _ h => h) (Or.inl ⟨by rfl, ?_⟩) (by assumption) ?_; rotate_left; (focus ((intro w hSw; (try dsimp only at hSw); go_simp); (first | done | (with_reducible rfl)))); (try simp only [Act.put]); (try simp only [List.setIfInBounds_toArray])
        refine wpAnyH_take (i := 5) (oi := _) (v := ?_) rfl (by kernel_rfl) (by kernel_rfl) (by kernel_rfl) (fun _ _ _ h => h) (Or.inl ⟨by rfl, ?_⟩) (by assumption) ?_; rotate_left; (focus ((intro w hSw; (try dsimp only at hSw); go_simp); (first | done | (with_reducible rfl)))); (try simp only [Act.put]); (try simp only [List.setIfInBounds_toArray])
        refine wpAnyH_take (i := 6) (oi := _) (v := ?_) rfl (by kernel_rfl) (by kernel_rfl) (by kernel_rfl) (fun _ _ _ h => h) (Or.inl ⟨by rfl, ?_⟩) (by assumption) ?_; rotate_left; (focus ((intro w hSw; (try dsimp only at hSw); go_simp); (first | done | (with_reducible rfl)))); (try simp only [Act.put]); (try simp only [List.setIfInBounds_toArray])
        refine wpAnyH_ready (rs := [7]) (by kernel_rfl) (by simp) ?_; refine AllReadyH.cons (o := _) rfl (fun K hK => ?_) AllReadyH.nil; go_simp
        refine (rget_any _ l n.k _ (Rd.drew Hka.out)).mono ?_
        rintro x w3 ⟨rfl, hx3⟩
        unfold rcV
        have hxa : Ext W1 w3 := (Ext.refl W1).drew.trans hx3
        have hbW : b < W1.heap.size := Hm1.out.lt
        have hnW : nb < W1.heap.size := by have := Hs1.out; omega
        have hc2a := (hxa.cell (p := ⟨b, 2, none⟩) hbW).trans hc2
        have n2a := (hxa.cell (p := ⟨nb, 2, none⟩) hnW).trans n2
        clear hx3 hc2 n2
        dsimp only
        refine hK.out _ _ ⟨hc2a, n2a⟩ (fun hHeld => ?_)
        clear hK K
        try simp only [Act.put, List.setIfInBounds_toArray, List.set_cons_zero, List.set_cons_succ]
        refine wpAnyH_ready (rs := [8]) (by kernel_rfl) (by simp) ?_; refine AllReadyH.cons (o := _) rfl (fun K hK => ?_) AllReadyH.nil; go_simp
        have hxb : Ext W1 (w3.alloc (.cells #[.int .i64 (getK l n.k).st, .int .i64 (getK l n.k).ow, .string (getK l n.k).nm, .int .i64 (getK l n.k).dl] 26)) := hxa.alloc _
        have hrl := rd_litM w3 #[.int .i64 (getK l n.k).st, .int .i64 (getK l n.k).ow, .string (getK l n.k).nm, .int .i64 (getK l n.k).dl] 26 4 (by rfl)
        have hc2b := ((Ext.refl w3).alloc (.cells #[.int .i64 (getK l n.k).st, .int .i64 (getK l n.k).ow, .string (getK l n.k).nm, .int .i64 (getK l n.k).dl] 26)).cell (p := ⟨b, 2, none⟩) (Nat.lt_of_lt_of_le hbW hxa.size) |>.trans hc2a
        have n2b := ((Ext.refl w3).alloc (.cells #[.int .i64 (getK l n.k).st, .int .i64 (getK l n.k).ow, .string (getK l n.k).nm, .int .i64 (getK l n.k).dl] 26)).cell (p := ⟨nb, 2, none⟩) (Nat.lt_of_lt_of_le hnW hxa.size) |>.trans n2a
        have hbz : w1.heap.size ≤ (w3.alloc (.cells #[.int .i64 (getK l n.k).st, .int .i64 (getK l n.k).ow, .string (getK l n.k).nm, .int .i64 (getK l n.k).dl] 26)).heap.size := Nat.le_trans (Nat.le_trans Hx.out.size HA1.out.size) hxb.size
        have Hxb := Lib.hid hxb
        have Hrl := Lib.hid hrl
        have Hbz := Lib.hid hbz
        refine hK.out _ _ ⟨hc2b, n2b⟩ (fun hHeld => ?_)
        clear hK K hxa hxb hrl hbz hc2a n2a
        try simp only [Act.put, List.setIfInBounds_toArray, List.set_cons_zero, List.set_cons_succ]
        refine wpAnyH_ready (rs := [9]) (by kernel_rfl) (by simp) ?_
        refine AllReadyH.cons (o := _) rfl (fun K hK => ?_) AllReadyH.nil
        obtain ⟨j0, hj, hj0, hj1, hj2⟩ := info_parts info_rec
        refine step_append_rd _ (by rfl) (.tmp 37) (.tmp 45) 62 (by rfl) w1.heap.size 26 j0 _ 4 40 und_recs hj hj0 hj1 hj2 (by rfl) (by decide) (.slice la i lc) i (flatR ((ns.take i).map fun n => getK l n.k)) (by rfl) (own_ext Hown.out (HA1.out.trans Hxb.out)) (fun _ => True) (.slice (some ⟨w3.heap.size, 0, none⟩) 1 1) 1 [.int .i64 (getK l n.k).st, .int .i64 (getK l n.k).ow, .string (getK l n.k).nm, .int .i64 (getK l n.k).dl] (by rfl) Hrl.out (by simp [Value.oneCell']) (by unfold maxLen; omega) (by omega) Hbz.out ?_
        intro v' w4 ha
        have hcg : Chg (fun k => w1.heap.size ≤ k ∧ k < nb) _ w4 := (Chg.refl _ _).grown ha.grown (fun k hk => .inl (by have := Hown.out.lt k hk; have := Hnb.out; omega))
        have hx4 : Ext w1 w4 := ((Hx.out.trans HA1.out).trans Hxb.out).chg_new hcg fun k hk => hk.1
        have hend : w4.ownsRow w1.heap.size 26 4 v' (i + 1) (flatR ((ns.take (i + 1)).map fun n => getK l n.k)) := by
          rw [take_at Hni.out, List.map_append, List.map_cons, List.map_nil, flatR_snoc]
          exact ha.own
        have n24 := (hcg.cell (p := ⟨nb, 2, none⟩) (Nat.lt_of_lt_of_le hnW Hxb.out.size) (by simp only; omega)).trans n2b
        have hb1 : b < w1.heap.size := by omega
        have hc24 := (hcg.cell (p := ⟨b, 2, none⟩) (Nat.lt_of_lt_of_le hbW Hxb.out.size) (by simp only; omega)).trans hc2b
        have Hend := Lib.hid hend
        have Hx4 := Lib.hid hx4
        go_simp
        refine hK.out _ _ ⟨hc24, n24⟩ (fun hHeld => ?_)
        clear hK K hcg hx4 hend n24 ha n2b hc2b hc24
        try simp only [Act.put, List.setIfInBounds_toArray, List.set_cons_zero, List.set_cons_succ]
        refine wpAnyH_take (i := 10) (oi := _) (v := ?_) rfl (by kernel_rfl) (by kernel_rfl) (by kernel_rfl) (fun _ _ _ h => h) (Or.inl ⟨by rfl, ?_⟩) (by assumption) ?_; rotate_left; (focus ((intro w hSw; (try dsimp only at hSw); go_simp); (first | done | (with_reducible rfl)))); (try simp only [Act.put]); (try simp only [List.setIfInBounds_toArray])
        refine wpAnyH_done (by kernel_rfl) ?_ _
        go_simp
        obtain ⟨a3, c3, hv3⟩ := own_shape Hend.out
        subst hv3
        clear hHeld
        go_wp2_with fail
        go_roundw
        case rel => exact ⟨i + 1, by omega, by go_num, Hend.out, Hx4.out⟩
        case measure => simp [intOf]; omega
      · have hdc : decide ((i : Int) < (nn : Int)) = false := by simp; omega
        obtain rfl : nn = i := by omega
        have hrecs : RecsAt wr (fun k => w1.heap.size ≤ k) (.slice la nn lc) ((withR l ns).map Prod.snd) := by
          have h1 := Hown.out
          rw [List.take_of_length_le (by rw [Hnn.out]; exact Nat.le_refl _)] at h1
          have e1 : (withR l ns).map Prod.snd = ns.map fun n => getK l n.k := by simp [withR, List.map_map, Function.comp_def]
          have e2 : (ns.map fun n => getK l n.k).length = nn := by rw [List.length_map]; exact Hnn.out
          rw [e1]
          unfold RecsAt
          rw [e2]
          exact Rd.of_own h1 fun k hk => (h1.lt k hk).1
        have hps : (withR l ns).map Prod.fst = ns := by simp [withR, List.map_map, Function.comp_def]
        have hm1 := H.out.ext Hxw.out
        obtain ⟨lv, hc2, hka⟩ := hm1.c2
        obtain ⟨kA, kC, rfl⟩ := hka.shape
        have Hrecs := Lib.hid hrecs
        have Hps := Lib.hid hps
        have Hm1 := Lib.hid hm1
        have Hc2 := Lib.hid hc2
        clear hrecs hps hm1 hka hc2
        have hnI : NmsAt wr S (.slice A nn cA) ((withR l ns).map Prod.fst) := by
          rw [Hps.out, ← Hnn.out]
          exact Hn.out.ext Hxw.out
        have HnI := Lib.hid hnI
        have hbw : b < wr.heap.size := Hm1.out.lt
        have hSx : ∀ w', Ext wr w' → (w'.cell? ⟨b, 0, none⟩ = some (.int .i64 cl) ∧ w'.cell? ⟨b, 1, none⟩ = some (.int .i64 cap) ∧ w'.cell? ⟨b, 2, none⟩ = some (.slice kA l.length kC)) := fun w' x => ⟨(x.cell (p := ⟨b, 0, none⟩) hbw).trans Hm1.out.c0, (x.cell (p := ⟨b, 1, none⟩) hbw).trans Hm1.out.c1, (x.cell (p := ⟨b, 2, none⟩) hbw).trans Hc2.out⟩
        have HSx := Lib.hid hSx
        clear hnI hSx
        go_upto_region 9 with fail
        go_cut [16] (fun p wx => RDoMid cap op client ttl now l ns wr p wx)
        case first =>
          rename_i J1 K1 hJ hM
          refine wp_region_held_drew (S := fun w' => w'.cell? ⟨b, 0, none⟩ = some (.int .i64 cl) ∧ w'.cell? ⟨b, 1, none⟩ = some (.int .i64 cap) ∧ w'.cell? ⟨b, 2, none⟩ = some (.slice kA l.length kC)) (by kernel_rfl) ?_ (fun hHeld => ?_)
          · exact HSx.out _ (Ext.refl wr).drew
          refine wpAnyH_take (i := 0) (oi := _) (v := ?_) rfl (by kernel_rfl) (by kernel_rfl) (by kernel_rfl) (fun _ _ _ h => h) (Or.inl ⟨by rfl, ?_⟩) (by assumption) ?_; rotate_left; (focus ((intro w hSw; (try dsimp only at hSw); go_simp); (first | done | (with_reducible rfl)))); (try simp only [Act.put]); (try simp only [List.setIfInBounds_toArray])
          refine wpAnyH_take (i := 1) (oi := _) (v := ?_) rfl (by kernel_rfl) (by kernel_rfl) (by kernel_rfl) (fun _ _ _ h => h) (Or.inl ⟨by rfl, ?_⟩) (by assumption) ?_; rotate_left; (focus ((intro w hSw; (try dsimp only at hSw); go_simp); (first | done | (with_reducible rfl)))); (try simp only [Act.put]); (try simp only [List.setIfInBounds_toArray])
          refine wpAnyH_take (i := 2) (oi := _) (v := ?_) rfl (by kernel_rfl) (by kernel_rfl) (by kernel_rfl) (fun _ _ _ h => h) (Or.inl ⟨by rfl, ?_⟩) (by assumption) ?_; rotate_left; (focus ((intro w hSw; (try dsimp only at hSw); go_simp); (first | done | (with_reducible rfl)))); (try simp only [Act.put]); (try simp only [List.setIfInBounds_toArray])
          refine wpAnyH_take (i := 3) (oi := _) (v := ?_) rfl (by kernel_rfl) (by kernel_rfl) (by kernel_rfl) (fun _ _ _ h => h) (Or.inl ⟨by rfl, ?_⟩) (by assumption) ?_; rotate_left; (focus ((intro w hSw; (try dsimp only at hSw); go_simp); (first | done | (with_reducible rfl)))); (try simp only [Act.put]); (try simp only [List.setIfInBounds_toArray])
          refine wpAnyH_take (i := 4) (oi := _) (v := ?_) rfl (by kernel_rfl) (by kernel_rfl) (by kernel_rfl) (fun _ _ _ h => h) (Or.inl ⟨by rfl, ?_⟩) (by assumption) ?_; rotate_left; (focus ((intro w hSw; (try dsimp only at hSw); go_simp); (first | done | (with_reducible rfl)))); (try simp only [Act.put]); (try simp only [List.setIfInBounds_toArray])
          refine wpAnyH_take (i := 5) (oi := _) (v := ?_) rfl (by kernel_rfl) (by kernel_rfl) (by kernel_rfl) (fun _ _ _ h => h) (Or.inl ⟨by rfl, ?_⟩) (by assumption) ?_; rotate_left; (focus ((intro w hSw; (try dsimp only at hSw); go_simp); (first | done | (with_reducible rfl)))); (try simp only [Act.put]); (try simp only [List.setIfInBounds_toArray])
          refine wpAnyH_take (i := 6) (oi := _) (v := ?_) rfl (by kernel_rfl) (by kernel_rfl) (by kernel_rfl) (fun _ _ _ h => h) (Or.inl ⟨by rfl, ?_⟩) (by assumption) ?_; rotate_left; (focus ((intro w hSw; (try dsimp only at hSw); go_simp); (first | done | (with_reducible rfl)))); (try simp only [Act.put]); (try simp only [List.setIfInBounds_toArray])
          refine wpAnyH_take (i := 7) (oi := _) (v := ?_) rfl (by kernel_rfl) (by kernel_rfl) (by kernel_rfl) (fun _ _ _ h => h) (Or.inl ⟨by rfl, ?_⟩) (by assumption) ?_; rotate_left; (focus ((intro w hSw; (try dsimp only at hSw); go_simp); (first | done | (with_reducible rfl)))); (try simp only [Act.put]); (try simp only [List.setIfInBounds_toArray])
          refine wpAnyH_take (i := 8) (oi := _) (v := ?_) rfl (by kernel_rfl) (by kernel_rfl) (by kernel_rfl) (fun _ _ _ h => h) (Or.inl ⟨by rfl, ?_⟩) (by assumption) ?_; rotate_left; (focus ((intro w hSw; (try dsimp only at hSw); go_simp); (first | done | (with_reducible rfl)))); (try simp only [Act.put]); (try simp only [List.setIfInBounds_toArray])
          refine wpAnyH_take (i := 9) (oi := _) (v := ?_) rfl (by kernel_rfl) (by kernel_rfl) (by kernel_rfl) (fun _ _ _ h => h) (Or.inl ⟨by rfl, ?_⟩) (by assumption) ?_; rotate_left; (focus ((intro w hSw; (try dsimp only at hSw); go_simp); (first | done | (with_reducible rfl)))); (try simp only [Act.put]); (try simp only [List.setIfInBounds_toArray])
          refine wpAnyH_take (i := 10) (oi := _) (v := ?_) rfl (by kernel_rfl) (by kernel_rfl) (by kernel_rfl) (fun _ _ _ h => h) (Or.inl ⟨by rfl, ?_⟩) (by assumption) ?_; rotate_left; (focus ((intro w hSw; (try dsimp only at hSw); go_simp); (first | done | (with_reducible rfl)))); (try simp only [Act.put]); (try simp only [List.setIfInBounds_toArray])
          refine wpAnyH_take (i := 11) (oi := _) (v := ?_) rfl (by kernel_rfl) (by kernel_rfl) (by kernel_rfl) (fun _ _ _ h => h) (Or.inl ⟨by rfl, ?_⟩) (by assumption) ?_; rotate_left; (focus ((intro w hSw; (try dsimp only at hSw); go_simp); (first | done | (with_reducible rfl)))); (try simp only [Act.put]); (try simp only [List.setIfInBounds_toArray])
          refine wpAnyH_take (i := 12) (oi := _) (v := ?_) rfl (by kernel_rfl) (by kernel_rfl) (by kernel_rfl) (fun _ _ _ h => h) (Or.inl ⟨by rfl, ?_⟩) (by assumption) ?_; rotate_left; (focus ((intro w hSw; (try dsimp only at hSw); go_simp); (first | done | (with_reducible rfl)))); (try simp only [Act.put]); (try simp only [List.setIfInBounds_toArray])
          refine wpAnyH_take (i := 13) (oi := _) (v := ?_) rfl (by kernel_rfl) (by kernel_rfl) (by kernel_rfl) (fun _ _ _ h => h) (Or.inl ⟨by rfl, ?_⟩) (by assumption) ?_; rotate_left; (focus ((intro w hSw; (try dsimp only at hSw); go_simp); (first | done | (with_reducible rfl)))); (try simp only [Act.put]); (try simp only [List.setIfInBounds_toArray])
          refine wpAnyH_take (i := 14) (oi := _) (v := ?_) rfl (by kernel_rfl) (by kernel_rfl) (by kernel_rfl) (fun _ _ _ h => h) (Or.inl ⟨by rfl, ?_⟩) (by assumption) ?_; rotate_left; (focus ((intro w hSw; (try dsimp only at hSw); go_simp); (first | done | (with_reducible rfl)))); (try simp only [Act.put]); (try simp only [List.setIfInBounds_toArray])
          refine wpAnyH_ready (rs := [15, 16]) (by kernel_rfl) (by simp) ?_
          refine AllReadyH.cons (o := _) rfl (fun K hK => ?_) (AllReadyH.cons (o := _) rfl (fun K hK => ?_) AllReadyH.nil)
          · go_simp
            refine (judge_any cl cap l.length client op ttl now _ _ (withR l ns) wr.drew (by rw [Hps.out]; exact Hp.out) (by omega) (by omega) (HnI.out.ext (Ext.refl wr).drew) (Rd.ext Hrecs.out (Ext.refl wr).drew)).mono ?_
            rintro x w3 ⟨rfl, hx3⟩
            obtain ⟨R, hR⟩ : ∃ R, judgeR cap op client ttl now l.length (withR l ns) = R := ⟨_, rfl⟩
            rw [hR]
            unfold respV
            have HR := Lib.hid hR
            have Hx3 := Lib.hid ((Ext.refl wr).drew.trans hx3)
            clear hx3 hR
            dsimp only
            refine hK.out _ _ (HSx.out _ Hx3.out) (fun hHeld => ?_)
            clear hK K
            try simp only [Act.put, List.setIfInBounds_toArray, List.set_cons_zero, List.set_cons_succ]
            refine wpAnyH_ready (rs := [16]) (by kernel_rfl) (by simp) ?_; refine AllReadyH.cons (o := _) rfl (fun K hK => ?_) AllReadyH.nil; go_simp
            refine hK.out _ _ (HSx.out _ (Hx3.out.alloc _)) (fun hHeld => ?_)
            clear hK K
            try simp only [Act.put, List.setIfInBounds_toArray, List.set_cons_zero, List.set_cons_succ]
            refine wpAnyH_ready (rs := [17]) (by kernel_rfl) (by simp) ?_; refine AllReadyH.cons (o := _) rfl (fun K hK => ?_) AllReadyH.nil; go_simp
            refine hK.out _ _ (HSx.out _ (Hx3.out.alloc _)) (fun hHeld => ?_)
            clear hK K
            try simp only [Act.put, List.setIfInBounds_toArray, List.set_cons_zero, List.set_cons_succ]
            refine wpAnyH_done (by kernel_rfl) ?_ _
            go_simp
            refine hM _ _ (hJ _ _ ?_)
            have hxa : Ext w3 (w3.alloc (.cells #[.int .i64 R.e, .int .i64 R.at_, .string R.nm, .int .i64 R.rc.st, .int .i64 R.rc.ow, .string R.rc.nm, .int .i64 R.rc.dl, .int .i64 R.tick] 28)) := (Ext.refl w3).alloc _
            have hfin : RDoMid cap op client ttl now l ns wr (.pointer (some ⟨w3.heap.size, 0, none⟩)) (w3.alloc (.cells #[.int .i64 R.e, .int .i64 R.at_, .string R.nm, .int .i64 R.rc.st, .int .i64 R.rc.ow, .string R.rc.nm, .int .i64 R.rc.dl, .int .i64 R.tick] 28)) :=
              ⟨_, rfl, by rw [HR.out]; exact resp_new w3 R, Hx3.out.size, Hx3.out.trans hxa⟩
            clear hHeld
            (repeat apply Exists.intro)
            exact ⟨hfin, rfl⟩
          · go_simp
            have hxz : Ext wr (wr.alloc (.cells #[.int .i64 0, .int .i64 0, .string ⟨#[]⟩, .int .i64 0, .int .i64 0, .string ⟨#[]⟩, .int .i64 0, .int .i64 0] 28)) := (Ext.refl wr).alloc _
            have hrz := rz_new wr
            have hsz : (wr.alloc (.cells #[.int .i64 0, .int .i64 0, .string ⟨#[]⟩, .int .i64 0, .int .i64 0, .string ⟨#[]⟩, .int .i64 0, .int .i64 0] 28)).heap.size = wr.heap.size + 1 := by simp
            obtain ⟨W2, hW2⟩ : ∃ W, wr.alloc (.cells #[.int .i64 0, .int .i64 0, .string ⟨#[]⟩, .int .i64 0, .int .i64 0, .string ⟨#[]⟩, .int .i64 0, .int .i64 0] 28) = W := ⟨_, rfl⟩
            rw [hW2] at hxz hrz hsz
            rw [hW2]
            obtain ⟨rb2, hrb2⟩ : ∃ b, wr.heap.size = b := ⟨_, rfl⟩
            rw [hrb2] at hrz hsz hbw
            rw [hrb2]
            have Hxz := Lib.hid hxz
            have Hrz := Lib.hid hrz
            have Hsz := Lib.hid hsz
            have Hrb2 := Lib.hid hrb2
            clear hW2 hxz hrz hsz hrb2
            refine hK.out _ _ (HSx.out _ Hxz.out.drew) (fun hHeld => ?_)
            clear hK K
            try simp only [Act.put, List.setIfInBounds_toArray, List.set_cons_zero, List.set_cons_succ]
            refine wpAnyH_ready (rs := [15]) (by kernel_rfl) (by simp) ?_; refine AllReadyH.cons (o := _) rfl (fun K hK => ?_) AllReadyH.nil; go_simp
            refine (judge_any cl cap l.length client op ttl now _ _ (withR l ns) W2.drew (by rw [Hps.out]; exact Hp.out) (by omega) (by omega) (HnI.out.ext Hxz.out.drew) (Rd.ext Hrecs.out Hxz.out.drew)).mono ?_
            rintro x w3 ⟨rfl, hx3⟩
            obtain ⟨R, hR⟩ : ∃ R, judgeR cap op client ttl now l.length (withR l ns) = R := ⟨_, rfl⟩
            rw [hR]
            unfold respV
            have HR := Lib.hid hR
            have Hx3 := Lib.hid ((Ext.refl W2).drew.trans hx3)
            clear hx3 hR
            dsimp only
            refine hK.out _ _ (HSx.out _ (Hxz.out.trans Hx3.out)) (fun hHeld => ?_)
            clear hK K
            try simp only [Act.put, List.setIfInBounds_toArray, List.set_cons_zero, List.set_cons_succ]
            obtain ⟨z0, z1, z2, z3, z4, z5, z6, z7, zf, zl⟩ := Hrz.out.ext Hx3.out
            refine wpAnyH_ready (rs := [17]) (by kernel_rfl) (by simp) ?_; refine AllReadyH.cons (o := _) rfl (fun K hK => ?_) AllReadyH.nil; go_simp
            have hcgb : Ext wr ((((((((w3.setCell ⟨rb2, 0, none⟩ (.int .i64 R.e)).setCell ⟨rb2, 1, none⟩ (.int .i64 R.at_)).setCell ⟨rb2, 2, none⟩ (.string R.nm)).setCell ⟨rb2, 3, none⟩ (.int .i64 R.rc.st)).setCell ⟨rb2, 4, none⟩ (.int .i64 R.rc.ow)).setCell ⟨rb2, 5, none⟩ (.string R.rc.nm)).setCell ⟨rb2, 6, none⟩ (.int .i64 R.rc.dl)).setCell ⟨rb2, 7, none⟩ (.int .i64 R.tick)) := by
              (repeat refine ext_setCell ?_ (by rw [Hrb2.out]; exact Nat.le_refl _) _)
              exact Hxz.out.trans Hx3.out
            have hresp : RespAt ((((((((w3.setCell ⟨rb2, 0, none⟩ (.int .i64 R.e)).setCell ⟨rb2, 1, none⟩ (.int .i64 R.at_)).setCell ⟨rb2, 2, none⟩ (.string R.nm)).setCell ⟨rb2, 3, none⟩ (.int .i64 R.rc.st)).setCell ⟨rb2, 4, none⟩ (.int .i64 R.rc.ow)).setCell ⟨rb2, 5, none⟩ (.string R.rc.nm)).setCell ⟨rb2, 6, none⟩ (.int .i64 R.rc.dl)).setCell ⟨rb2, 7, none⟩ (.int .i64 R.tick)) rb2 R := by
              constructor <;> first | go_simp | (simp [World.setCell]; omega)
            have hfin : RDoMid cap op client ttl now l ns wr (.pointer (some ⟨rb2, 0, none⟩)) ((((((((w3.setCell ⟨rb2, 0, none⟩ (.int .i64 R.e)).setCell ⟨rb2, 1, none⟩ (.int .i64 R.at_)).setCell ⟨rb2, 2, none⟩ (.string R.nm)).setCell ⟨rb2, 3, none⟩ (.int .i64 R.rc.st)).setCell ⟨rb2, 4, none⟩ (.int .i64 R.rc.ow)).setCell ⟨rb2, 5, none⟩ (.string R.rc.nm)).setCell ⟨rb2, 6, none⟩ (.int .i64 R.rc.dl)).setCell ⟨rb2, 7, none⟩ (.int .i64 R.tick)) :=
              ⟨_, rfl, by rw [HR.out]; exact hresp, by rw [Hrb2.out]; exact Nat.le_refl _, hcgb⟩
            refine hK.out _ _ (HSx.out _ hcgb) (fun hHeld => ?_)
            clear hK K
            try simp only [Act.put, List.setIfInBounds_toArray, List.set_cons_zero, List.set_cons_succ]
            refine wpAnyH_done (by kernel_rfl) ?_ _
            go_simp
            refine hM _ _ (hJ _ _ ?_)
            clear hHeld hcgb hresp
            (repeat apply Exists.intro)
            exact ⟨hfin, rfl⟩
        case rest =>
          obtain ⟨rb2, rfl, hresp, hrb2, hxc⟩ := hcut
          obtain ⟨R, hR⟩ : ∃ R, judgeR cap op client ttl now l.length (withR l ns) = R := ⟨_, rfl⟩
          rw [hR] at hresp
          have hdoR : doR cl cap l client op ttl now ns = R := by unfold doR; rw [if_pos Hpb.out, hR]
          have HdoR := Lib.hid hdoR
          have hx1c : Ext w1 wc := Hx.out.trans hxc
          have hxw : Ext w wc := Hx1.out.trans hx1c
          have Hxc := Lib.hid hxw
          have Hm2 := Lib.hid (show RModAt wc (fun k => b < k ∧ k ≠ rb) b cl cap l from by
            obtain ⟨v5, h5, h6⟩ := H.out.c2
            have h7 : RModAt w (fun k => b < k ∧ k ≠ rb) b cl cap l := ⟨H.out.c0, H.out.c1, ⟨v5, h5, Rd.mono h6 fun k hk hlt => ⟨hk, by have := Hrb.out; omega⟩⟩, H.out.fz, H.out.lt, by omega⟩
            exact h7.ext hxw)
          have Hn2 := Lib.hid (Hn.out.ext hxw)
          have Hz2 := Lib.hid (Hz1.out.ext hx1c)
          have Hr2 := Lib.hid (Rd.ext Hrecs.out hxc)
          have Hresp := Lib.hid hresp
          have r0 := hresp.z0
          have hbrb : b < rb := hbl
          have hb1 : b < w1.heap.size := by omega
          have hbr2 : b < rb2 := by have := Hx.out.size; omega
          have hww : w.heap.size ≤ wc.heap.size := hxw.size
          have hbW : b < w.heap.size := H.out.lt
          have hwrap : IntKind.i64.wrap (now + ttl) = now + ttl := by
            have hP := Hp.out
            have h1 := hP.n0
            have h2 := hP.n1
            have h3 : 0 ≤ ttl ∧ ttl ≤ 1073741824 := by
              cases ht : timedB op with
              | true => have := hP.t1 ht; omega
              | false => have := hP.t0 ht; omega
            exact IntWalk.i64_in _ (by omega)
          clear hdoR hxw hresp hxc hx1c
          by_cases h0 : R.e = 0
          · have hdoL : doL cl cap l client op ttl now ns = putAll op client (now + ttl) l (withR l ns) := by unfold doL; rw [if_pos ⟨Hpb.out, by rw [hR]; exact h0⟩]
            have HdoL := Lib.hid hdoL
            have e1 : (R.e == 0) = true := by simp [h0]
            have H0 := Lib.hid h0
            have hlw : (withR l ns).length = nn := by rw [withR_len]; exact Hnn.out
            clear hdoL hR h0
            go_wp2_with fail
            go_loopw [69] (fun o wr => ∃ i : Nat, i ≤ nn ∧ o = .int .i64 (i : Int) ∧ RModAt wr (fun k => b < k ∧ k ≠ rb) b cl cap (putAll op client (now + ttl) l ((withR l ns).take i)) ∧ Chg (· = b) wc wr) (fun o _ => nn - (intOf o).toNat)
            case atStart => exact ⟨0, by omega, rfl, Hm2.out, Chg.refl _ _⟩
            case round =>
              obtain ⟨i, hi2, rfl, hmd, hcg⟩ := hrel
              have Hmd := Lib.hid hmd
              have Hcg := Lib.hid hcg
              have hbwr := hmd.lt
              clear hmd hcg r0
              by_cases hlt2 : i < nn
              · have hdc2 : decide ((i : Int) < (nn : Int)) = true := by simpa using hlt2
                obtain ⟨n, hni⟩ : ∃ n, ns[i]? = some n := ⟨ns[i]'(by have := Hnn.out; omega), by simp⟩
                have hwi := withR_at (l := l) hni
                have hqr : ((withR l ns).map Prod.snd)[i]? = some (getK l n.k) := by rw [List.getElem?_map, hwi]; rfl
                obtain ⟨r, hr⟩ : ∃ r, getK l n.k = r := ⟨_, rfl⟩
                rw [hr] at hqr hwi
                obtain ⟨g2, o2, c2', hv2, p3, p4, b2, y0, y1, y2, y3⟩ := recsAt_get (Rd.chg Hr2.out Hcg.out (fun k hk e => by omega)) hqr
                have hgb2 : ¬ g2 = b := by
                  obtain ⟨g5, o5, c5, hv5, _, _, hS5, _⟩ := Rd.at_ Hr2.out (k := i) (by rw [List.length_map, hlw]; exact hlt2)
                  rw [hv5] at hv2
                  simp only [Value.slice.injEq, Option.some.injEq, Addr.mk.injEq] at hv2
                  omega
                rw [List.length_map, hlw] at hv2 p3
                obtain ⟨g, o, c', hv, p1, p2, hSg, b1, hcell⟩ := NmsAt.get (Rd.chg Hn2.out Hcg.out fun k hk e => HS.out (e ▸ hk)) (j := i) ((List.getElem?_eq_some_iff.1 hni).1)
                rw [Hnn.out] at hv p1
                simp only [Value.slice.injEq, true_and] at hv hv2
                obtain ⟨rfl, rfl⟩ := hv
                obtain ⟨rfl, rfl⟩ := hv2
                obtain ⟨x1, x2, x3⟩ := hcell _ _ hni
                have i0 : (0 : Int) ≤ (i : Int) := by omega
                have i1 : (i : Int) < (nn : Int) := by omega
                have Hwi := Lib.hid hwi
                obtain ⟨li, hli⟩ : ∃ li, putAll op client (now + ttl) l ((withR l ns).take i) = li := ⟨_, rfl⟩
                have hlil : li.length ≤ 100000 := by rw [← hli]; have := putAll_lenR op client (now + ttl) ((withR l ns).take i) l; rw [List.length_take] at this; omega
                have hmd := Hmd.out
                rw [hli] at hmd
                have Hli := Lib.hid hli
                have Hmd2 := Lib.hid hmd
                clear hcell hni hqr hwi hr hli hmd Hmd p3 p1
                go_upto_region 14 with fail
                have hA1 : Ext wr (wr.alloc (.cells #[.string n.a, .string n.u, .string n.k] 68)) := (Ext.refl wr).alloc _
                have n0 : (wr.alloc (.cells #[.string n.a, .string n.u, .string n.k] 68)).cell? ⟨wr.heap.size, 0, none⟩ = some (.string n.a) := by go_simp
                have n2 : (wr.alloc (.cells #[.string n.a, .string n.u, .string n.k] 68)).cell? ⟨wr.heap.size, 2, none⟩ = some (.string n.k) := by go_simp
                have hs1 : (wr.alloc (.cells #[.string n.a, .string n.u, .string n.k] 68)).heap.size = wr.heap.size + 1 := by simp
                obtain ⟨W1, hW1⟩ : ∃ W, wr.alloc (.cells #[.string n.a, .string n.u, .string n.k] 68) = W := ⟨_, rfl⟩
                rw [hW1] at hA1 n0 n2 hs1
                rw [hW1]
                obtain ⟨nb, hnb⟩ : ∃ b, wr.heap.size = b := ⟨_, rfl⟩
                rw [hnb] at n0 n2 hs1
                rw [hnb]
                have hm1 := Hmd2.out.ext hA1
                obtain ⟨lv, hc2, hka⟩ := hm1.c2
                obtain ⟨kA, kC, rfl⟩ := hka.shape
                replace y0 := (hA1.cell (p := ⟨g2, o2 + i * 4, none⟩) b2).trans y0
                replace y1 := (hA1.cell (p := ⟨g2, o2 + i * 4 + 1, none⟩) b2).trans y1
                replace y2 := (hA1.cell (p := ⟨g2, o2 + i * 4 + 2, none⟩) b2).trans y2
                replace y3 := (hA1.cell (p := ⟨g2, o2 + i * 4 + 3, none⟩) b2).trans y3
                have b3 := Nat.lt_of_lt_of_le b2 hA1.size
                have hbW1 : b < W1.heap.size := hm1.lt
                have hrW1 : rb < W1.heap.size := by have := Hz2.out.lt; have := Hcg.out.size; have := hA1.size; omega
                have hnb2 : ¬ nb = b := by omega
                have hnW1 : nb < W1.heap.size := by omega
                have HA1 := Lib.hid hA1
                have Hka := Lib.hid hka
                clear hW1 hA1 hm1 x1 x2 x3 hka b2 hnb hs1
                refine wp_region_held_drew (S := fun w' => w'.cell? ⟨nb, 0, none⟩ = some (.string n.a) ∧ w'.cell? ⟨nb, 2, none⟩ = some (.string n.k) ∧ w'.cell? ⟨g2, o2 + i * 4, none⟩ = some (.int .i64 r.st) ∧ w'.cell? ⟨g2, o2 + i * 4 + 1, none⟩ = some (.int .i64 r.ow) ∧ w'.cell? ⟨g2, o2 + i * 4 + 2, none⟩ = some (.string r.nm) ∧ w'.cell? ⟨g2, o2 + i * 4 + 3, none⟩ = some (.int .i64 r.dl)) (by kernel_rfl) ?_ (fun hHeld => ?_)
                · exact ⟨n0, n2, y0, y1, y2, y3⟩
                refine wpAnyH_take (i := 0) (oi := _) (v := ?_) rfl (by kernel_rfl) (by kernel_rfl) (by kernel_rfl) (fun _ _ _ h => h) (Or.inl ⟨by rfl, ?_⟩) (by assumption) ?_; rotate_left; (focus ((intro w hSw; (try dsimp only at hSw); go_simp); (first | done | (with_reducible rfl)))); (try simp only [Act.put]); (try simp only [List.setIfInBounds_toArray])
                refine wpAnyH_take (i := 1) (oi := _) (v := ?_) rfl (by kernel_rfl) (by kernel_rfl) (by kernel_rfl) (fun _ _ _ h => h) (Or.inl ⟨by rfl, ?_⟩) (by assumption) ?_; rotate_left; (focus ((intro w hSw; (try dsimp only at hSw); go_simp); (first | done | (with_reducible rfl)))); (try simp only [Act.put]); (try simp only [List.setIfInBounds_toArray])
                refine wpAnyH_take (i := 2) (oi := _) (v := ?_) rfl (by kernel_rfl) (by kernel_rfl) (by kernel_rfl) (fun _ _ _ h => h) (Or.inl ⟨by rfl, ?_⟩) (by assumption) ?_; rotate_left; (focus ((intro w hSw; (try dsimp only at hSw); go_simp); (first | done | (with_reducible rfl)))); (try simp only [Act.put]); (try simp only [List.setIfInBounds_toArray])
                refine wpAnyH_take (i := 3) (oi := _) (v := ?_) rfl (by kernel_rfl) (by kernel_rfl) (by kernel_rfl) (fun _ _ _ h => h) (Or.inl ⟨by rfl, ?_⟩) (by assumption) ?_; rotate_left; (focus ((intro w hSw; (try dsimp only at hSw); go_simp); (first | done | (with_reducible rfl)))); (try simp only [Act.put]); (try simp only [List.setIfInBounds_toArray])
                refine wpAnyH_take (i := 5) (oi := _) (v := ?_) rfl (by kernel_rfl) (by kernel_rfl) (by kernel_rfl) (fun _ _ _ h => h) (Or.inl ⟨by rfl, ?_⟩) (by assumption) ?_; rotate_left; (focus ((intro w hSw; (try dsimp only at hSw); go_simp); (first | done | (with_reducible rfl)))); (try simp only [Act.put]); (try simp only [List.setIfInBounds_toArray])
                refine wpAnyH_take (i := 6) (oi := _) (v := ?_) rfl (by kernel_rfl) (by kernel_rfl) (by kernel_rfl) (fun _ _ _ h => h) (Or.inl ⟨by rfl, ?_⟩) (by assumption) ?_; rotate_left; (focus ((intro w hSw; (try dsimp only at hSw); go_simp); (first | done | (with_reducible rfl)))); (try simp only [Act.put]); (try simp only [List.setIfInBounds_toArray])
                refine wpAnyH_take (i := 7) (oi := _) (v := ?_) rfl (by kernel_rfl) (by kernel_rfl) (by kernel_rfl) (fun _ _ _ h => h) (Or.inl ⟨by rfl, ?_⟩) (by assumption) ?_; rotate_left; (focus ((intro w hSw; (try dsimp only at hSw); go_simp); (first | done | (with_reducible rfl)))); (try simp only [Act.put]); (try simp only [List.setIfInBounds_toArray])
                refine wpAnyH_take (i := 8) (oi := _) (v := ?_) rfl (by kernel_rfl) (by kernel_rfl) (by kernel_rfl) (fun _ _ _ h => h) (Or.inl ⟨by rfl, ?_⟩) (by assumption) ?_; rotate_left; (focus ((intro w hSw; (try dsimp only at hSw); go_simp); (first | done | (with_reducible rfl)))); (try simp only [Act.put]); (try simp only [List.setIfInBounds_toArray])
                refine wpAnyH_take (i := 9) (oi := _) (v := ?_) rfl (by kernel_rfl) (by kernel_rfl) (by kernel_rfl) (fun _ _ _ h => h) (Or.inl ⟨by rfl, ?_⟩) (by assumption) ?_; rotate_left; (focus ((intro w hSw; (try dsimp only at hSw); go_simp); (first | done | (with_reducible rfl)))); (try simp only [Act.put]); (try simp only [List.setIfInBounds_toArray])
                refine wpAnyH_take (i := 10) (oi := _) (v := ?_) rfl (by kernel_rfl) (by kernel_rfl) (by kernel_rfl) (fun _ _ _ h => h) (Or.inl ⟨by rfl, ?_⟩) (by assumption) ?_; rotate_left; (focus ((intro w hSw; (try dsimp only at hSw); go_simp); (first | done | (with_reducible rfl)))); (try simp only [Act.put]); (try simp only [List.setIfInBounds_toArray])
                refine wpAnyH_take (i := 11) (oi := _) (v := ?_) rfl (by kernel_rfl) (by kernel_rfl) (by kernel_rfl) (fun _ _ _ h => h) (Or.inl ⟨by rfl, ?_⟩) (by assumption) ?_; rotate_left; (focus ((intro w hSw; (try dsimp only at hSw); go_simp); (first | done | (with_reducible rfl)))); (try simp only [Act.put]); (try simp only [List.setIfInBounds_toArray])
                refine wpAnyH_take (i := 12) (oi := _) (v := ?_) rfl (by kernel_rfl) (by kernel_rfl) (by kernel_rfl) (fun _ _ _ h => h) (Or.inl ⟨by rfl, ?_⟩) (by assumption) ?_; rotate_left; (focus ((intro w hSw; (try dsimp only at hSw); go_simp); (first | done | (with_reducible rfl)))); (try simp only [Act.put]); (try simp only [List.setIfInBounds_toArray])
                refine wpAnyH_take (i := 13) (oi := _) (v := ?_) rfl (by kernel_rfl) (by kernel_rfl) (by kernel_rfl) (fun _ _ _ h => h) (Or.inl ⟨by rfl, ?_⟩) (by assumption) ?_; rotate_left; (focus ((intro w hSw; (try dsimp only at hSw); go_simp); (first | done | (with_reducible rfl)))); (try simp only [Act.put]); (try simp only [List.setIfInBounds_toArray])
                refine wpAnyH_take (i := 14) (oi := _) (v := ?_) rfl (by kernel_rfl) (by kernel_rfl) (by kernel_rfl) (fun _ _ _ h => h) (Or.inl ⟨by rfl, ?_⟩) (by assumption) ?_; rotate_left; (focus ((intro w hSw; (try dsimp only at hSw); go_simp); (first | done | (with_reducible rfl)))); (try simp only [Act.put]); (try simp only [List.setIfInBounds_toArray])
                refine wpAnyH_take (i := 15) (oi := _) (v := ?_) rfl (by kernel_rfl) (by kernel_rfl) (by kernel_rfl) (fun _ _ _ h => h) (Or.inl ⟨by rfl, ?_⟩) (by assumption) ?_; rotate_left; (focus ((intro w hSw; (try dsimp only at hSw); go_simp); (first | done | (with_reducible rfl)))); (try simp only [Act.put]); (try simp only [List.setIfInBounds_toArray])
                refine wpAnyH_take (i := 16) (oi := _) (v := ?_) rfl (by kernel_rfl) (by kernel_rfl) (by kernel_rfl) (fun _ _ _ h => h) (Or.inl ⟨by rfl, ?_⟩) (by assumption) ?_; rotate_left; (focus ((intro w hSw; (try dsimp only at hSw); go_simp); (first | done | (with_reducible rfl)))); (try simp only [Act.put]); (try simp only [List.setIfInBounds_toArray])
                refine wpAnyH_take (i := 17) (oi := _) (v := ?_) rfl (by kernel_rfl) (by kernel_rfl) (by kernel_rfl) (fun _ _ _ h => h) (Or.inl ⟨by rfl, ?_⟩) (by assumption) ?_; rotate_left; (focus ((intro w hSw; (try dsimp only at hSw); go_simp); (first | done | (with_reducible rfl)))); (try simp only [Act.put]); (try simp only [List.setIfInBounds_toArray])
                refine wpAnyH_ready (rs := [4, 18]) (by kernel_rfl) (by simp) ?_
                refine AllReadyH.cons (o := _) rfl (fun K hK => ?_) (AllReadyH.cons (o := _) rfl (fun K hK => ?_) AllReadyH.nil)
                · go_simp
                  refine hK.out _ _ ⟨n0, n2, y0, y1, y2, y3⟩ (fun hHeld => ?_)
                  clear hK K
                  try simp only [Act.put, List.setIfInBounds_toArray, List.set_cons_zero, List.set_cons_succ]
                  refine wpAnyH_ready (rs := [18]) (by kernel_rfl) (by simp) ?_; refine AllReadyH.cons (o := _) rfl (fun K hK => ?_) AllReadyH.nil; go_simp
                  refine (rafter_any _ _ _ _ _ _ _ _ _).mono ?_
                  rintro e w5 ⟨rfl, hx5⟩
                  replace hx5 := (Ext.refl W1).drew.trans hx5
                  replace hc2 := (hx5.cell (p := ⟨b, 2, none⟩) hbW1).trans hc2
                  replace n0 := (hx5.cell (p := ⟨nb, 0, none⟩) hnW1).trans n0
                  replace n2 := (hx5.cell (p := ⟨nb, 2, none⟩) hnW1).trans n2
                  replace y0 := (hx5.cell (p := ⟨g2, o2 + i * 4, none⟩) b3).trans y0
                  replace y1 := (hx5.cell (p := ⟨g2, o2 + i * 4 + 1, none⟩) b3).trans y1
                  replace y2 := (hx5.cell (p := ⟨g2, o2 + i * 4 + 2, none⟩) b3).trans y2
                  replace y3 := (hx5.cell (p := ⟨g2, o2 + i * 4 + 3, none⟩) b3).trans y3
                  replace hbW1 := Nat.lt_of_lt_of_le hbW1 hx5.size
                  replace hrW1 := Nat.lt_of_lt_of_le hrW1 hx5.size
                  replace hnW1 := Nat.lt_of_lt_of_le hnW1 hx5.size
                  replace b3 := Nat.lt_of_lt_of_le b3 hx5.size
                  have Hx5 := Lib.hid hx5
                  clear hx5
                  dsimp only
                  refine hK.out _ _ ⟨n0, n2, y0, y1, y2, y3⟩ (fun hHeld => ?_)
                  clear hK K
                  try simp only [Act.put, List.setIfInBounds_toArray, List.set_cons_zero, List.set_cons_succ]
                  refine wpAnyH_ready (rs := [19]) (by kernel_rfl) (by simp) ?_; refine AllReadyH.cons (o := _) rfl (fun K hK => ?_) AllReadyH.nil; go_simp
                  refine (rputK_any _ li n.k (afterR op client (now + ttl) n r) _ (Rd.ext Hka.out Hx5.out) hlil).mono ?_
                  rintro e w6 ⟨v6, rfl, ho6, hx6⟩
                  obtain ⟨A6, C6, hv6⟩ := own_shape ho6
                  subst hv6
                  have hb5 := hbW1
                  have hr5 := hrW1
                  replace hc2 := (hx6.cell (p := ⟨b, 2, none⟩) hbW1).trans hc2
                  replace n0 := (hx6.cell (p := ⟨nb, 0, none⟩) hnW1).trans n0
                  replace n2 := (hx6.cell (p := ⟨nb, 2, none⟩) hnW1).trans n2
                  replace y0 := (hx6.cell (p := ⟨g2, o2 + i * 4, none⟩) b3).trans y0
                  replace y1 := (hx6.cell (p := ⟨g2, o2 + i * 4 + 1, none⟩) b3).trans y1
                  replace y2 := (hx6.cell (p := ⟨g2, o2 + i * 4 + 2, none⟩) b3).trans y2
                  replace y3 := (hx6.cell (p := ⟨g2, o2 + i * 4 + 3, none⟩) b3).trans y3
                  replace hbW1 := Nat.lt_of_lt_of_le hbW1 hx6.size
                  replace hrW1 := Nat.lt_of_lt_of_le hrW1 hx6.size
                  replace hnW1 := Nat.lt_of_lt_of_le hnW1 hx6.size
                  replace b3 := Nat.lt_of_lt_of_le b3 hx6.size
                  have Hx6 := Lib.hid (HA1.out.trans (Hx5.out.trans hx6))
                  have Ho6 := Lib.hid ho6
                  clear hx6 ho6 Hka
                  dsimp only
                  refine hK.out _ _ ⟨n0, n2, y0, y1, y2, y3⟩ (fun hHeld => ?_)
                  clear hK K
                  try simp only [Act.put, List.setIfInBounds_toArray, List.set_cons_zero, List.set_cons_succ]
                  refine wpAnyH_take (i := 20) (oi := _) (v := ?_) rfl (by kernel_rfl) (by kernel_rfl) (by kernel_rfl) (fun _ _ _ h => h) (Or.inl ⟨by rfl, ?_⟩) (by assumption) ?_; rotate_left; (focus ((intro w hSw; (try dsimp only at hSw); go_simp); (first | done | (with_reducible rfl)))); (try simp only [Act.put]); (try simp only [List.setIfInBounds_toArray])
                  refine wpAnyH_take (i := 21) (oi := _) (v := ?_) rfl (by kernel_rfl) (by kernel_rfl) (by kernel_rfl) (fun _ _ _ h => h) (Or.inl ⟨by rfl, ?_⟩) (by assumption) ?_; rotate_left; (focus ((intro w hSw; (try dsimp only at hSw); go_simp); (first | done | (with_reducible rfl)))); (try simp only [Act.put]); (try simp only [List.setIfInBounds_toArray])
                  have f2 : w6.frozen? ⟨b, 2, none⟩ = false := (Hx6.out.frozen (p := ⟨b, 2, none⟩) hbwr).trans (Hmd2.out.fz 2)
                  refine wpAnyH_ready (rs := [22]) (by kernel_rfl) (by simp) ?_; refine AllReadyH.cons (o := _) rfl (fun K hK => ?_) AllReadyH.nil; go_simp
                  have hcs : Chg (· = b) w6 (w6.setCell ⟨b, 2, none⟩ (.slice A6 (putK li n.k (afterR op client (now + ttl) n r)).length C6)) := (Chg.refl (· = b) w6).setCell (p := ⟨b, 2, none⟩) (.inl rfl) (.slice A6 (putK li n.k (afterR op client (now + ttl) n r)).length C6)
                  replace n0 := (hcs.cell (p := ⟨nb, 0, none⟩) hnW1 hnb2).trans n0
                  replace n2 := (hcs.cell (p := ⟨nb, 2, none⟩) hnW1 hnb2).trans n2
                  replace y0 := (hcs.cell (p := ⟨g2, o2 + i * 4, none⟩) b3 hgb2).trans y0
                  replace y1 := (hcs.cell (p := ⟨g2, o2 + i * 4 + 1, none⟩) b3 hgb2).trans y1
                  replace y2 := (hcs.cell (p := ⟨g2, o2 + i * 4 + 2, none⟩) b3 hgb2).trans y2
                  replace y3 := (hcs.cell (p := ⟨g2, o2 + i * 4 + 3, none⟩) b3 hgb2).trans y3
                  have Hmd6 := Lib.hid (RModAt.set Hmd2.out Hx6.out Ho6.out fun k hk => ⟨by omega, by omega⟩)
                  have Hcg6 := Lib.hid (Hcg.out.trans ((Hx6.out.chg (· = b)).trans hcs))
                  refine hK.out _ _ ⟨n0, n2, y0, y1, y2, y3⟩ (fun hHeld => ?_)
                  clear hK K hcs n0 n2 y0 y1 y2 y3 hc2
                  try simp only [Act.put, List.setIfInBounds_toArray, List.set_cons_zero, List.set_cons_succ]
                  refine wpAnyH_done (by kernel_rfl) ?_ _
                  go_simp
                  clear hHeld
                  go_wp2_with fail
                  go_roundw
                  case rel => exact ⟨i + 1, by omega, by go_num, by rw [take_at Hwi.out, putAll_snoc, Hli.out]; exact Hmd6.out, Hcg6.out⟩
                  case measure => simp [intOf]; omega
                · go_simp
                  refine (rafter_any _ _ _ _ _ _ _ _ _).mono ?_
                  rintro e w5 ⟨rfl, hx5⟩
                  replace hx5 := (Ext.refl W1).drew.trans hx5
                  replace hc2 := (hx5.cell (p := ⟨b, 2, none⟩) hbW1).trans hc2
                  replace n0 := (hx5.cell (p := ⟨nb, 0, none⟩) hnW1).trans n0
                  replace n2 := (hx5.cell (p := ⟨nb, 2, none⟩) hnW1).trans n2
                  replace y0 := (hx5.cell (p := ⟨g2, o2 + i * 4, none⟩) b3).trans y0
                  replace y1 := (hx5.cell (p := ⟨g2, o2 + i * 4 + 1, none⟩) b3).trans y1
                  replace y2 := (hx5.cell (p := ⟨g2, o2 + i * 4 + 2, none⟩) b3).trans y2
                  replace y3 := (hx5.cell (p := ⟨g2, o2 + i * 4 + 3, none⟩) b3).trans y3
                  replace hbW1 := Nat.lt_of_lt_of_le hbW1 hx5.size
                  replace hrW1 := Nat.lt_of_lt_of_le hrW1 hx5.size
                  replace hnW1 := Nat.lt_of_lt_of_le hnW1 hx5.size
                  replace b3 := Nat.lt_of_lt_of_le b3 hx5.size
                  have Hx5 := Lib.hid hx5
                  clear hx5
                  dsimp only
                  refine hK.out _ _ ⟨n0, n2, y0, y1, y2, y3⟩ (fun hHeld => ?_)
                  clear hK K
                  try simp only [Act.put, List.setIfInBounds_toArray, List.set_cons_zero, List.set_cons_succ]
                  refine wpAnyH_ready (rs := [4]) (by kernel_rfl) (by simp) ?_; refine AllReadyH.cons (o := _) rfl (fun K hK => ?_) AllReadyH.nil; go_simp
                  refine hK.out _ _ ⟨n0, n2, y0, y1, y2, y3⟩ (fun hHeld => ?_)
                  clear hK K
                  try simp only [Act.put, List.setIfInBounds_toArray, List.set_cons_zero, List.set_cons_succ]
                  refine wpAnyH_ready (rs := [19]) (by kernel_rfl) (by simp) ?_; refine AllReadyH.cons (o := _) rfl (fun K hK => ?_) AllReadyH.nil; go_simp
                  refine (rputK_any _ li n.k (afterR op client (now + ttl) n r) _ (Rd.ext Hka.out Hx5.out) hlil).mono ?_
                  rintro e w6 ⟨v6, rfl, ho6, hx6⟩
                  obtain ⟨A6, C6, hv6⟩ := own_shape ho6
                  subst hv6
                  have hb5 := hbW1
                  have hr5 := hrW1
                  replace hc2 := (hx6.cell (p := ⟨b, 2, none⟩) hbW1).trans hc2
                  replace n0 := (hx6.cell (p := ⟨nb, 0, none⟩) hnW1).trans n0
                  replace n2 := (hx6.cell (p := ⟨nb, 2, none⟩) hnW1).trans n2
                  replace y0 := (hx6.cell (p := ⟨g2, o2 + i * 4, none⟩) b3).trans y0
                  replace y1 := (hx6.cell (p := ⟨g2, o2 + i * 4 + 1, none⟩) b3).trans y1
                  replace y2 := (hx6.cell (p := ⟨g2, o2 + i * 4 + 2, none⟩) b3).trans y2
                  replace y3 := (hx6.cell (p := ⟨g2, o2 + i * 4 + 3, none⟩) b3).trans y3
                  replace hbW1 := Nat.lt_of_lt_of_le hbW1 hx6.size
                  replace hrW1 := Nat.lt_of_lt_of_le hrW1 hx6.size
                  replace hnW1 := Nat.lt_of_lt_of_le hnW1 hx6.size
                  replace b3 := Nat.lt_of_lt_of_le b3 hx6.size
                  have Hx6 := Lib.hid (HA1.out.trans (Hx5.out.trans hx6))
                  have Ho6 := Lib.hid ho6
                  clear hx6 ho6 Hka
                  dsimp only
                  refine hK.out _ _ ⟨n0, n2, y0, y1, y2, y3⟩ (fun hHeld => ?_)
                  clear hK K
                  try simp only [Act.put, List.setIfInBounds_toArray, List.set_cons_zero, List.set_cons_succ]
                  refine wpAnyH_take (i := 20) (oi := _) (v := ?_) rfl (by kernel_rfl) (by kernel_rfl) (by kernel_rfl) (fun _ _ _ h => h) (Or.inl ⟨by rfl, ?_⟩) (by assumption) ?_; rotate_left; (focus ((intro w hSw; (try dsimp only at hSw); go_simp); (first | done | (with_reducible rfl)))); (try simp only [Act.put]); (try simp only [List.setIfInBounds_toArray])
                  refine wpAnyH_take (i := 21) (oi := _) (v := ?_) rfl (by kernel_rfl) (by kernel_rfl) (by kernel_rfl) (fun _ _ _ h => h) (Or.inl ⟨by rfl, ?_⟩) (by assumption) ?_; rotate_left; (focus ((intro w hSw; (try dsimp only at hSw); go_simp); (first | done | (with_reducible rfl)))); (try simp only [Act.put]); (try simp only [List.setIfInBounds_toArray])
                  have f2 : w6.frozen? ⟨b, 2, none⟩ = false := (Hx6.out.frozen (p := ⟨b, 2, none⟩) hbwr).trans (Hmd2.out.fz 2)
                  refine wpAnyH_ready (rs := [22]) (by kernel_rfl) (by simp) ?_; refine AllReadyH.cons (o := _) rfl (fun K hK => ?_) AllReadyH.nil; go_simp
                  have hcs : Chg (· = b) w6 (w6.setCell ⟨b, 2, none⟩ (.slice A6 (putK li n.k (afterR op client (now + ttl) n r)).length C6)) := (Chg.refl (· = b) w6).setCell (p := ⟨b, 2, none⟩) (.inl rfl) (.slice A6 (putK li n.k (afterR op client (now + ttl) n r)).length C6)
                  replace n0 := (hcs.cell (p := ⟨nb, 0, none⟩) hnW1 hnb2).trans n0
                  replace n2 := (hcs.cell (p := ⟨nb, 2, none⟩) hnW1 hnb2).trans n2
                  replace y0 := (hcs.cell (p := ⟨g2, o2 + i * 4, none⟩) b3 hgb2).trans y0
                  replace y1 := (hcs.cell (p := ⟨g2, o2 + i * 4 + 1, none⟩) b3 hgb2).trans y1
                  replace y2 := (hcs.cell (p := ⟨g2, o2 + i * 4 + 2, none⟩) b3 hgb2).trans y2
                  replace y3 := (hcs.cell (p := ⟨g2, o2 + i * 4 + 3, none⟩) b3 hgb2).trans y3
                  have Hmd6 := Lib.hid (RModAt.set Hmd2.out Hx6.out Ho6.out fun k hk => ⟨by omega, by omega⟩)
                  have Hcg6 := Lib.hid (Hcg.out.trans ((Hx6.out.chg (· = b)).trans hcs))
                  refine hK.out _ _ ⟨n0, n2, y0, y1, y2, y3⟩ (fun hHeld => ?_)
                  clear hK K hcs n0 n2 y0 y1 y2 y3 hc2
                  try simp only [Act.put, List.setIfInBounds_toArray, List.set_cons_zero, List.set_cons_succ]
                  refine wpAnyH_done (by kernel_rfl) ?_ _
                  go_simp
                  clear hHeld
                  go_wp2_with fail
                  go_roundw
                  case rel => exact ⟨i + 1, by omega, by go_num, by rw [take_at Hwi.out, putAll_snoc, Hli.out]; exact Hmd6.out, Hcg6.out⟩
                  case measure => simp [intOf]; omega
              · have hdc2 : decide ((i : Int) < (nn : Int)) = false := by simp; omega
                have hall := Hmd.out
                rw [List.take_of_length_le (by omega)] at hall
                have HmE := Lib.hid hall
                have HrE := Lib.hid (Hresp.out.chg Hcg.out (fun e => by omega))
                have HzE := Lib.hid (Hz2.out.chg Hcg.out (fun e => by omega))
                have HcE := Lib.hid ((Hxc.out.chg (· = b)).trans Hcg.out)
                clear hall Hmd Hcg Hz2 Hresp Hm2 hwrap
                obtain ⟨r0, r1, r2, r3, r4, r5, r6, r7, rl⟩ := HrE.out
                obtain ⟨z0, z1, z2, z3, z4, z5, z6, z7, zf, zl⟩ := HzE.out
                clear HrE HzE
                go_wp2_with fail
                refine bodyPost_ret (v := respV R) (by simp [results, Try.results14, go_sem, respV, *]) rfl ⟨by rw [HdoR.out], ?_, ?_⟩
                · rw [HdoL.out]
                  refine RModAt.low (S := fun k => b < k ∧ k ≠ rb) (RModAt.chg (T := (· = rb)) HmE.out ?_ (fun e => by omega) (fun k hk e => hk.2 e)) (fun k hk => hk.1) (by omega)
                  (repeat refine Chg.setCell (S := (· = rb)) ?_ (.inl rfl) _)
                  exact Chg.refl _ _
                · refine Chg.then_new HcE.out (T := (· = rb)) ?_ (fun k hk => by have := Hrb.out; omega)
                  (repeat refine Chg.setCell (S := (· = rb)) ?_ (.inl rfl) _)
                  exact Chg.refl _ _
          · have e1 : (R.e == 0) = false := by simpa using h0
            have HdoL := Lib.hid (show doL cl cap l client op ttl now ns = l by unfold doL; rw [hR, if_neg fun q => h0 q.2])
            have HmE := Lib.hid Hm2.out
            have HrE := Lib.hid Hresp.out
            have HzE := Lib.hid Hz2.out
            have HcE := Lib.hid (Hxc.out.chg (· = b))
            clear hR h0 Hz2 Hresp Hm2 hwrap
            obtain ⟨r0, r1, r2, r3, r4, r5, r6, r7, rl⟩ := HrE.out
            obtain ⟨z0, z1, z2, z3, z4, z5, z6, z7, zf, zl⟩ := HzE.out
            clear HrE HzE
            go_wp2_with fail
            refine bodyPost_ret (v := respV R) (by simp [results, Try.results14, go_sem, respV, *]) rfl ⟨by rw [HdoR.out], ?_, ?_⟩
            · rw [HdoL.out]
              refine RModAt.low (S := fun k => b < k ∧ k ≠ rb) (RModAt.chg (T := (· = rb)) HmE.out ?_ (fun e => by omega) (fun k hk e => hk.2 e)) (fun k hk => hk.1) (by omega)
              (repeat refine Chg.setCell (S := (· = rb)) ?_ (.inl rfl) _)
              exact Chg.refl _ _
            · refine Chg.then_new HcE.out (T := (· = rb)) ?_ (fun k hk => by have := Hrb.out; omega)
              (repeat refine Chg.setCell (S := (· = rb)) ?_ (.inl rfl) _)
              exact Chg.refl _ _
end Go.Proofs.Ytfbhbnolnjcaiaa
