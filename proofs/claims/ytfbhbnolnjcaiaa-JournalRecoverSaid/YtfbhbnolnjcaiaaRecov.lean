/-
  journal.Recover (33.5) returns what the plain law says.
  Conditions: the journal is within a process's reach.
-/
import Derived.Test.YtfbhbnolnjcaiaaRecL
import Derived.Test.YtfbhbnolnjcaiaaMSt
import Derived.Test.YtfbhbnolnjcaiaaRead
namespace Go.Proofs.Ytfbhbnolnjcaiaa
open Go.RowKit Go.Sort
set_option maxHeartbeats 8000000
set_option maxRecDepth 100000

theorem field_err (w : World) (a b : Int) (c : ByteArray) (d f : Int) (g : ByteArray) (h t : Int) : (Instr.field 28 (.agg #[.int .i64 a, .int .i64 b, .string c, .int .i64 d, .int .i64 f, .string g, .int .i64 h, .int .i64 t]) 0).run Try.prog w = .ok (.int .i64 a) w := by kernel_rfl
theorem recov_any (cl cp : Int) (s : ByteArray) (hs : s.size ≤ 140737488351232) (w : World) : Calls Try.prog 23 #[.agg #[.int .i64 cl, .int .i64 cp], .string s] w (RecovPost cl cp s w) := by
  have hx0 : Ext w (w.alloc (.cells #[.int .i64 cl, .int .i64 cp] 37)) := (Ext.refl w).alloc _
  have Hx0 := Lib.hid hx0
  clear hx0
  rcases confE_or cl cp with hc | hc
  · go_enter Try.func23, Try.ntmps23
    go_wp2_with fail
    refine (mnew_bad hc _).mono ?_
    rintro x w1 ⟨rfl, hx1⟩
    have Hc := Lib.hid hc
    have Hx1 := Lib.hid (Hx0.out.trans hx1)
    clear hc hx1
    go_wp2_with fail
    ((try simp only [Exit.inBlock, Exit.then]); refine bodyPost_ret (results_tmp4 rfl _ _ _) rfl ?_)
    exact ⟨Hx1.out, .inl ⟨Hc.out, rfl⟩⟩
  · have hcc : 1 ≤ cl ∧ cl ≤ 64 ∧ 1 ≤ cp ∧ cp ≤ 64 := by
      unfold confE at hc
      split at hc
      · simp at hc
      · omega
    obtain ⟨hc1, hc2, hc3, hc4⟩ := hcc
    go_enter Try.func23, Try.ntmps23
    go_wp2_with fail
    refine (mnew_good hc _).mono ?_
    rintro x w2 ⟨b, m, rfl, hm, hb, hmm, hx2⟩
    have Hc := Lib.hid hc
    have Hx2 := Lib.hid (Hx0.out.trans hx2)
    have hmw : w.heap.size ≤ m := by have := Hx0.out.size; omega
    have Hm := Lib.hid hm
    clear hx2 hm hb hmm hc
    go_wp2_with fail
    refine (read_any s hs _).mono ?_
    rintro x w3 ⟨hx3, v, ps, rfl, hps, hents⟩
    obtain ⟨A, C, rfl⟩ := hents.shape
    have hpl : ps.length ≤ 4096 := by
      have h1 := (readF_le 4096 s.data.toList).2
      have h2 : (ps.map Prod.fst).length = (readJ s.data.toList).1.length := by rw [hps]
      rw [List.length_map] at h2
      unfold readJ at h2
      omega
    have hkeys : ∀ p ∈ ps, ∀ n ∈ p.1.names, n.k.size ≤ maxLen := fun p hp => read_keys (s := s.data.toList) (by rw [← hps]; exact List.mem_map_of_mem hp)
    have Hkeys := Lib.hid hkeys
    have hmst : MSt w w3 w2.heap.size b m cl cp (.slice A ps.length C) ps [] 0 := ⟨Hm.out.ext hx3, by simp, by simp [NZ], hents, Hx2.out.trans hx3, Hm.out.map.lt, Hm.out.lt, hmw, hx3.size⟩
    obtain ⟨B, hB⟩ : ∃ B, w2.heap.size = B := ⟨_, rfl⟩
    rw [hB] at hmst
    have Hmst := Lib.hid hmst
    have Hps := Lib.hid hps
    clear hB hmst hx3 Hm hps hents hkeys
    go_wp2_with fail
    go_loopw [34, 12] (fun o t wr => ∃ (k : Nat) (l : List Kp) (tk : Int), k ≤ ps.length ∧ o = .int .i64 (k : Int) ∧ t = .int .i64 tk ∧ MSt w wr B b m cl cp (.slice A ps.length C) ps l k ∧ (Bounded cl cp l ∧ KeyS l) ∧ recGo cl cp 0 [] (ps.map Prod.fst) = recGo cl cp tk l ((ps.map Prod.fst).drop k)) (fun o _ _ => ps.length - (intOf o).toNat)
    case atStart => exact ⟨0, [], 0, by omega, rfl, rfl, Hmst.out, ⟨Bounded.start (by omega), fun p hp => by simp at hp⟩, rfl⟩
    case round =>
      clear Hmst
      obtain ⟨k, l, tk, hk, rfl, rfl, hst, hbd, hrec⟩ := hrel
      have Hbd := Lib.hid hbd
      have Hst := Lib.hid hst
      have Hrec := Lib.hid hrec
      clear hst hbd hrec
      by_cases hlt : k < ps.length
      · have hd : decide ((k : Int) < (ps.length : Int)) = true := by simpa using hlt
        obtain ⟨g, o, c', hv, p1, p2, _, b1, hcell⟩ := Hst.out.ents.get (j := k) hlt
        simp only [Value.slice.injEq, true_and] at hv
        obtain ⟨rfl, rfl⟩ := hv
        obtain ⟨⟨e, u⟩, hae⟩ : ∃ a, ps[k]? = some a := ⟨ps[k], by simp [hlt]⟩
        obtain ⟨x1, x2, x3, x4, x5, xn⟩ := hcell _ hae
        simp only at x1 x2 x3 x4 x5 xn
        obtain ⟨A2, c2, rfl⟩ := xn.shape
        have hek : (ps.map Prod.fst)[k]? = some e := by rw [List.getElem?_map, hae]; rfl
        have hrec := Hrec.out
        rw [drop_at hek] at hrec
        replace Hrec := Lib.hid hrec
        have Hok := Lib.hid (Hkeys.out _ (List.mem_of_getElem? hae))
        have i0 : (0 : Int) ≤ (k : Int) := by omega
        have i1 : (k : Int) < (ps.length : Int) := by omega
        obtain ⟨nn, hnn⟩ : ∃ n, e.names.length = n := ⟨_, rfl⟩
        rw [hnn] at x5
        have hxn : NmsAt wr (fun i => B ≤ i) (.slice A2 nn c2) e.names := by rw [← hnn]; exact xn
        have Hxn := Lib.hid hxn
        have hfew := Hst.out.few
        clear hcell hae xn hnn hxn hek hrec
        go_upto_region 9 with fail
        have kc0 : (wr.alloc (.cells #[.int .i64 e.cl, .int .i64 e.op, .int .i64 e.ttl, .int .i64 e.tick, .slice A2 nn c2] 103)).cell? ⟨wr.heap.size, 0, none⟩ = some (.int .i64 e.cl) := by go_simp
        have kc1 : (wr.alloc (.cells #[.int .i64 e.cl, .int .i64 e.op, .int .i64 e.ttl, .int .i64 e.tick, .slice A2 nn c2] 103)).cell? ⟨wr.heap.size, 1, none⟩ = some (.int .i64 e.op) := by go_simp
        have kc2 : (wr.alloc (.cells #[.int .i64 e.cl, .int .i64 e.op, .int .i64 e.ttl, .int .i64 e.tick, .slice A2 nn c2] 103)).cell? ⟨wr.heap.size, 2, none⟩ = some (.int .i64 e.ttl) := by go_simp
        have kc3 : (wr.alloc (.cells #[.int .i64 e.cl, .int .i64 e.op, .int .i64 e.ttl, .int .i64 e.tick, .slice A2 nn c2] 103)).cell? ⟨wr.heap.size, 3, none⟩ = some (.int .i64 e.tick) := by go_simp
        have kc4 : (wr.alloc (.cells #[.int .i64 e.cl, .int .i64 e.op, .int .i64 e.ttl, .int .i64 e.tick, .slice A2 nn c2] 103)).cell? ⟨wr.heap.size, 4, none⟩ = some (.slice A2 nn c2) := by go_simp
        have hxW : Ext wr (wr.alloc (.cells #[.int .i64 e.cl, .int .i64 e.op, .int .i64 e.ttl, .int .i64 e.tick, .slice A2 nn c2] 103)) := (Ext.refl wr).alloc _
        obtain ⟨cb, hcb⟩ : ∃ c, wr.heap.size = c := ⟨_, rfl⟩
        have hcl : wr.heap.size < (wr.alloc (.cells #[.int .i64 e.cl, .int .i64 e.op, .int .i64 e.ttl, .int .i64 e.tick, .slice A2 nn c2] 103)).heap.size := by simp
        obtain ⟨W1, hW1⟩ : ∃ W, wr.alloc (.cells #[.int .i64 e.cl, .int .i64 e.op, .int .i64 e.ttl, .int .i64 e.tick, .slice A2 nn c2] 103) = W := ⟨_, rfl⟩
        rw [hW1] at kc0 kc1 kc2 kc3 kc4 hxW hcl
        rw [hW1]
        rw [hcb] at kc0 kc1 kc2 kc3 kc4 hcl
        rw [hcb]
        have Hst1 := Lib.hid (Hst.out.ext' hxW)
        have Hxn1 := Lib.hid (Rd.ext Hxn.out hxW)
        have hcw : B ≤ cb := by rw [← hcb]; exact Hst.out.big
        clear hW1 hcb hxW x1 x2 x3 x4 x5 Hst Hxn b1
        by_cases ht : e.tick < tk
        · have hdt : decide (e.tick < tk) = true := by simpa using ht
          have Hend := Lib.hid (Hrec.out.trans (recGo_stop (.inl ht)))
          clear ht
          go_wp2_with fail
          ((try simp only [Exit.inBlock, Exit.then]); refine bodyPost_ret (results_tmp4 rfl _ _ _) rfl ?_)
          exact ⟨Hst1.out.ext, .inr (.inl ⟨Hc.out, by rw [← Hps.out]; exact Hend.out, rfl⟩)⟩
        · have hdt : decide (e.tick < tk) = false := by simpa using ht
          have Ht := Lib.hid ht
          clear ht
          go_wp2_with fail
          refine (mdo_any b m cl cp e.cl e.op e.ttl e.tick l (.slice A2 nn c2) e.names _ Hst1.out.mod (by omega) Hok.out (S := fun i => B ≤ i) Hxn1.out (by have := Hst1.out.hm; omega)).mono ?_
          rintro x wd ⟨rfl, hmd, hcd⟩
          obtain ⟨R, hR⟩ : ∃ R, doR cl cp l e.cl e.op e.ttl e.tick e.names = R := ⟨_, rfl⟩
          have hbd2 := And.intro (Hbd.out.1.turn (client := e.cl) (op := e.op) (ttl := e.ttl) (now := e.tick) (ns := e.names) hc2) (keyS_do (cl := cl) (cap := cp) (client := e.cl) (op := e.op) (ttl := e.ttl) (now := e.tick) Hbd.out.2 Hok.out)
          have hst3 := Hst1.out.turn hmd hcd
          replace kc3 := (hcd.cell (p := ⟨cb, 3, none⟩) hcl (by have := Hst1.out.hm; simp only; omega)).trans kc3
          have Hst3 := Lib.hid hst3
          have Hbd2 := Lib.hid hbd2
          clear hmd hcd hst3 hbd2 Hst1 Hxn1 kc0 kc1 kc2 kc4 hcl Hbd
          rw [hR]
          unfold respV
          have hfe := field_err wd R.e R.at_ R.nm R.rc.st R.rc.ow R.rc.nm R.rc.dl R.tick
          by_cases h0 : R.e = 0
          · have e1 : (R.e == 0) = true := by simp [h0]
            have Hend := Lib.hid (Hrec.out.trans (recGo_go (by have := Ht.out; omega) (by rw [hR]; exact h0)))
            clear hR h0
            go_wp2_with fail
            go_roundw
            case rel => exact ⟨k + 1, _, e.tick, by omega, by go_num, rfl, Hst3.out, Hbd2.out, Hend.out⟩
            case measure => simp [intOf]; omega
          · have e1 : (R.e == 0) = false := by simpa using h0
            have Hend := Lib.hid (Hrec.out.trans (recGo_stop (.inr (by rw [hR]; exact h0))))
            clear hR h0
            go_wp2_with fail
            ((try simp only [Exit.inBlock, Exit.then]); refine bodyPost_ret (results_tmp4 rfl _ _ _) rfl ?_)
            exact ⟨Hst3.out.ext, .inr (.inl ⟨Hc.out, by rw [← Hps.out]; exact Hend.out, rfl⟩)⟩
      · have hd : decide ((k : Int) < (ps.length : Int)) = false := by simp; omega
        have hend : recGo cl cp 0 [] (readJ s.data.toList).1 = some (l, tk) := by
          rw [← Hps.out, Hrec.out, List.drop_of_length_le (by rw [List.length_map]; omega), recGo]
        have Hend := Lib.hid hend
        have hcap := Hbd.out.1.cap
        clear hend Hrec
        go_wp2_with fail
        refine (mkeys_any b m cl cp l _ Hst.out.mod (by omega)).mono ?_
        rintro x w7 ⟨v7, rfl, ho7, hx7⟩
        have Hst7 := Lib.hid (Hst.out.ext' hx7)
        have Hr7 := Lib.hid (show Rd w7 (fun k => w.heap.size ≤ k) 1 v7 l.length ((keysL l).map encStr) by
          have h := Rd.of_own ho7 (S := fun k => w.heap.size ≤ k) fun k hk => Nat.le_trans Hst.out.ext.size (ho7.lt k hk).1
          rw [keysL_len] at h
          exact h)
        obtain ⟨n7, hn7⟩ : ∃ n, l.length = n := ⟨_, rfl⟩
        rw [hn7] at Hr7 hcap
        obtain ⟨A7, C7, rfl⟩ := own_shape ho7
        rw [keysL_len, hn7] at Hr7
        rw [keysL_len, hn7]
        have Hn7 := Lib.hid hn7
        clear hx7 Hst ho7 hn7
        go_wp2_with fail
        go_loopw [65, 16] (fun o r wr => ∃ i : Nat, i ≤ n7 ∧ o = .int .i64 (i : Int) ∧ wr.ownsRow w7.heap.size 26 4 r i (flatR ((l.take i).map Prod.snd)) ∧ Ext w7 wr) (fun o _ _ => n7 - (intOf o).toNat)
        case atStart => exact ⟨0, by omega, rfl, World.ownsRow_nil _ _ _ _, Ext.refl _⟩
        case round =>
          obtain ⟨i, hi, rfl, hown, hx⟩ := hrel
          obtain ⟨la, lc, rfl⟩ := own_shape hown
          have Hown := Lib.hid hown
          have Hx := Lib.hid hx
          clear hown hx
          by_cases hlt2 : i < n7
          · have hdc : decide ((i : Int) < (n7 : Int)) = true := by simpa using hlt2
            obtain ⟨p, hp⟩ : ∃ p, l[i]? = some p := ⟨l[i]'(by have := Hn7.out; omega), by simp⟩
            obtain ⟨g3, o3, c3, hv, s1, s2, _, s4, hcell⟩ := Rd.at_ (Rd.ext Hr7.out Hx.out) hlt2
            simp only [Value.slice.injEq, true_and] at hv
            obtain ⟨rfl, rfl⟩ := hv
            have y0 := hcell i _ (show ((keysL l).map encStr)[i]? = some (.string p.1) by simp [keysL, hp, enc_key, kb])
            have u1 := (Hbd.out.1.at hp).1
            have hk8 := Hbd.out.2 p (List.mem_of_getElem? hp)
            have j0 : (0 : Int) ≤ (i : Int) := by omega
            have j1 : (i : Int) < (n7 : Int) := by omega
            have Hp := Lib.hid hp
            clear hcell hp
            go_wp2_with fail
            refine (mget_any b m cl cp l p.1 _ (Hst7.out.mod.ext Hx.out) hk8).mono ?_
            rintro x w5 ⟨rfl, hx5⟩
            rw [u1]
            unfold rcV
            have Hx5 := Lib.hid (Hx.out.trans hx5)
            have Hown5 := Lib.hid (own_ext Hown.out hx5)
            obtain ⟨j0', hj, hj0, hj1, hj2⟩ := info_parts info_rec
            have hrl := rd_litM w5 #[.int .i64 p.2.st, .int .i64 p.2.ow, .string p.2.nm, .int .i64 p.2.dl] 26 4 (by rfl)
            have hbz : w7.heap.size ≤ (w5.alloc (.cells #[.int .i64 p.2.st, .int .i64 p.2.ow, .string p.2.nm, .int .i64 p.2.dl] 26)).heap.size := by have := Hx5.out.size; simp; omega
            clear hx5 y0 u1
            go_wp2_with (at_builtin; refine wpList_append_rd _ rfl _ _ 62 rfl w7.heap.size 26 j0' _ 4 40 und_recs hj hj0 hj1 hj2 rfl (by decide) _ i _ rfl (Hown5.out.alloc _) (fun _ => True) _ 1 _ rfl hrl (by simp [Value.oneCell']) (by unfold maxLen; omega) (by omega) hbz ?_; intro v' w6 ha; obtain ⟨a3, c3', hv3⟩ := own_shape ha.own; subst hv3)
            have hend : w6.ownsRow w7.heap.size 26 4 (.slice a3 (i + 1) c3') (i + 1) (flatR ((l.take (i + 1)).map Prod.snd)) := by
              rw [take_at Hp.out, List.map_append, List.map_cons, List.map_nil, flatR_snoc]
              exact ha.own
            have hx6 : Ext w7 w6 := (Hx5.out.alloc _).grown ha.grown fun k hk => (Hown5.out.lt k hk).1
            have Hend2 := Lib.hid hend
            have Hx6 := Lib.hid hx6
            clear ha hend hx6 hrl hbz
            go_roundw
            case rel => exact ⟨i + 1, by omega, by go_num, Hend2.out, Hx6.out⟩
            case measure => simp [intOf]; omega
          · have hdc : decide ((i : Int) < (n7 : Int)) = false := by simp; omega
            obtain rfl : n7 = i := by omega
            have hown := Hown.out
            rw [List.take_of_length_le (by rw [Hn7.out]; exact Nat.le_refl _)] at hown
            have Hown2 := Lib.hid (Rd.of_own hown (S := fun k => w.heap.size ≤ k) fun k hk => Nat.le_trans Hst7.out.ext.size (hown.lt k hk).1)
            clear hown
            go_wp2_with fail
            ((try simp only [Exit.inBlock, Exit.then]); refine bodyPost_ret (results_tmp4 rfl _ _ _) rfl ?_)
            refine ⟨Hst7.out.ext.trans Hx.out, .inr (.inr ⟨Hc.out, l, tk, _, _, Hend.out, rfl, ?_, ?_⟩)⟩
            · rw [Hn7.out]; exact Rd.ext Hr7.out Hx.out
            · rw [Hn7.out]; exact Hown2.out
end Go.Proofs.Ytfbhbnolnjcaiaa
