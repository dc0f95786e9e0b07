/-
  The walk of StoreScript: it returns true and changes nothing that was there.
  Conditions: none.
-/
import Derived.Test.YtkhfjedeccjnbaaBoth26
import Derived.Test.YtkhfjedeccjnbaaLaw26d
import Derived.Deep.RegionHeld3
import Derived.Deep.DeepCutAuto
namespace Go.Proofs.Ytkhfjedeccjnbaa
open Go.RowKit Go.Sort
set_option maxHeartbeats 8000000

theorem pows_load {n : Nat} (h : powB (n : Int) 4 = true) : StOk n (fun _ => none) 0 := by
  obtain ⟨h1, h2, h3⟩ := (pow_spec (by omega)).1 h
  exact ⟨tab_new (by omega), by omega, by omega, by omega, h3, by simp⟩
/-- What the stores of the walk are like. -/
def SsI (w : World) (b yb sb k : Nat) (wr : World) : Prop := ∃ g h n sl f u S log, BothAt w.heap.size b yb k wr g h n sl f u S log ∧ g ≠ sb ∧ h ≠ sb ∧ (∀ i, S i → i ≠ sb) ∧ Src w.heap.size wr sb ∧ Ext w wr
set_option maxRecDepth 100000
namespace storeScript
theorem walk (a : Option Addr) (len cap : Nat) (zs : List Int) (a1 : Int) (w : World) (hrow : IsRow .i64 w a len cap zs) (_ : I64 a1) :
    Calls Try.prog 25 #[.slice a len cap, .int .i64 a1] w fun e w' => e = .returned (.bool true) ∧ Below w.heap.size w w' := by
  have hpb := pickI_bd a1 3 (by omega)
  obtain ⟨q, hq⟩ : ∃ q : Nat, pickI a1 3 = (q : Int) := ⟨(pickI a1 3).toNat, by omega⟩
  have hq1 : q < 3 := by omega
  have hq2 : (0 : Int) ≤ (q : Int) := by omega
  have hq3 : (q : Int) < 3 := by omega
  obtain ⟨n, hnc, hn4, hn16, hpw⟩ : ∃ n : Nat, (∀ w : World, (w.alloc (.cells #[.int .i64 4, .int .i64 8, .int .i64 16] 3)).cell? ⟨w.heap.size, q, none⟩ = some (.int .i64 (n : Int))) ∧ 4 ≤ n ∧ n ≤ 16 ∧ powB (n : Int) 4 = true := by
    rcases (show q = 0 ∨ q = 1 ∨ q = 2 by omega) with rfl | rfl | rfl
    · exact ⟨4, fun w => by go_simp, by omega, by omega, by decide⟩
    · exact ⟨8, fun w => by go_simp, by omega, by omega, by decide⟩
    · exact ⟨16, fun w => by go_simp, by omega, by omega, by decide⟩
  clear hpb
  have Hpw := Lib.hid hpw
  clear hpw
  go_enter Try.func25, Try.ntmps25
  go_wp2_with (go_at_call 29; refine (pick_any _ _ (by omega) (by omega) _).mono ?_; rintro e w' ⟨rfl, rfl⟩; rw [hq])
  refine (snew_any (n : Int) _).mono ?_
  rintro e w1 (⟨hp, _⟩ | ⟨_, b, g, h, rfl, hb, hg, hh, hl, hx⟩)
  · exact absurd hp (by rw [Hpw.out]; decide)
  have hx1 : Ext w w1 := ((Ext.refl w).alloc _).trans hx
  have hl1 : StoreAt w1 b g h n (fun _ => none) (fun _ => rc0) 0 := by simpa using hl
  have hz0 := ((Ext.refl w).alloc (.cells #[.int .i64 4, .int .i64 8, .int .i64 16] 3)).size
  have hb := Nat.le_trans hz0 hb
  have hg := Nat.le_trans hz0 hg
  have hh := Nat.le_trans hz0 hh
  have Hl1 := Lib.hid hl1
  have Hx1 := Lib.hid hx1
  clear hl hx hnc hz0 hl1 hx1
  go_wp2_with fail
  refine (rsnew_any (n : Int) _).mono ?_
  rintro e w2 (⟨hp, _⟩ | ⟨_, yb, t, s, rfl, hyb, ht, hs, hbt, hbs, htab, hcell, hx2⟩)
  · exact absurd hp (by rw [Hpw.out]; decide)
  have hl2 := Hl1.out.ext hx2
  have hbw := Hl1.out.2.2.2.1
  have hgw : g < w1.heap.size := Hl1.out.2.2.2.2.2.2.2.2.1.1
  have hhw : h < w1.heap.size := Hl1.out.2.2.2.2.2.2.2.2.2.1
  have hz1 := Hx1.out.size
  have hboth : BothAt w.heap.size b yb 0 w2 g h n (fun _ => none) (fun _ => rc0) 0 (fun k => k = yb ∨ k = t ∨ k = s) [] := by
    have htab' : TableAt w2 t s n (fun _ => -1) (.slice none 0 0) := by simpa using htab
    have hti := tabIs_new htab'
    refine ⟨hl2, ⟨t, _, _, (fun k => k = t ∨ k = s), (fun _ => False), (fun _ => False), ⟨by simp [World.cell?, hcell], by simp [World.cell?, hcell], by simp [World.cell?, hcell], fun j => by simp [World.frozen?, hcell], .inl rfl, hti, Rd.nil _ _ _, Rd.nil _ _ _, fun k hk => ⟨.inr hk, by rcases hk with rfl | rfl; exact Ne.symm hbt; exact Ne.symm hbs, fun h => h, fun h => h⟩, fun k hk => hk.elim, fun k hk => hk.elim, fun k hk => by
      rcases hk with rfl | hk
      · exact (Array.getElem?_eq_some_iff.1 hcell).1
      · exact hti.low k hk⟩⟩, pows_load Hpw.out, cpl_start n, Nat.le_refl _, by omega, by omega, by omega, fun i hi => by rcases hi with rfl | rfl | rfl <;> omega, fun h => by rcases h with h | h | h <;> omega, fun h => by rcases h with h | h | h <;> omega, fun h => by rcases h with h | h | h <;> omega⟩
  have HB := Lib.hid hboth
  have Hx2 := Lib.hid (Hx1.out.trans hx2)
  have hyl : b < w2.heap.size ∧ g < w2.heap.size ∧ h < w2.heap.size := ⟨HB.out.x.2.2.2.1, HB.out.x.2.2.2.2.2.2.2.2.1.1, HB.out.x.2.2.2.2.2.2.2.2.2.1⟩
  have hSl : ∀ i, (i = yb ∨ i = t ∨ i = s) → i < w2.heap.size := HB.out.y.low
  clear hboth hl2 htab hcell hx2 Hl1 Hx1 hbw hgw hhw
  go_wp2_with fail
  refine (from_any _ _ _ _).mono ?_
  rintro e w3 ⟨rfl, rfl⟩
  have hsrc : Src w.heap.size (w2.alloc (.cells #[.slice a len cap, .int .i64 0] 104)) w2.heap.size := src_of_row hrow Hx2.out
  have hxa : Ext w2 (w2.alloc (.cells #[.slice a len cap, .int .i64 0] 104)) := (Ext.refl _).alloc _
  have hB3 := HB.out.ext hxa
  have hx3 := Hx2.out.trans hxa
  have hsB := Hx2.out.size
  obtain ⟨sb, hsb⟩ : ∃ sb, w2.heap.size = sb := ⟨_, rfl⟩
  rw [hsb] at hsrc hyl hSl hsB
  obtain ⟨w3, hw3⟩ : ∃ w3, w2.alloc (.cells #[.slice a len cap, .int .i64 0] 104) = w3 := ⟨_, rfl⟩
  rw [hw3] at hsrc hB3 hx3 ⊢
  rw [hsb]
  obtain ⟨hbl, hgl, hhl⟩ := hyl
  have hbS : b ≠ sb := by omega
  have HP := Lib.hid (show SsI w b yb sb 0 w3 from ⟨g, h, n, _, _, _, _, _, hB3, by omega, by omega, fun i hi => Nat.ne_of_lt (hSl i hi), hsrc, hx3⟩)
  clear hsb hw3 hrow hsrc hB3 hx3 hxa HB Hx2 hSl hbl hgl hhl hg hh hb hyb ht hs hbt hbs hz1
  go_wp2_with fail
  go_loopw [11] (fun o wr => ∃ k : Nat, k ≤ 60 ∧ o = .int .i64 (k : Int) ∧ SsI w b yb sb k wr) (fun o _ => (60 - intOf o).toNat)
  case atStart => exact ⟨0, by omega, rfl, HP.out⟩
  case round =>
    clear HP
    obtain ⟨k, hk60, rfl, g, h, n, sl, f, u, S, log, hB, hgS, hhS, hfS, hsrc, hx⟩ := hrel
    by_cases hk : k < 60
    · have hd : decide ((k : Int) < 60) = true := by simp; omega
      have HB := Lib.hid hB
      have Hx := Lib.hid hx
      clear hB hx
      go_wp2_with fail
      refine (left_src _ _ _ hsrc).mono ?_
      rintro e w3 ⟨⟨v, rfl⟩, hsrc3, hc3⟩
      have HB3 := Lib.hid (HB.out.chg hc3 hbS hgS hhS hfS)
      have Hx3 := Lib.hid (Hx.out.chg_new hc3 (fun i hi => by subst hi; exact hsB))
      clear hsrc hc3 HB Hx
      cases v
      · have Hfin := HB3
        have y0 := Hfin.out.ytab.1
        obtain ⟨t5, ht5⟩ : ∃ t, tOf yb w3 = t := ⟨_, rfl⟩
        rw [ht5] at y0
        have hyl := Hfin.out.ylow
        clear ht5
        go_wp2_with fail
        go_region_held3 (fun w' => w'.cell? ⟨yb, 0, none⟩ = some (.pointer (some ⟨t5, 0, none⟩))) (go_keep)
          (first
            | (go_at_call 66; refine (awake26 _).mono ?_; rintro e w4 ⟨rfl, hx4⟩; have y1 := ((show Ext w3 _ from (by repeat' (first | exact Ext.refl _ | assumption | apply Ext.alloc | apply Ext.drewN | apply Ext.drew | (refine Ext.trans ?_ (by assumption)) | (refine ext_setCell ?_ (by first | (simp; done) | (simp; omega)) _)))).trans hx4).cell (p := ⟨yb, 0, none⟩) hyl; have y0 := y1.trans y0; have HF4 := Lib.hid (Hfin.out.ext ((show Ext w3 _ from (by repeat' (first | exact Ext.refl _ | assumption | apply Ext.alloc | apply Ext.drewN | apply Ext.drew | (refine Ext.trans ?_ (by assumption)) | (refine ext_setCell ?_ (by first | (simp; done) | (simp; omega)) _)))).trans hx4)); have Hx4 := Lib.hid (Hx3.out.trans ((show Ext w3 _ from (by repeat' (first | exact Ext.refl _ | assumption | apply Ext.alloc | apply Ext.drewN | apply Ext.drew | (refine Ext.trans ?_ (by assumption)) | (refine ext_setCell ?_ (by first | (simp; done) | (simp; omega)) _)))).trans hx4)); clear hx4 y1)
            | (go_at_call 87; refine (HF4.out.xkeys).mono ?_; rintro e w5 ⟨v5, rfl, ho5, hx5⟩; have y1 := hx5.cell (p := ⟨yb, 0, none⟩) HF4.out.ylow; have y0 := y1.trans y0; have HF5 := Lib.hid (HF4.out.ext hx5); have Ho5 := Lib.hid ho5; have Hx5 := Lib.hid (Hx4.out.trans hx5); clear hx5 ho5 y1)
            | (go_at_call 88; refine (HF5.out.ysorted y0).mono ?_; rintro e w6 ⟨v6, rfl, ho6, hx6⟩; have y1 := hx6.cell (p := ⟨yb, 0, none⟩) HF5.out.ylow; have y0 := y1.trans y0; have hr5 := (Rd.of_own (S := fun _ => True) Ho5.out (fun _ _ => trivial)).ext hx6; have hr6 := Rd.of_own (S := fun _ => True) ho6 (fun _ _ => trivial); have HF6 := Lib.hid (HF5.out.ext hx6); have Hr5 := Lib.hid hr5; have Hr6 := Lib.hid hr6; have Hx6 := Lib.hid (Hx5.out.trans hx6); clear hx6 ho6 hr5 hr6 y1)
            | (go_at_call 77; refine (same_str v5 v6 _ _ _ _ _ Hr5.out Hr6.out).mono ?_; rintro e w7 ⟨rfl, hx7⟩; have y1 := hx7.cell (p := ⟨yb, 0, none⟩) HF6.out.ylow; have y0 := y1.trans y0; have Hx7 := Lib.hid (Hx6.out.trans hx7); clear hx7 y1))
        all_goals
          go_wp2_with fail
          go_ret
          exact ⟨rfl, Ext.below Hx7.out⟩
      · go_wp2_with fail
        refine (key26_any _ _ _ hsrc3).mono ?_
        rintro e w4 ⟨key, hs1, rfl, hsrc4, hc4⟩
        have HB4 := Lib.hid (HB3.out.chg hc4 hbS hgS hhS hfS)
        have Hx4 := Lib.hid (Hx3.out.chg_new hc4 (fun i hi => by subst hi; exact hsB))
        clear hsrc3 hc4 HB3 Hx3
        go_wp2_with fail
        refine (rec26_any _ _ _ hsrc4).mono ?_
        rintro e w5 ⟨st, ow, dl, nm, _, _, _, _, _, _, _, rfl, hsrc5, hc5⟩
        have HB5 := Lib.hid (HB4.out.chg hc5 hbS hgS hhS hfS)
        have Hx5 := Lib.hid (Hx4.out.chg_new hc5 (fun i hi => by subst hi; exact hsB))
        clear hsrc4 hc5 HB4 Hx4
        have hkey := size_one hs1
        have hxa : Ext w5 (w5.alloc (.cells #[.int .i64 st, .int .i64 ow, .string nm, .int .i64 dl] 30)).drew := ((Ext.refl w5).alloc _).drew
        have hra : RecAt (w5.alloc (.cells #[.int .i64 st, .int .i64 ow, .string nm, .int .i64 dl] 30)).drew w5.heap.size st ow dl nm := by
          refine ⟨?_, ?_, ?_, ?_, fun i => ?_⟩ <;> go_simp
        obtain ⟨rb, hrb⟩ : ∃ rb, w5.heap.size = rb := ⟨_, rfl⟩
        have hbl : b < rb := by rw [← hrb]; exact HB5.out.x.2.2.2.1
        have hgl : g < rb := by rw [← hrb]; exact HB5.out.x.2.2.2.2.2.2.2.2.1.1
        have hhl : h < rb := by rw [← hrb]; exact HB5.out.x.2.2.2.2.2.2.2.2.2.1
        have hSl : ∀ i, S i → i < rb := fun i hi => by rw [← hrb]; exact HB5.out.y.low i hi
        have hlen := HB5.out.len
        have hsl5 := hsrc5.lt
        have HB := Lib.hid (HB5.out.ext hxa)
        have Hx := Lib.hid (Hx5.out.trans hxa)
        have Hs := Lib.hid (hsrc5.ext hxa)
        have hBz := Hx.out.size
        have hsl := Hs.out.lt
        rw [hrb] at hra
        have Hra := Lib.hid hra
        have hnv : ¬ (rb = b ∨ rb = g ∨ rb = h) := by omega
        have HSd := Lib.hid (show ∀ i, S i → ¬ (i = b ∨ i = g ∨ i = h) from fun i hi e => by rcases e with rfl | rfl | rfl; exact HB.out.nx hi; exact HB.out.ng hi; exact HB.out.nh hi)
        have hnv2 : ¬ S rb := fun h => by have := hSl _ h; omega
        have HSall := Lib.hid (show ∀ i, i < w.heap.size → ¬ S i from fun i hi h => by have := HB.out.gs i h; omega)
        have hsS : ¬ (sb = b ∨ sb = g ∨ sb = h) := by rintro (e | e | e); exact hbS e.symm; exact hgS e.symm; exact hhS e.symm
        have HBS := Lib.hid (show ∀ i, i < w.heap.size → ¬ (i = b ∨ i = g ∨ i = h) from fun i hi e => by rcases e with rfl | rfl | rfl; exact absurd HB.out.gx (by omega); exact absurd HB.out.gg (by omega); exact absurd HB.out.gh (by omega))
        have hsY : ¬ S sb := fun h => hfS sb h rfl
        clear hSl hra hxa HB5 Hx5 hsrc5
        go_upto_region 11 with fail
        obtain ⟨p0, p1, p2, p3, _⟩ := Hra.out
        refine wp_region_held_drew (S := fun w' => w'.cell? ⟨rb, 0, none⟩ = some (.int .i64 st) ∧ w'.cell? ⟨rb, 1, none⟩ = some (.int .i64 ow) ∧ w'.cell? ⟨rb, 2, none⟩ = some (.string nm) ∧ w'.cell? ⟨rb, 3, none⟩ = some (.int .i64 dl)) (by kernel_rfl) ?_ (fun hHeld => ?_)
        · go_keep
        refine wpAnyH_take (i := 0) (oi := _) (v := ?_) rfl (by kernel_rfl) (by kernel_rfl) (by kernel_rfl) (fun _ _ _ h => h) (Or.inl ⟨by rfl, ?_⟩) (by assumption) ?_; rotate_left; (focus ((intro w hSw; (try dsimp only at hSw); go_simp); (first | done | (with_reducible rfl)))); (try simp only [Act.put]); (try simp only [List.setIfInBounds_toArray])
        refine wpAnyH_take (i := 1) (oi := _) (v := ?_) rfl (by kernel_rfl) (by kernel_rfl) (by kernel_rfl) (fun _ _ _ h => h) (Or.inl ⟨by rfl, ?_⟩) (by assumption) ?_; rotate_left; (focus ((intro w hSw; (try dsimp only at hSw); go_simp); (first | done | (with_reducible rfl)))); (try simp only [Act.put]); (try simp only [List.setIfInBounds_toArray])
        refine wpAnyH_take (i := 2) (oi := _) (v := ?_) rfl (by kernel_rfl) (by kernel_rfl) (by kernel_rfl) (fun _ _ _ h => h) (Or.inl ⟨by rfl, ?_⟩) (by assumption) ?_; rotate_left; (focus ((intro w hSw; (try dsimp only at hSw); go_simp); (first | done | (with_reducible rfl)))); (try simp only [Act.put]); (try simp only [List.setIfInBounds_toArray])
        refine wpAnyH_take (i := 4) (oi := _) (v := ?_) rfl (by kernel_rfl) (by kernel_rfl) (by kernel_rfl) (fun _ _ _ h => h) (Or.inl ⟨by rfl, ?_⟩) (by assumption) ?_; rotate_left; (focus ((intro w hSw; (try dsimp only at hSw); go_simp); (first | done | (with_reducible rfl)))); (try simp only [Act.put]); (try simp only [List.setIfInBounds_toArray])
        refine wpAnyH_take (i := 5) (oi := _) (v := ?_) rfl (by kernel_rfl) (by kernel_rfl) (by kernel_rfl) (fun _ _ _ h => h) (Or.inl ⟨by rfl, ?_⟩) (by assumption) ?_; rotate_left; (focus ((intro w hSw; (try dsimp only at hSw); go_simp); (first | done | (with_reducible rfl)))); (try simp only [Act.put]); (try simp only [List.setIfInBounds_toArray])
        refine wpAnyH_take (i := 6) (oi := _) (v := ?_) rfl (by kernel_rfl) (by kernel_rfl) (by kernel_rfl) (fun _ _ _ h => h) (Or.inl ⟨by rfl, ?_⟩) (by assumption) ?_; rotate_left; (focus ((intro w hSw; (try dsimp only at hSw); go_simp); (first | done | (with_reducible rfl)))); (try simp only [Act.put]); (try simp only [List.setIfInBounds_toArray])
        refine wpAnyH_ready (rs := [3]) (by kernel_rfl) (by simp) ?_; refine AllReadyH.cons (o := _) rfl (fun K hK => ?_) AllReadyH.nil; go_simp
        refine (sput_any b g h n sl f u key st ow dl nm _ HB.out.ok hkey HB.out.x).mono ?_; rintro e w4 ⟨code, n1, g1, h1, sl1, f1, u1, rfl, hq1, hl1, hgh1, hc1⟩; have Hr4 := Lib.hid (Hra.out.chg hc1 hnv); have HY := Lib.hid (HB.out.y.chg hc1 HSd.out); have Hx4 := Lib.hid (Hx.out.chg_new hc1 (by rintro i (rfl | rfl | rfl); exact HB.out.gx; exact HB.out.gg; exact HB.out.gh)); have Hs4 := Lib.hid (Hs.out.chg hc1 hsS HBS.out); have Hq1 := Lib.hid hq1; have Hl1 := Lib.hid hl1; have Hgh1 := Lib.hid hgh1; have Hc1 := Lib.hid hc1; obtain ⟨p0, p1, p2, p3, pf⟩ := Hr4.out; clear hq1 hl1 hgh1 hc1 pf
        (try go_wp2_with fail); refine hK.out _ _ ?_ (fun hHeld => ?_); (focus ((try dsimp only); (first | done | go_keep))); clear hK K; try simp only [Act.put, List.setIfInBounds_toArray, List.set_cons_zero, List.set_cons_succ]
        refine wpAnyH_ready (rs := [7]) (by kernel_rfl) (by simp) ?_; refine AllReadyH.cons (o := _) rfl (fun K hK => ?_) AllReadyH.nil; go_simp
        refine (rput_any S yb n sl u log (2049 * k) key st ow dl nm _ HB.out.ok hkey (by omega) (by omega) HY.out).mono ?_; rintro e w5 ⟨code2, n2, sl2, log2, S2, rfl, hr2, hy2, hS2, hc2⟩; obtain ⟨rfl, hB5⟩ := HB.out.put hkey Hq1.out Hl1.out Hgh1.out Hc1.out hr2 hy2 hS2 hc2 hBz; have HB5 := Lib.hid hB5; have Hr5 := Lib.hid (Hr4.out.chg hc2 hnv2); have Hx5 := Lib.hid (Hx4.out.chg_new hc2 (fun i hi => HB.out.gs i hi)); have Hs5 := Lib.hid (Hs4.out.chg hc2 hsY HSall.out); have Hfar := Lib.hid (far_next Hgh1.out hsl hgS hhS hfS hS2 Hs4.out.lt); obtain ⟨p0, p1, p2, p3, pf⟩ := Hr5.out; obtain ⟨t5, ht5⟩ : ∃ t, tOf yb w5 = t := ⟨_, rfl⟩; have y0 := hB5.ytab.1; rw [ht5] at y0; clear hr2 hy2 hS2 hc2 hB5 pf ht5
        (try go_wp2_with fail); refine hK.out _ _ ?_ (fun hHeld => ?_); (focus ((try dsimp only); (first | done | go_keep))); clear hK K; try simp only [Act.put, List.setIfInBounds_toArray, List.set_cons_zero, List.set_cons_succ]
        refine wpAnyH_mono (S := fun w' => (w'.cell? ⟨rb, 0, none⟩ = some (.int .i64 st) ∧ w'.cell? ⟨rb, 1, none⟩ = some (.int .i64 ow) ∧ w'.cell? ⟨rb, 2, none⟩ = some (.string nm) ∧ w'.cell? ⟨rb, 3, none⟩ = some (.int .i64 dl)) ∧ w'.cell? ⟨yb, 0, none⟩ = some (.pointer (some ⟨t5, 0, none⟩))) (fun _ h => h.1) _ _ _ _ ?_; have hHeld : (fun w' : World => (w'.cell? ⟨rb, 0, none⟩ = some (.int .i64 st) ∧ w'.cell? ⟨rb, 1, none⟩ = some (.int .i64 ow) ∧ w'.cell? ⟨rb, 2, none⟩ = some (.string nm) ∧ w'.cell? ⟨rb, 3, none⟩ = some (.int .i64 dl)) ∧ w'.cell? ⟨yb, 0, none⟩ = some (.pointer (some ⟨t5, 0, none⟩))) w5 := ⟨⟨p0, p1, p2, p3⟩, y0⟩
        refine wpAnyH_take (i := 8) (oi := _) (v := ?_) rfl (by kernel_rfl) (by kernel_rfl) (by kernel_rfl) (fun _ _ _ h => h) (Or.inl ⟨by rfl, ?_⟩) (by assumption) ?_; rotate_left; (focus ((intro w hSw; (try dsimp only at hSw); go_simp); (first | done | (with_reducible rfl)))); (try simp only [Act.put]); (try simp only [List.setIfInBounds_toArray])
        refine wpAnyH_take (i := 9) (oi := _) (v := ?_) rfl (by kernel_rfl) (by kernel_rfl) (by kernel_rfl) (fun _ _ _ h => h) (Or.inl ⟨by rfl, ?_⟩) (by assumption) ?_; rotate_left; (focus ((intro w hSw; (try dsimp only at hSw); go_simp); (first | done | (with_reducible rfl)))); (try simp only [Act.put]); (try simp only [List.setIfInBounds_toArray])
        refine wpAnyH_take (i := 10) (oi := _) (v := ?_) rfl (by kernel_rfl) (by kernel_rfl) (by kernel_rfl) (fun _ _ _ h => h) (Or.inl ⟨by rfl, ?_⟩) (by assumption) ?_; rotate_left; (focus ((intro w hSw; (try dsimp only at hSw); go_simp); (first | done | (with_reducible rfl)))); (try simp only [Act.put]); (try simp only [List.setIfInBounds_toArray])
        refine wpAnyH_take (i := 11) (oi := _) (v := ?_) rfl (by kernel_rfl) (by kernel_rfl) (by kernel_rfl) (fun _ _ _ h => h) (Or.inl ⟨by rfl, ?_⟩) (by assumption) ?_; rotate_left; (focus ((intro w hSw; (try dsimp only at hSw); go_simp); (first | done | (with_reducible rfl)))); (try simp only [Act.put]); (try simp only [List.setIfInBounds_toArray])
        refine wpAnyH_take (i := 13) (oi := _) (v := ?_) rfl (by kernel_rfl) (by kernel_rfl) (by kernel_rfl) (fun _ _ _ h => h) (Or.inl ⟨by rfl, ?_⟩) (by assumption) ?_; rotate_left; (focus ((intro w hSw; (try dsimp only at hSw); go_simp); (first | done | (with_reducible rfl)))); (try simp only [Act.put]); (try simp only [List.setIfInBounds_toArray])
        refine wpAnyH_take (i := 14) (oi := _) (v := ?_) rfl (by kernel_rfl) (by kernel_rfl) (by kernel_rfl) (fun _ _ _ h => h) (Or.inl ⟨by rfl, ?_⟩) (by assumption) ?_; rotate_left; (focus ((intro w hSw; (try dsimp only at hSw); go_simp); (first | done | (with_reducible rfl)))); (try simp only [Act.put]); (try simp only [List.setIfInBounds_toArray])
        refine wpAnyH_ready (rs := [12]) (by kernel_rfl) (by simp) ?_; refine AllReadyH.cons (o := _) rfl (fun K hK => ?_) AllReadyH.nil; go_simp
        refine (HB5.out.xget _ hkey).mono ?_; rintro e w6 ⟨rfl, hx6⟩; have y0 := (hx6.cell (p := ⟨yb, 0, none⟩) HB5.out.ylow).trans y0; have HB5 := Lib.hid (HB5.out.ext hx6); have Hr5 := Lib.hid (Hr5.out.ext hx6); have Hs5 := Lib.hid (Hs5.out.ext hx6); have Hx5 := Lib.hid (Hx5.out.trans hx6); obtain ⟨p0, p1, p2, p3, pf⟩ := Hr5.out; clear hx6 pf
        (try go_wp2_with fail); refine hK.out _ _ ?_ (fun hHeld => ?_); (focus ((try dsimp only); (first | done | go_keep))); clear hK K; try simp only [Act.put, List.setIfInBounds_toArray, List.set_cons_zero, List.set_cons_succ]
        refine wpAnyH_ready (rs := [15]) (by kernel_rfl) (by simp) ?_; refine AllReadyH.cons (o := _) rfl (fun K hK => ?_) AllReadyH.nil; go_simp
        refine (HB5.out.yget (by omega) _).mono ?_; rintro e w6 ⟨rfl, hx6⟩; have y0 := (hx6.cell (p := ⟨yb, 0, none⟩) HB5.out.ylow).trans y0; have HB5 := Lib.hid (HB5.out.ext hx6); have Hr5 := Lib.hid (Hr5.out.ext hx6); have Hs5 := Lib.hid (Hs5.out.ext hx6); have Hx5 := Lib.hid (Hx5.out.trans hx6); obtain ⟨p0, p1, p2, p3, pf⟩ := Hr5.out; clear hx6 pf
        (try go_wp2_with fail); refine hK.out _ _ ?_ (fun hHeld => ?_); (focus ((try dsimp only); (first | done | go_keep))); clear hK K; try simp only [Act.put, List.setIfInBounds_toArray, List.set_cons_zero, List.set_cons_succ]
        refine wpAnyH_take (i := 16) (oi := _) (v := ?_) rfl (by kernel_rfl) (by kernel_rfl) (by kernel_rfl) (fun _ _ _ h => h) (Or.inl ⟨by rfl, ?_⟩) (by assumption) ?_; rotate_left; (focus ((intro w hSw; (try dsimp only at hSw); go_simp); (first | done | (with_reducible rfl)))); (try simp only [Act.put]); (try simp only [List.setIfInBounds_toArray])
        refine wpAnyH_take (i := 17) (oi := _) (v := ?_) rfl (by kernel_rfl) (by kernel_rfl) (by kernel_rfl) (fun _ _ _ h => h) (Or.inl ⟨by rfl, ?_⟩) (by assumption) ?_; rotate_left; (focus ((intro w hSw; (try dsimp only at hSw); go_simp); (first | done | (with_reducible rfl)))); (try simp only [Act.put]); (try simp only [List.setIfInBounds_toArray])
        refine wpAnyH_take (i := 18) (oi := _) (v := ?_) rfl (by kernel_rfl) (by kernel_rfl) (by kernel_rfl) (fun _ _ _ h => h) (Or.inl ⟨by rfl, ?_⟩) (by assumption) ?_; rotate_left; (focus ((intro w hSw; (try dsimp only at hSw); go_simp); (first | done | (with_reducible rfl)))); (try simp only [Act.put]); (try simp only [List.setIfInBounds_toArray])
        refine wpAnyH_take (i := 19) (oi := _) (v := ?_) rfl (by kernel_rfl) (by kernel_rfl) (by kernel_rfl) (fun _ _ _ h => h) (Or.inl ⟨by rfl, ?_⟩) (by assumption) ?_; rotate_left; (focus ((intro w hSw; (try dsimp only at hSw); go_simp); (first | done | (with_reducible rfl)))); (try simp only [Act.put]); (try simp only [List.setIfInBounds_toArray])
        refine wpAnyH_take (i := 21) (oi := _) (v := ?_) rfl (by kernel_rfl) (by kernel_rfl) (by kernel_rfl) (fun _ _ _ h => h) (Or.inl ⟨by rfl, ?_⟩) (by assumption) ?_; rotate_left; (focus ((intro w hSw; (try dsimp only at hSw); go_simp); (first | done | (with_reducible rfl)))); (try simp only [Act.put]); (try simp only [List.setIfInBounds_toArray])
        refine wpAnyH_take (i := 22) (oi := _) (v := ?_) rfl (by kernel_rfl) (by kernel_rfl) (by kernel_rfl) (fun _ _ _ h => h) (Or.inl ⟨by rfl, ?_⟩) (by assumption) ?_; rotate_left; (focus ((intro w hSw; (try dsimp only at hSw); go_simp); (first | done | (with_reducible rfl)))); (try simp only [Act.put]); (try simp only [List.setIfInBounds_toArray])
        refine wpAnyH_take (i := 23) (oi := _) (v := ?_) rfl (by kernel_rfl) (by kernel_rfl) (by kernel_rfl) (fun _ _ _ h => h) (Or.inl ⟨by rfl, ?_⟩) (by assumption) ?_; rotate_left; (focus ((intro w hSw; (try dsimp only at hSw); go_simp); (first | done | (with_reducible rfl)))); (try simp only [Act.put]); (try simp only [List.setIfInBounds_toArray])
        refine wpAnyH_take (i := 24) (oi := _) (v := ?_) rfl (by kernel_rfl) (by kernel_rfl) (by kernel_rfl) (fun _ _ _ h => h) (Or.inl ⟨by rfl, ?_⟩) (by assumption) ?_; rotate_left; (focus ((intro w hSw; (try dsimp only at hSw); go_simp); (first | done | (with_reducible rfl)))); (try simp only [Act.put]); (try simp only [List.setIfInBounds_toArray])
        refine wpAnyH_ready (rs := [20]) (by kernel_rfl) (by simp) ?_; refine AllReadyH.cons (o := _) rfl (fun K hK => ?_) AllReadyH.nil; go_simp
        refine (HB5.out.xlen).mono ?_; rintro e w6 ⟨rfl, rfl⟩
        (try go_wp2_with fail); refine hK.out _ _ ?_ (fun hHeld => ?_); (focus ((try dsimp only); (first | done | go_keep))); clear hK K; try simp only [Act.put, List.setIfInBounds_toArray, List.set_cons_zero, List.set_cons_succ]
        refine wpAnyH_ready (rs := [25]) (by kernel_rfl) (by simp) ?_; refine AllReadyH.cons (o := _) rfl (fun K hK => ?_) AllReadyH.nil; go_simp
        refine (HB5.out.ylen y0).mono ?_; rintro e w6 ⟨rfl, rfl⟩
        (try go_wp2_with fail); refine hK.out _ _ ?_ (fun hHeld => ?_); (focus ((try dsimp only); (first | done | go_keep))); clear hK K; try simp only [Act.put, List.setIfInBounds_toArray, List.set_cons_zero, List.set_cons_succ]
        refine wpAnyH_take (i := 26) (oi := _) (v := ?_) rfl (by kernel_rfl) (by kernel_rfl) (by kernel_rfl) (fun _ _ _ h => h) (Or.inl ⟨by rfl, ?_⟩) (by assumption) ?_; rotate_left; (focus ((intro w hSw; (try dsimp only at hSw); go_simp); (first | done | (with_reducible rfl)))); (try simp only [Act.put]); (try simp only [List.setIfInBounds_toArray])
        refine wpAnyH_take (i := 27) (oi := _) (v := ?_) rfl (by kernel_rfl) (by kernel_rfl) (by kernel_rfl) (fun _ _ _ h => h) (Or.inl ⟨by rfl, ?_⟩) (by assumption) ?_; rotate_left; (focus ((intro w hSw; (try dsimp only at hSw); go_simp); (first | done | (with_reducible rfl)))); (try simp only [Act.put]); (try simp only [List.setIfInBounds_toArray])
        refine wpAnyH_take (i := 28) (oi := _) (v := ?_) rfl (by kernel_rfl) (by kernel_rfl) (by kernel_rfl) (fun _ _ _ h => h) (Or.inl ⟨by rfl, ?_⟩) (by assumption) ?_; rotate_left; (focus ((intro w hSw; (try dsimp only at hSw); go_simp); (first | done | (with_reducible rfl)))); (try simp only [Act.put]); (try simp only [List.setIfInBounds_toArray])
        refine wpAnyH_take (i := 29) (oi := _) (v := ?_) rfl (by kernel_rfl) (by kernel_rfl) (by kernel_rfl) (fun _ _ _ h => h) (Or.inl ⟨by rfl, ?_⟩) (by assumption) ?_; rotate_left; (focus ((intro w hSw; (try dsimp only at hSw); go_simp); (first | done | (with_reducible rfl)))); (try simp only [Act.put]); (try simp only [List.setIfInBounds_toArray])
        refine wpAnyH_take (i := 31) (oi := _) (v := ?_) rfl (by kernel_rfl) (by kernel_rfl) (by kernel_rfl) (fun _ _ _ h => h) (Or.inl ⟨by rfl, ?_⟩) (by assumption) ?_; rotate_left; (focus ((intro w hSw; (try dsimp only at hSw); go_simp); (first | done | (with_reducible rfl)))); (try simp only [Act.put]); (try simp only [List.setIfInBounds_toArray])
        refine wpAnyH_take (i := 32) (oi := _) (v := ?_) rfl (by kernel_rfl) (by kernel_rfl) (by kernel_rfl) (fun _ _ _ h => h) (Or.inl ⟨by rfl, ?_⟩) (by assumption) ?_; rotate_left; (focus ((intro w hSw; (try dsimp only at hSw); go_simp); (first | done | (with_reducible rfl)))); (try simp only [Act.put]); (try simp only [List.setIfInBounds_toArray])
        refine wpAnyH_take (i := 33) (oi := _) (v := ?_) rfl (by kernel_rfl) (by kernel_rfl) (by kernel_rfl) (fun _ _ _ h => h) (Or.inl ⟨by rfl, ?_⟩) (by assumption) ?_; rotate_left; (focus ((intro w hSw; (try dsimp only at hSw); go_simp); (first | done | (with_reducible rfl)))); (try simp only [Act.put]); (try simp only [List.setIfInBounds_toArray])
        refine wpAnyH_take (i := 34) (oi := _) (v := ?_) rfl (by kernel_rfl) (by kernel_rfl) (by kernel_rfl) (fun _ _ _ h => h) (Or.inl ⟨by rfl, ?_⟩) (by assumption) ?_; rotate_left; (focus ((intro w hSw; (try dsimp only at hSw); go_simp); (first | done | (with_reducible rfl)))); (try simp only [Act.put]); (try simp only [List.setIfInBounds_toArray])
        refine wpAnyH_ready (rs := [30]) (by kernel_rfl) (by simp) ?_; refine AllReadyH.cons (o := _) rfl (fun K hK => ?_) AllReadyH.nil; go_simp
        refine (HB5.out.xslots).mono ?_; rintro e w6 ⟨v6, rfl, hr6, hx6⟩; have y0 := (hx6.cell (p := ⟨yb, 0, none⟩) HB5.out.ylow).trans y0; have HB5 := Lib.hid (HB5.out.ext hx6); have Hr5 := Lib.hid (Hr5.out.ext hx6); have Hs5 := Lib.hid (Hs5.out.ext hx6); have Hx5 := Lib.hid (Hx5.out.trans hx6); obtain ⟨p0, p1, p2, p3, pf⟩ := Hr5.out; have Hr6 := Lib.hid hr6; clear hx6 pf hr6
        (try go_wp2_with fail); refine hK.out _ _ ?_ (fun hHeld => ?_); (focus ((try dsimp only); (first | done | go_keep))); clear hK K; try simp only [Act.put, List.setIfInBounds_toArray, List.set_cons_zero, List.set_cons_succ]
        refine wpAnyH_ready (rs := [35]) (by kernel_rfl) (by simp) ?_; refine AllReadyH.cons (o := _) rfl (fun K hK => ?_) AllReadyH.nil; go_simp
        refine (HB5.out.yshown y0).mono ?_; rintro e w6 ⟨v7, rfl, hr7, hx6⟩; have y0 := (hx6.cell (p := ⟨yb, 0, none⟩) HB5.out.ylow).trans y0; have HB5 := Lib.hid (HB5.out.ext hx6); have Hr5 := Lib.hid (Hr5.out.ext hx6); have Hs5 := Lib.hid (Hs5.out.ext hx6); have Hx5 := Lib.hid (Hx5.out.trans hx6); obtain ⟨p0, p1, p2, p3, pf⟩ := Hr5.out; have Hr7 := Lib.hid hr7; have Hr6 := Lib.hid (Hr6.out.ext hx6); clear hx6 pf hr7
        (try go_wp2_with fail); refine hK.out _ _ ?_ (fun hHeld => ?_); (focus ((try dsimp only); (first | done | go_keep))); clear hK K; try simp only [Act.put, List.setIfInBounds_toArray, List.set_cons_zero, List.set_cons_succ]
        refine wpAnyH_ready (rs := [36]) (by kernel_rfl) (by simp) ?_; refine AllReadyH.cons (o := _) rfl (fun K hK => ?_) AllReadyH.nil; go_simp
        refine (same_slots v6 v7 _ _ _ _ _ Hr6.out Hr7.out).mono ?_; rintro e w6 ⟨rfl, hx6⟩; have y0 := (hx6.cell (p := ⟨yb, 0, none⟩) HB5.out.ylow).trans y0; have HB5 := Lib.hid (HB5.out.ext hx6); have Hr5 := Lib.hid (Hr5.out.ext hx6); have Hs5 := Lib.hid (Hs5.out.ext hx6); have Hx5 := Lib.hid (Hx5.out.trans hx6); obtain ⟨p0, p1, p2, p3, pf⟩ := Hr5.out; clear hx6 pf
        (try go_wp2_with fail); refine hK.out _ _ ?_ (fun hHeld => ?_); (focus ((try dsimp only); (first | done | go_keep))); clear hK K; try simp only [Act.put, List.setIfInBounds_toArray, List.set_cons_zero, List.set_cons_succ]
        refine wpAnyH_take (i := 37) (oi := _) (v := ?_) rfl (by kernel_rfl) (by kernel_rfl) (by kernel_rfl) (fun _ _ _ h => h) (Or.inl ⟨by rfl, ?_⟩) (by assumption) ?_; rotate_left; (focus ((intro w hSw; (try dsimp only at hSw); go_simp); (first | done | (with_reducible rfl)))); (try simp only [Act.put]); (try simp only [List.setIfInBounds_toArray])
        refine wpAnyH_take (i := 38) (oi := _) (v := ?_) rfl (by kernel_rfl) (by kernel_rfl) (by kernel_rfl) (fun _ _ _ h => h) (Or.inl ⟨by rfl, ?_⟩) (by assumption) ?_; rotate_left; (focus ((intro w hSw; (try dsimp only at hSw); go_simp); (first | done | (with_reducible rfl)))); (try simp only [Act.put]); (try simp only [List.setIfInBounds_toArray])
        refine wpAnyH_done (by kernel_rfl) ?_ _
        clear p0 p1 p2 p3 y0 hHeld
        obtain ⟨f1, f2, f3⟩ := Hfar.out
        go_wp2_with fail
        go_roundw
        case rel => exact ⟨k + 1, by omega, by go_num, _, _, _, _, _, _, _, _, HB5.out, f1, f2, f3, Hs5.out, Hx5.out⟩
        case measure => simp [intOf]; omega
    · have hd : decide ((k : Int) < 60) = false := by simp; omega
      have Hfin := Lib.hid hB
      have Hx3 := Lib.hid hx
      clear hB hx hsrc
      have y0 := Hfin.out.ytab.1
      obtain ⟨t5, ht5⟩ : ∃ t, tOf yb wr = t := ⟨_, rfl⟩
      rw [ht5] at y0
      have hyl := Hfin.out.ylow
      clear ht5
      go_wp2_with fail
      go_region_held3 (fun w' => w'.cell? ⟨yb, 0, none⟩ = some (.pointer (some ⟨t5, 0, none⟩))) (go_keep)
        (first
          | (go_at_call 66; refine (awake26 _).mono ?_; rintro e w4 ⟨rfl, hx4⟩; have y1 := ((show Ext wr _ from (by repeat' (first | exact Ext.refl _ | assumption | apply Ext.alloc | apply Ext.drewN | apply Ext.drew | (refine Ext.trans ?_ (by assumption)) | (refine ext_setCell ?_ (by first | (simp; done) | (simp; omega)) _)))).trans hx4).cell (p := ⟨yb, 0, none⟩) hyl; have y0 := y1.trans y0; have HF4 := Lib.hid (Hfin.out.ext ((show Ext wr _ from (by repeat' (first | exact Ext.refl _ | assumption | apply Ext.alloc | apply Ext.drewN | apply Ext.drew | (refine Ext.trans ?_ (by assumption)) | (refine ext_setCell ?_ (by first | (simp; done) | (simp; omega)) _)))).trans hx4)); have Hx4 := Lib.hid (Hx3.out.trans ((show Ext wr _ from (by repeat' (first | exact Ext.refl _ | assumption | apply Ext.alloc | apply Ext.drewN | apply Ext.drew | (refine Ext.trans ?_ (by assumption)) | (refine ext_setCell ?_ (by first | (simp; done) | (simp; omega)) _)))).trans hx4)); clear hx4 y1)
          | (go_at_call 87; refine (HF4.out.xkeys).mono ?_; rintro e w5 ⟨v5, rfl, ho5, hx5⟩; have y1 := hx5.cell (p := ⟨yb, 0, none⟩) HF4.out.ylow; have y0 := y1.trans y0; have HF5 := Lib.hid (HF4.out.ext hx5); have Ho5 := Lib.hid ho5; have Hx5 := Lib.hid (Hx4.out.trans hx5); clear hx5 ho5 y1)
          | (go_at_call 88; refine (HF5.out.ysorted y0).mono ?_; rintro e w6 ⟨v6, rfl, ho6, hx6⟩; have y1 := hx6.cell (p := ⟨yb, 0, none⟩) HF5.out.ylow; have y0 := y1.trans y0; have hr5 := (Rd.of_own (S := fun _ => True) Ho5.out (fun _ _ => trivial)).ext hx6; have hr6 := Rd.of_own (S := fun _ => True) ho6 (fun _ _ => trivial); have HF6 := Lib.hid (HF5.out.ext hx6); have Hr5 := Lib.hid hr5; have Hr6 := Lib.hid hr6; have Hx6 := Lib.hid (Hx5.out.trans hx6); clear hx6 ho6 hr5 hr6 y1)
          | (go_at_call 77; refine (same_str v5 v6 _ _ _ _ _ Hr5.out Hr6.out).mono ?_; rintro e w7 ⟨rfl, hx7⟩; have y1 := hx7.cell (p := ⟨yb, 0, none⟩) HF6.out.ylow; have y0 := y1.trans y0; have Hx7 := Lib.hid (Hx6.out.trans hx7); clear hx7 y1))
      all_goals
        go_wp2_with fail
        go_ret
        exact ⟨rfl, Ext.below Hx7.out⟩
end storeScript
end Go.Proofs.Ytkhfjedeccjnbaa
