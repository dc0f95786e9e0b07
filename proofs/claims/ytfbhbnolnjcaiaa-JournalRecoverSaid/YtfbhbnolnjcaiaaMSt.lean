/-
  What the statements of chapter 28 carry from call to call.
  Conditions: none.
-/
import Derived.Test.YtfbhbnolnjcaiaaLaw28a
import Derived.Test.YtfbhbnolnjcaiaaCalls
import Derived.Test.YtfbhbnolnjcaiaaKeepSame
import Derived.Test.YtfbhbnolnjcaiaaDoLaw
namespace Go.Proofs.Ytfbhbnolnjcaiaa
open Go.RowKit Go.Sort
set_option maxHeartbeats 2000000
set_option maxRecDepth 20000

theorem EntsAt.chgM {S T : Nat → Prop} {w w' : World} {v : Value} {l : List (Ent × Value)} (h : EntsAt w S v l) (c : Chg T w w') (hd : ∀ k, S k → ¬ T k) : EntsAt w' S v l :=
  ⟨Rd.chg h.1 c hd, fun p hp => Rd.chg (h.2 p hp) c hd⟩
theorem doL_len {cl cap client op ttl now : Int} {l : List Kp} {ns : List Nm} : (doL cl cap l client op ttl now ns).length ≤ l.length + 16 := by
  unfold doL
  split
  · rename_i h
    have hp : Proper cl client op ttl now ns := of_decide_eq_true h.1
    have hlen : (withR l ns).length ≤ 16 := by rw [withR_len]; exact hp.l1
    rw [putAll_Q]
    have := putQ_len l (afterQ op client (now + ttl) (withR l ns))
    have e1 : (afterQ op client (now + ttl) (withR l ns)).length = (withR l ns).length := by simp [afterQ]
    omega
  · omega
/-- The model behind k calls, beside the list of calls. -/
structure MSt (w wr : World) (B b m : Nat) (cl cp : Int) (v : Value) (ps : List (Ent × Value)) (l : List Kp) (k : Nat) : Prop where
  mod : ModAt wr b m cl cp l
  few : l.length ≤ 16 * k
  nz : NZ l
  ents : EntsAt wr (fun i => B ≤ i) v ps
  ext : Ext w wr
  hm : m < B
  hb : b < B
  hw : w.heap.size ≤ m
  big : B ≤ wr.heap.size
theorem MSt.ext' {w wr w2 : World} {B b m : Nat} {cl cp : Int} {v : Value} {ps : List (Ent × Value)} {l : List Kp} {k : Nat} (h : MSt w wr B b m cl cp v ps l k) (x : Ext wr w2) : MSt w w2 B b m cl cp v ps l k :=
  ⟨h.mod.ext x, h.few, h.nz, h.ents.ext x, h.ext.trans x, h.hm, h.hb, h.hw, Nat.le_trans h.big x.size⟩
theorem MSt.up {w wr : World} {B b m : Nat} {cl cp : Int} {v : Value} {ps : List (Ent × Value)} {l : List Kp} {k : Nat} (h : MSt w wr B b m cl cp v ps l k) : MSt w wr B b m cl cp v ps l (k + 1) :=
  ⟨h.mod, by have := h.few; omega, h.nz, h.ents, h.ext, h.hm, h.hb, h.hw, h.big⟩
theorem MSt.turn {w wr w2 : World} {B b m : Nat} {cl cp client op ttl now : Int} {v : Value} {ps : List (Ent × Value)} {l : List Kp} {k : Nat} {ns : List Nm} (h : MSt w wr B b m cl cp v ps l k) (hm : ModAt w2 b m cl cp (doL cl cp l client op ttl now ns)) (c : Chg (· = m) wr w2) :
    MSt w w2 B b m cl cp v ps (doL cl cp l client op ttl now ns) (k + 1) :=
  ⟨hm, by have := h.few; have := doL_len (cl := cl) (cap := cp) (client := client) (op := op) (ttl := ttl) (now := now) (l := l) (ns := ns); omega, nz_do h.nz, h.ents.chgM c (fun i hi e => by have := h.hm; omega), h.ext.chg_new c (fun i hi => by have := h.hw; omega), h.hm, h.hb, h.hw, Nat.le_trans h.big c.size⟩
theorem small_keys {ns : List Nm} (h : Small ns) : ∀ n ∈ ns, n.k.size ≤ maxLen := fun n hn => by have := (h n hn).2.2.1; unfold maxLen; omega
theorem mst_start {w w2 w3 : World} {b m : Nat} {cl cp : Int} {v : Value} {ps : List (Ent × Value)} {Z : Nat} (hm : ModAt w2 b m cl cp []) (hx : Ext w w2) (hw : w.heap.size ≤ m) (hst : CSt w2 w3 v ps Z) : MSt w w3 w2.heap.size b m cl cp v ps [] 0 :=
  ⟨hm.ext hst.ext, by simp, by simp [NZ], hst.ents, hx.trans hst.ext, hm.map.lt, hm.lt, hw, hst.ext.size⟩
end Go.Proofs.Ytfbhbnolnjcaiaa
