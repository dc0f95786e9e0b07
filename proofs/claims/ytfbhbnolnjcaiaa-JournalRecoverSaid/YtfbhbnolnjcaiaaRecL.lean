/-
  The plain law of Recover (33.5): the entries of a journal, performed one after the other.
  Conditions: none.
-/
import Derived.Test.YtfbhbnolnjcaiaaDoLaw
import Derived.Test.YtfbhbnolnjcaiaaApp
import Derived.Test.YtfbhbnolnjcaiaaMKeys
namespace Go.Proofs.Ytfbhbnolnjcaiaa
open Go.RowKit Go.Sort

def recGo (cl cp : Int) : Int → List Kp → List Ent → Option (List Kp × Int)
  | t, l, [] => some (l, t)
  | t, l, e :: es => if e.tick < t ∨ (doR cl cp l e.cl e.op e.ttl e.tick e.names).e ≠ 0 then none else recGo cl cp e.tick (doL cl cp l e.cl e.op e.ttl e.tick e.names) es
theorem recGo_stop {cl cp t : Int} {l : List Kp} {e : Ent} {es : List Ent} (h : e.tick < t ∨ (doR cl cp l e.cl e.op e.ttl e.tick e.names).e ≠ 0) : recGo cl cp t l (e :: es) = none := by rw [recGo, if_pos h]
theorem recGo_go {cl cp t : Int} {l : List Kp} {e : Ent} {es : List Ent} (h1 : ¬ e.tick < t) (h2 : (doR cl cp l e.cl e.op e.ttl e.tick e.names).e = 0) : recGo cl cp t l (e :: es) = recGo cl cp e.tick (doL cl cp l e.cl e.op e.ttl e.tick e.names) es := by
  rw [recGo, if_neg]
  rintro (h | h)
  · exact h1 h
  · exact h h2
theorem readF_enc : ∀ (k : Nat) (s : List UInt8), ∀ e ∈ (readF k s).1, (encE e).1 = 0
  | 0, _, e, h => by simp [readF] at h
  | k + 1, s, e, h => by
    rw [readF] at h
    cases hp : firstP s with
    | none => rw [hp] at h; simp at h
    | some p =>
      obtain ⟨e', n⟩ := p
      rw [hp] at h
      simp only [List.mem_cons] at h
      rcases h with rfl | h
      · obtain ⟨x, hx, _⟩ := firstP_of hp
        rw [hx]
      · exact readF_enc k _ e h
/-- The keys of entries that were read are short. -/
theorem read_keys {s : List UInt8} {e : Ent} (h : e ∈ (readJ s).1) : ∀ n ∈ e.names, n.k.size ≤ maxLen := by
  intro n hn
  have h0 := readF_enc _ _ e h
  obtain ⟨x, hx⟩ : ∃ x, encE e = (0, x) := ⟨(encE e).2, by rw [← h0]⟩
  have := ((enc_fits hx).1.names n hn).2.2
  unfold maxLen
  omega
theorem results_tmp4 {fn : Func} {t u v x : Tmp} (h : fn.results = #[.tmp t, .tmp u, .tmp v, .tmp x]) (tmps : Array Value) (P : Program) (w : World) :
    (results fn tmps).run P w = .ok (.tuple #[tmps.getD t undef, tmps.getD u undef, tmps.getD v undef, tmps.getD x undef]) w := by
  simp [results, h]
/-- What both Recover return. -/
def RecovPost (cl cp : Int) (s : ByteArray) (w : World) (x : Ending) (w' : World) : Prop :=
  Ext w w' ∧ ((confE cl cp = 3 ∧ x = .returned (.tuple #[.slice none 0 0, .slice none 0 0, .int .i64 0, .int .i64 3])) ∨
   (confE cl cp = 0 ∧ recGo cl cp 0 [] (readJ s.data.toList).1 = none ∧ x = .returned (.tuple #[.slice none 0 0, .slice none 0 0, .int .i64 0, .int .i64 26])) ∨
   (confE cl cp = 0 ∧ ∃ l t kv rv, recGo cl cp 0 [] (readJ s.data.toList).1 = some (l, t) ∧ x = .returned (.tuple #[kv, rv, .int .i64 t, .int .i64 0]) ∧ Rd w' (fun k => w.heap.size ≤ k) 1 kv l.length ((keysL l).map encStr) ∧ Rd w' (fun k => w.heap.size ≤ k) 4 rv l.length (flatR (l.map Prod.snd))))
end Go.Proofs.Ytfbhbnolnjcaiaa
