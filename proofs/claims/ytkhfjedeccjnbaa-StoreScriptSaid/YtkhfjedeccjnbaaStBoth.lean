/-
  The plain law of two stores: the program's and the reference's Put do the same (26.3).
  Conditions: none.
-/
import Derived.Test.YtkhfjedeccjnbaaRPut
namespace Go.Proofs.Ytkhfjedeccjnbaa
open Go.RowKit Go.Sort
set_option maxHeartbeats 1000000

/-- The reference's list says of every key what the program's table holds for it. -/
def Cpl (n : Nat) (sl : Nat → Option ByteArray) (f : Nat → Rc) (log : List (ByteArray × Rc)) : Prop := ∀ key, Val rc0 n sl f key (logGet log key)
theorem cpl_start (n : Nat) : Cpl n (fun _ => none) (fun _ => rc0) [] := fun _ => .inr ⟨fun i h => by simpa [Has] using h.2, rfl⟩
theorem cpl_put {n : Nat} {sl : Nat → Option ByteArray} {f : Nat → Rc} {key : ByteArray} {r : Rc} {n' : Nat} {sl' : Nat → Option ByteArray} {f' : Nat → Rc} {log : List (ByteArray × Rc)} (h : PutHolds n sl f key r n' sl' f') (c : Cpl n sl f log) : Cpl n' sl' f' (log ++ [(key, r)]) := fun k => by
  have := put_val h (c k)
  rw [logGet_snoc]
  by_cases hk : k = key
  · rw [if_pos hk] at this; rw [if_pos (by exact hk.symm)]; exact this
  · rw [if_neg hk] at this; rw [if_neg (fun e => hk e.symm)]; exact this
theorem both_put {n : Nat} {sl : Nat → Option ByteArray} {f : Nat → Rc} {u : Int} {log : List (ByteArray × Rc)} (o : StOk n sl u) {key : ByteArray} (hk : key.size ≤ maxLen) {r : Rc} {code : Int} {n' : Nat} {sl' : Nat → Option ByteArray} {f' : Nat → Rc} {u' : Int} {code2 : Int} {n2 : Nat} {sl2 : Nat → Option ByteArray} {log2 : List (ByteArray × Rc)}
    (hp : PutSpec n sl f u key r code n' sl' f' u') (hr : RPutSpec n sl u log key r code2 n2 sl2 log2) (c : Cpl n sl f log) :
    code2 = code ∧ n2 = n' ∧ sl2 = sl' ∧ StOk n' sl' u' ∧ Cpl n' sl' f' log2 ∧ log2.length ≤ log.length + 1 := by
  obtain ⟨o', hlaw⟩ := put_law o hk hp
  have hadd : code = 0 → r.check = true → (∃ i, Has n sl key i) ∨ r.st ≠ 0 → Cpl n' sl' f' (log ++ [(key, r)]) := fun h0 _ _ => by
    rcases hlaw with ⟨_, _, h⟩ | ⟨h, _⟩
    · exact cpl_put h c
    · exact absurd h0 h
  have hlen : (log ++ [(key, r)]).length ≤ log.length + 1 := by simp
  rcases hp with ⟨h, rfl, rfl, rfl, rfl, rfl⟩ | ⟨hc, p, ok, hf, s⟩
  · rcases hr with ⟨_, rfl, rfl, rfl, rfl⟩ | ⟨hc, _⟩
    · exact ⟨rfl, rfl, rfl, o', c, by omega⟩
    · rw [h] at hc; simp at hc
  rcases hr with ⟨h, _⟩ | ⟨_, q⟩
  · rw [h] at hc; simp at hc
  have hyes : ok = true → Has n sl key p := fun h => by subst h; exact find_has hf
  have hno : ok = false → ∀ i, ¬ Has n sl key i := fun h i hi => by subst h; simpa using (o.tab.hit hi hf).1
  rcases s with ⟨h0, hok, rfl, rfl, rfl, s, hd, rfl, rfl⟩ | ⟨h0, hok, rfl, rfl, rfl, rfl, rfl⟩ | ⟨h0, hok, rfl, rfl, rfl, rfl, rfl⟩ | ⟨h0, hok, hfull, hmax, rfl, rfl, rfl, rfl, rfl⟩ | ⟨h0, hok, hfull, hmax, rfl, rfl, s1, f1, u1, x, hd, hx, rfl, rfl, rfl⟩ | ⟨h0, hok, hfull, rfl, rfl, rfl, rfl, rfl⟩
  · have hh := hyes hok
    rcases q with ⟨_, ⟨p2, hp2, s2, hd2, rfl⟩, rfl, rfl, rfl⟩ | ⟨_, h, _⟩ | ⟨h, _⟩ | ⟨h, _⟩ | ⟨h, _⟩ | ⟨h, _⟩
    · have e := o.tab.dis p2 p key hp2.1 hh.1 hp2.2 hh.2
      subst e
      exact ⟨rfl, rfl, (rmDone_same hd hd2).symm, o', hadd rfl hc (.inl ⟨_, hh⟩), hlen⟩
    · exact absurd hh (h p)
    · exact absurd h0 h
    · exact absurd h0 h
    · exact absurd h0 h
    · exact absurd h0 h
  · have hn := hno hok
    rcases q with ⟨_, ⟨p2, hp2, _⟩, _⟩ | ⟨_, _, rfl, rfl, rfl, rfl⟩ | ⟨h, _⟩ | ⟨h, _⟩ | ⟨h, _⟩ | ⟨h, _⟩
    · exact absurd hp2 (hn p2)
    · exact ⟨rfl, rfl, rfl, o', c, by omega⟩
    · exact absurd h0 h
    · exact absurd h0 h
    · exact absurd h0 h
    · exact absurd h0 h
  · have hh := hyes hok
    rcases q with ⟨h, _⟩ | ⟨h, _⟩ | ⟨_, _, rfl, rfl, rfl, rfl⟩ | ⟨_, h, _⟩ | ⟨_, h, _⟩ | ⟨_, h, _⟩
    · exact absurd h h0
    · exact absurd h h0
    · exact ⟨rfl, rfl, rfl, o', hadd rfl hc (.inr h0), hlen⟩
    · exact absurd hh (h p)
    · exact absurd hh (h p)
    · exact absurd hh (h p)
  · have hn := hno hok
    rcases q with ⟨h, _⟩ | ⟨h, _⟩ | ⟨_, ⟨p2, hp2⟩, _⟩ | ⟨_, _, _, _, rfl, rfl, rfl, rfl⟩ | ⟨_, _, _, h, _⟩ | ⟨_, _, h, _⟩
    · exact absurd h h0
    · exact absurd h h0
    · exact absurd hp2 (hn p2)
    · exact ⟨rfl, rfl, rfl, o', c, by omega⟩
    · omega
    · exact absurd hfull h
  · have hn := hno hok
    rcases q with ⟨h, _⟩ | ⟨h, _⟩ | ⟨_, ⟨p2, hp2⟩, _⟩ | ⟨_, _, _, h, _⟩ | ⟨_, _, _, _, rfl, rfl, rfl, s2, f2, u2, y, hd2, hy, rfl⟩ | ⟨_, _, h, _⟩
    · exact absurd h h0
    · exact absurd h h0
    · exact absurd hp2 (hn p2)
    · have := o.hi; omega
    · obtain ⟨rfl, _⟩ := dbl_same hd hd2
      obtain ⟨rfl, _⟩ := hx.same hy
      exact ⟨rfl, rfl, rfl, o', hadd rfl hc (.inr h0), hlen⟩
    · exact absurd hfull h
  · have hn := hno hok
    rcases q with ⟨h, _⟩ | ⟨h, _⟩ | ⟨_, ⟨p2, hp2⟩, _⟩ | ⟨_, _, h, _⟩ | ⟨_, _, h, _⟩ | ⟨_, _, _, rfl, rfl, rfl, y, hy, rfl⟩
    · exact absurd h h0
    · exact absurd h h0
    · exact absurd hp2 (hn p2)
    · exact absurd h hfull
    · exact absurd h hfull
    · obtain ⟨rfl, _⟩ := hf.same hy
      exact ⟨rfl, rfl, rfl, o', hadd rfl hc (.inr h0), hlen⟩
end Go.Proofs.Ytkhfjedeccjnbaa
