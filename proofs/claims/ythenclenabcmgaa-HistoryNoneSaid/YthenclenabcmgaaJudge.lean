/-
  The plain law of an operation (28.2): what is permitted, what is answered, and which records there are afterwards.
  Conditions: none.
-/
import Derived.Test.YthenclenabcmgaaGround
import Derived.Test.YthenclenabcmgaaRecord
import Derived.Test.YthenclenabcmgaaRecord2
import Derived.Test.YthenclenabcmgaaNames
namespace Go.Proofs.Ythenclenabcmgaa

def goodN (n : Nm) : Bool := decide (1 ≤ n.a.size) && decide (n.a.size ≤ 63)
/-- What Do demands of its arguments. -/
structure Proper (cl client op ttl now : Int) (ns : List Nm) : Prop where
  c0 : 0 ≤ client
  c1 : client < cl
  o0 : 1 ≤ op
  o1 : op ≤ 7
  n0 : 0 ≤ now
  n1 : now ≤ 1073741824
  t1 : timedB op = true → 1 ≤ ttl ∧ ttl ≤ 1073741824
  t0 : timedB op = false → ttl = 0
  l0 : 1 ≤ ns.length
  l1 : ns.length ≤ 16
  q : op = 7 → ns.length ≤ 1
  srt : srt ns = true
  good : ns.all goodN = true
instance (cl client op ttl now : Int) (ns : List Nm) : Decidable (Proper cl client op ttl now ns) :=
  decidable_of_iff (0 ≤ client ∧ client < cl ∧ 1 ≤ op ∧ op ≤ 7 ∧ 0 ≤ now ∧ now ≤ 1073741824 ∧ (timedB op = true → 1 ≤ ttl ∧ ttl ≤ 1073741824) ∧ (timedB op = false → ttl = 0) ∧ 1 ≤ ns.length ∧ ns.length ≤ 16 ∧ (op = 7 → ns.length ≤ 1) ∧ srt ns = true ∧ ns.all goodN = true)
    ⟨fun ⟨a, b, c, d, e, f, g, h, i, j, k, l, m⟩ => ⟨a, b, c, d, e, f, g, h, i, j, k, l, m⟩, fun ⟨a, b, c, d, e, f, g, h, i, j, k, l, m⟩ => ⟨a, b, c, d, e, f, g, h, i, j, k, l, m⟩⟩
def properB (cl client op ttl now : Int) (ns : List Nm) : Bool := decide (Proper cl client op ttl now ns)
/-- An answer. -/
structure Resp where
  e : Int
  at_ : Int
  nm : ByteArray
  rc : Rc
  tick : Int
def rcV (r : Rc) : Value := .agg #[.int .i64 r.st, .int .i64 r.ow, .string r.nm, .int .i64 r.dl]
def respV (r : Resp) : Value := .agg #[.int .i64 r.e, .int .i64 r.at_, .string r.nm, .int .i64 r.rc.st, .int .i64 r.rc.ow, .string r.rc.nm, .int .i64 r.rc.dl, .int .i64 r.tick]
def oneE (cap op client now count : Int) (r : Rc) : Int :=
  if testE r.st r.ow r.dl op client now = 0 ∧ 0 < growsI r.st op ∧ cap ≤ count then 7 else testE r.st r.ow r.dl op client now
def nextC (op count : Int) (r : Rc) : Int := if 0 < growsI r.st op then count + 1 else count
def judgeGo (cap op client now : Int) : Nat → Int → List (Nm × Rc) → Option (Int × Nat × ByteArray)
  | _, _, [] => none
  | i, count, p :: l => if oneE cap op client now count p.2 = 0 then judgeGo cap op client now (i + 1) (nextC op count p.2) l else some (oneE cap op client now count p.2, i, p.1.a)
def judgeR (cap op client ttl now count : Int) (ps : List (Nm × Rc)) : Resp :=
  if timedB op = true ∧ 1073741824 - now < ttl then ⟨8, -1, ⟨#[]⟩, default, now⟩ else
  match judgeGo cap op client now 0 count ps with
  | some (e, i, n) => ⟨e, i, n, default, now⟩
  | none => ⟨0, -1, ⟨#[]⟩, match ps with | [] => default | p :: _ => if op = 7 ∧ liveB p.2.st p.2.dl now = true then p.2 else default, now⟩
def afterR (op client dl : Int) (n : Nm) (r : Rc) : Rc := ⟨afSt r.st op, afOw r.ow op client, afNm r.nm op n.a, afDl r.dl op dl⟩
def putAll (op client dl : Int) (l : List Kp) (ps : List (Nm × Rc)) : List Kp := ps.foldl (fun l p => putK l p.1.k (afterR op client dl p.1 p.2)) l
def withR (l : List Kp) (ns : List Nm) : List (Nm × Rc) := ns.map fun n => (n, getK l n.k)
/-- Do (28.2). -/
def doR (cl cap : Int) (l : List Kp) (client op ttl now : Int) (ns : List Nm) : Resp :=
  if properB cl client op ttl now ns = true then judgeR cap op client ttl now l.length (withR l ns) else ⟨1, -1, ⟨#[]⟩, default, 0⟩
def doL (cl cap : Int) (l : List Kp) (client op ttl now : Int) (ns : List Nm) : List Kp :=
  if properB cl client op ttl now ns = true ∧ (judgeR cap op client ttl now l.length (withR l ns)).e = 0 then putAll op client (now + ttl) l (withR l ns) else l
theorem withR_len (l : List Kp) (ns : List Nm) : (withR l ns).length = ns.length := by simp [withR]
theorem withR_at {l : List Kp} {ns : List Nm} {i : Nat} {n : Nm} (h : ns[i]? = some n) : (withR l ns)[i]? = some (n, getK l n.k) := by simp [withR, h]
theorem drop_at {α : Type} {l : List α} {i : Nat} {x : α} (h : l[i]? = some x) : l.drop i = x :: l.drop (i + 1) := by
  obtain ⟨hi, rfl⟩ := List.getElem?_eq_some_iff.1 h
  exact List.drop_eq_getElem_cons hi
theorem take_at {α : Type} {l : List α} {i : Nat} {x : α} (h : l[i]? = some x) : l.take (i + 1) = l.take i ++ [x] := by rw [List.take_add_one, h]; rfl
/-- How many records there are after some names. -/
def countTo (op : Int) (count : Int) (ps : List (Nm × Rc)) : Int := ps.foldl (fun c p => nextC op c p.2) count
theorem countTo_bd (op count : Int) (ps : List (Nm × Rc)) : count ≤ countTo op count ps ∧ countTo op count ps ≤ count + ps.length := by
  induction ps generalizing count with
  | nil => simp [countTo]
  | cons p ps ih =>
    have := ih (nextC op count p.2)
    have e : countTo op count (p :: ps) = countTo op (nextC op count p.2) ps := rfl
    have hn : nextC op count p.2 = count ∨ nextC op count p.2 = count + 1 := by unfold nextC; split <;> simp
    rw [e]
    simp only [List.length_cons]
    omega
theorem countTo_snoc (op count : Int) (ps : List (Nm × Rc)) (p : Nm × Rc) : countTo op count (ps ++ [p]) = nextC op (countTo op count ps) p.2 := by simp [countTo, List.foldl_append]
theorem after_dl {op client d d' : Int} (h : timedB op = true → d = d') (n : Nm) (r : Rc) : afterR op client d n r = afterR op client d' n r := by
  unfold afterR
  have : afDl r.dl op d = afDl r.dl op d' := by
    unfold afDl
    by_cases h1 : op = 1
    · rw [if_pos h1, if_pos h1, h (by simp [timedB, h1])]
    · rw [if_neg h1, if_neg h1]
      by_cases h2 : op = 2
      · rw [if_pos h2, if_pos h2]
      · rw [if_neg h2, if_neg h2]
        by_cases h3 : op = 3
        · rw [if_pos h3, if_pos h3, h (by simp [timedB, h3])]
        · rw [if_neg h3, if_neg h3]
  rw [this]
theorem growsI_cases (st op : Int) : growsI st op = 1 ∨ growsI st op = 0 ∨ growsI st op = -1 := by by_cases h1 : op = 1 <;> by_cases h2 : st = 0 <;> by_cases h3 : op = 4 ∨ op = 5 ∨ op = 6 <;> simp [growsI, h1, h2, h3]
/-- The walk through the names has come to i, and nothing was wrong. -/
structure JudgeTo (cap op client now count : Int) (ps : List (Nm × Rc)) (i : Nat) (c : Int) : Prop where
  le : i ≤ ps.length
  cnt : c = countTo op count (ps.take i)
  go : judgeGo cap op client now 0 count ps = judgeGo cap op client now i c (ps.drop i)
theorem JudgeTo.start (cap op client now count : Int) (ps : List (Nm × Rc)) : JudgeTo cap op client now count ps 0 count := ⟨Nat.zero_le _, rfl, rfl⟩
theorem JudgeTo.bd {cap op client now count c : Int} {ps : List (Nm × Rc)} {i : Nat} (h : JudgeTo cap op client now count ps i c) : count ≤ c ∧ c ≤ count + i := by
  have := countTo_bd op count (ps.take i)
  rw [← h.cnt, List.length_take] at this
  omega
theorem JudgeTo.next {cap op client now count c : Int} {ps : List (Nm × Rc)} {i : Nat} {p : Nm × Rc} (h : JudgeTo cap op client now count ps i c) (hp : ps[i]? = some p) (h0 : oneE cap op client now c p.2 = 0) :
    JudgeTo cap op client now count ps (i + 1) (nextC op c p.2) := by
  have hi := (List.getElem?_eq_some_iff.1 hp).1
  refine ⟨hi, ?_, ?_⟩
  · rw [take_at hp, countTo_snoc, ← h.cnt]
  · rw [h.go, drop_at hp, judgeGo, if_pos h0]
theorem JudgeTo.stop {cap op client now count c : Int} {ps : List (Nm × Rc)} {i : Nat} {p : Nm × Rc} (h : JudgeTo cap op client now count ps i c) (hp : ps[i]? = some p) (h0 : oneE cap op client now c p.2 ≠ 0) :
    judgeGo cap op client now 0 count ps = some (oneE cap op client now c p.2, i, p.1.a) := by
  rw [h.go, drop_at hp, judgeGo, if_neg h0]
theorem JudgeTo.done {cap op client now count c : Int} {ps : List (Nm × Rc)} (h : JudgeTo cap op client now count ps ps.length c) : judgeGo cap op client now 0 count ps = none := by
  rw [h.go, List.drop_length, judgeGo]
end Go.Proofs.Ythenclenabcmgaa
