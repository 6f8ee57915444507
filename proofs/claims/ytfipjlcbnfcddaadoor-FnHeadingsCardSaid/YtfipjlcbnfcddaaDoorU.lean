/-
  Plain laws on bytes: letters, digits, numbers, a text's pieces between blanks; no program in sight.
-/
import Derived.Lib.SplitLaws
import Derived.Lib.ParseIntB
import Derived.Lib.IndexLaws
namespace Go.Proofs.YtfipjlcbnfcddaaDoor.U
open Go
set_option linter.unusedVariables false
set_option linter.unusedSimpArgs false

/-- All bytes are capitals. -/
def capsB (l : List UInt8) : Bool := l.all fun c => decide (65 ≤ c.toNat ∧ c.toNat ≤ 90)
/-- All bytes are digits, and there is one. -/
def digsB (l : List UInt8) : Bool := decide (0 < l.length) && l.all fun c => decide (48 ≤ c.toNat ∧ c.toNat ≤ 57)
/-- The number of digits. -/
def numA (acc : Int) : List UInt8 → Int
  | [] => acc
  | c :: r => numA (acc * 10 + ((c.toNat : Int) - 48)) r
def num (l : List UInt8) : Int := numA 0 l

theorem numA_bound (l : List UInt8) : ∀ acc : Int, 0 ≤ acc → (∀ c ∈ l, 48 ≤ c.toNat ∧ c.toNat ≤ 57) → 0 ≤ numA acc l ∧ numA acc l < (acc + 1) * 10 ^ l.length := by
  induction l with
  | nil => intro acc h _; simp [numA]; omega
  | cons c r ih =>
    intro acc h hd
    have hc := hd c (List.mem_cons_self)
    have hr := ih (acc * 10 + ((c.toNat : Int) - 48)) (by omega) (fun x hx => hd x (List.mem_cons_of_mem _ hx))
    refine ⟨hr.1, Int.lt_of_lt_of_le hr.2 ?_⟩
    rw [List.length_cons, Int.pow_succ]
    have h10 : (0 : Int) ≤ 10 ^ r.length := Int.pow_nonneg (by omega)
    calc (acc * 10 + ((c.toNat : Int) - 48) + 1) * 10 ^ r.length ≤ ((acc + 1) * 10) * 10 ^ r.length := Int.mul_le_mul_of_nonneg_right (by omega) h10
      _ = (acc + 1) * (10 ^ r.length * 10) := by rw [Int.mul_assoc, Int.mul_comm 10]
theorem digs_mem {l : List UInt8} (h : digsB l = true) : ∀ c ∈ l, 48 ≤ c.toNat ∧ c.toNat ≤ 57 := by
  unfold digsB at h
  rw [Bool.and_eq_true, List.all_eq_true] at h
  exact fun c hc => of_decide_eq_true (h.2 c hc)
theorem digs_pos {l : List UInt8} (h : digsB l = true) : 0 < l.length := by
  unfold digsB at h
  rw [Bool.and_eq_true] at h
  exact of_decide_eq_true h.1
theorem num_bound {l : List UInt8} (h : digsB l = true) : 0 ≤ num l ∧ num l < 10 ^ l.length := by
  have := numA_bound l 0 (by omega) (digs_mem h)
  simpa [num] using this

theorem parse_digits (l : List UInt8) : ∀ acc : Nat, (∀ c ∈ l, 48 ≤ c.toNat ∧ c.toNat ≤ 57) → (acc + 1) * 10 ^ l.length ≤ 10 ^ 18 → Lib.parseUintM (2 ^ 64 - 1) acc l = .ok (numA acc l).toNat := by
  induction l with
  | nil => intro acc _ _; simp [Lib.parseUintM, numA]
  | cons c r ih =>
    intro acc hd hb
    have hc := hd c (List.mem_cons_self)
    rw [List.length_cons, Nat.pow_succ] at hb
    have hp : 0 < 10 ^ r.length := Nat.pow_pos (by omega)
    have h1 : (acc + 1) * 10 ≤ 10 ^ 18 := by
      refine Nat.le_trans ?_ hb
      rw [← Nat.mul_assoc, Nat.mul_right_comm]
      exact Nat.le_mul_of_pos_right _ hp
    have e : ((acc * 10 + (c.toNat - 48) : Nat) : Int) = (acc : Int) * 10 + ((c.toNat : Int) - 48) := by omega
    unfold Lib.parseUintM numA
    rw [if_pos hc, if_neg (by omega), if_neg (by omega), ih _ (fun x hx => hd x (List.mem_cons_of_mem _ hx)) ?_, e]
    refine Nat.le_trans ?_ hb
    rw [Nat.mul_comm (10 ^ r.length), ← Nat.mul_assoc]
    exact Nat.mul_le_mul_right _ (by omega)
/-- At most 18 digits: strconv.ParseInt gives their number. -/
theorem parse_of_digits {l : List UInt8} (h : digsB l = true) (hl : l.length ≤ 18) : Lib.parseIntB 64 l = .ok (num l) := by
  have hp := digs_pos h
  have hm := digs_mem h
  have hb := num_bound h
  cases l with
  | nil => simp at hp
  | cons c r =>
    have hc := hm c (List.mem_cons_self)
    have h18 : 10 ^ (c :: r).length ≤ 10 ^ 18 := Nat.pow_le_pow_right (by omega) hl
    have hu : Lib.parseUintB 64 (c :: r) = .ok (num (c :: r)).toNat := by
      unfold Lib.parseUintB
      rw [if_neg (by simp)]
      exact parse_digits (c :: r) 0 hm (by simpa using h18)
    have h18' : ((10 ^ (c :: r).length : Nat) : Int) ≤ ((10 ^ 18 : Nat) : Int) := by exact_mod_cast h18
    have hn : num (c :: r) < ((10 ^ 18 : Nat) : Int) := by
      refine Int.lt_of_lt_of_le hb.2 ?_
      have e : (10 : Int) ^ (c :: r).length = ((10 ^ (c :: r).length : Nat) : Int) := by rw [Int.natCast_pow]; rfl
      rw [e]
      exact h18'
    unfold Lib.parseIntB
    simp only
    rw [if_neg (by omega), hu]
    simp only
    rw [if_neg (by omega), if_neg (by omega), if_neg (by omega)]
    congr 1
    omega

/-- A place of a bulletin: a capital, then three capitals or digits. -/
def centreB : List UInt8 → Bool
  | [a, b, c, d] => capsB [a] && (capsB [b] || digsB [b]) && (capsB [c] || digsB [c]) && (capsB [d] || digsB [d])
  | _ => false
/-- A mark's kind and number. -/
def markB : List UInt8 → Int × Int
  | [] => (0, 0)
  | [a, b, c] => if capsB [a, b, c] = true then
      if a.toNat = 80 then (4, ((b.toNat : Int) - 65) * 26 + ((c.toNat : Int) - 65) + 1)
      else if a.toNat = b.toNat ∧ c.toNat ≤ 88 then
        if a.toNat = 82 then (1, (c.toNat : Int) - 64) else if a.toNat = 67 then (2, (c.toNat : Int) - 64) else if a.toNat = 65 then (3, (c.toNat : Int) - 64) else (-1, 0)
      else (-1, 0)
    else (-1, 0)
  | _ => (-1, 0)

/-! ### a text's pieces -/
/-- What stands between the bytes c. -/
def pieces (c : UInt8) : List UInt8 → List (List UInt8)
  | [] => [[]]
  | b :: r => if b = c then [] :: pieces c r else match pieces c r with
    | p :: ps => (b :: p) :: ps
    | [] => [[b]]
theorem pieces_ne (c : UInt8) (l : List UInt8) : pieces c l ≠ [] := by
  cases l with
  | nil => simp [pieces]
  | cons b r =>
    unfold pieces
    split
    · simp
    · cases pieces c r <;> simp
theorem pieces_hit (c : UInt8) (r : List UInt8) : pieces c (c :: r) = [] :: pieces c r := by
  rw [pieces, if_pos rfl]
theorem pieces_miss {b c : UInt8} {r : List UInt8} (h : b ≠ c) {p : List UInt8} {ps : List (List UInt8)} (hp : pieces c r = p :: ps) : pieces c (b :: r) = (b :: p) :: ps := by
  rw [pieces, if_neg h, hp]
theorem pieces_none (c : UInt8) : ∀ l : List UInt8, l.count c = 0 → pieces c l = [l]
  | [], _ => rfl
  | b :: r, h => by
    have hb : b ≠ c := by
      rintro rfl
      simp at h
    have hr : r.count c = 0 := by rwa [List.count_cons_of_ne (by simpa using hb)] at h
    unfold pieces
    rw [if_neg hb, pieces_none c r hr]
theorem index_eq (c : UInt8) (r : List UInt8) : Lib.index (c :: r) [c] = 0 := by rw [Lib.index]; simp [List.isPrefixOf]
theorem index_ne {b c : UInt8} (r : List UInt8) (h : b ≠ c) : Lib.index (b :: r) [c] = if Lib.index r [c] = -1 then -1 else Lib.index r [c] + 1 := by
  rw [Lib.index_one, Lib.index_one]
  rw [Lib.indexByte]
  simp [h]
theorem index_ge (c : UInt8) : ∀ r : List UInt8, -1 ≤ Lib.index r [c]
  | [] => by simp [Lib.index]
  | b :: r => by
    by_cases h : b = c
    · subst h; rw [index_eq]; omega
    · rw [index_ne r h]
      have := index_ge c r
      split <;> omega
theorem index_none {c : UInt8} : ∀ {r : List UInt8}, Lib.index r [c] = -1 → r.count c = 0
  | [], _ => rfl
  | b :: r, h => by
    by_cases hb : b = c
    · subst hb; rw [index_eq] at h; omega
    · rw [index_ne r hb] at h
      have := index_ge c r
      rw [List.count_cons_of_ne (by simpa using hb)]
      refine index_none ?_
      by_cases hi : Lib.index r [c] = -1
      · exact hi
      · rw [if_neg hi] at h; omega
theorem splitK_pieces (c : UInt8) : ∀ (l : List UInt8) (k : Nat), l.count c ≤ k → Lib.splitK [c] 0 k l = pieces c l
  | [], k, _ => by
    cases k with
    | zero => rfl
    | succ k => unfold Lib.splitK; simp [Lib.index, pieces]
  | b :: r, k, h => by
    cases k with
    | zero =>
      unfold Lib.splitK
      rw [pieces_none c _ (by omega)]
    | succ k =>
      by_cases hb : b = c
      · subst hb
        unfold Lib.splitK pieces
        rw [index_eq, if_neg (by decide), if_pos rfl]
        rw [List.count_cons_self] at h
        have ih := splitK_pieces b r k (by omega)
        simp [ih]
      · rw [List.count_cons_of_ne (by simpa using hb)] at h
        have ih := splitK_pieces c r (k + 1) h
        unfold Lib.splitK at ih
        unfold Lib.splitK pieces
        rw [if_neg hb, ← ih, index_ne r hb]
        by_cases hi : Lib.index r [c] = -1
        · rw [hi]
          simp
        · have hg := index_ge c r
          have e : (Lib.index r [c] + 1).toNat = (Lib.index r [c]).toNat + 1 := by omega
          have e1 : ¬ (Lib.index r [c] == -1) = true := by simpa using hi
          have e2 : ¬ (Lib.index r [c] + 1 == -1) = true := by
            intro h0
            have := beq_iff_eq.1 h0
            omega
          rw [if_neg hi, if_neg e1, if_neg e2, e]
          simp [Nat.add_right_comm]

theorem ba_ext {s t : ByteArray} (h : s.data.toList = t.data.toList) : s = t := by
  obtain ⟨⟨l⟩⟩ := s
  obtain ⟨⟨m⟩⟩ := t
  simpa using h
theorem map_ba {l m : List ByteArray} (h : l.map (·.data.toList) = m.map (·.data.toList)) : l = m := by
  induction l generalizing m with
  | nil => cases m <;> simp_all
  | cons a r ih =>
    cases m with
    | nil => simp at h
    | cons b q =>
      rw [List.map_cons, List.map_cons, List.cons.injEq] at h
      rw [ba_ext h.1, ih h.2]
/-- A text's pieces, as texts. -/
def piecesB (c : UInt8) (s : ByteArray) : List ByteArray := (pieces c s.data.toList).map fun l => ⟨l.toArray⟩
theorem piecesB_data (c : UInt8) (s : ByteArray) : (piecesB c s).map (·.data.toList) = pieces c s.data.toList := by
  unfold piecesB
  rw [List.map_map]
  conv => rhs; rw [← List.map_id (pieces c s.data.toList)]
  congr 1
theorem splitB_pieces (c : UInt8) (s : ByteArray) : Lib.splitB ⟨#[c]⟩ 0 (Lib.countB s ⟨#[c]⟩) s = piecesB c s := by
  apply map_ba
  rw [Lib.splitB_data, piecesB_data]
  refine splitK_pieces c _ _ ?_
  have : Lib.countB s ⟨#[c]⟩ = s.data.toList.count c := Lib.count_one c s.data.toList
  omega
theorem countB_pieces (c : UInt8) (s : ByteArray) : Lib.countB s ⟨#[c]⟩ + 1 = (piecesB c s).length := by
  rw [← splitB_pieces]
  exact (Lib.splitB_all ⟨#[c]⟩ (by simp [ByteArray.size]) 0 _ s rfl).symm

/-! ### a heading -/
structure Hd where
  kind : ByteArray
  area : ByteArray
  no : Int
  centre : ByteArray
  day : Int
  hour : Int
  minute : Int
  mark : ByteArray
def Hd.nil : Hd := ⟨⟨#[]⟩, ⟨#[]⟩, 0, ⟨#[]⟩, 0, 0, 0, ⟨#[]⟩⟩
def at_ (p : List ByteArray) (i : Nat) : ByteArray := p.getD i ByteArray.empty
def capK (s : ByteArray) (n : Int) : Bool := capsB s.data.toList && ((s.size : Int) == n)
def capL (s : ByteArray) : Bool := capsB s.data.toList
def digK (s : ByteArray) : Bool := digsB s.data.toList
def cenK (s : ByteArray) : Bool := centreB s.data.toList
def numK (s : ByteArray) : Int := num s.data.toList
def markK (s : ByteArray) : Int := (markB s.data.toList).1
def markN (s : ByteArray) : Int := (markB s.data.toList).2
def kindOk (a : ByteArray) : Bool := decide (a.size = 6) && capK (a.extract 0 4) 4 && digK (a.extract 4 a.size)
def timeOk (c : ByteArray) : Bool := decide (c.size = 6) && digK c
def head0 (p : List ByteArray) : Hd := ⟨(at_ p 0).extract 0 2, (at_ p 0).extract 2 4, numK ((at_ p 0).extract 4 (at_ p 0).size), at_ p 1, numK ((at_ p 2).extract 0 2), numK ((at_ p 2).extract 2 4), numK ((at_ p 2).extract 4 (at_ p 2).size), ⟨#[]⟩⟩
def dayOk (h : Hd) : Bool := decide (1 ≤ h.day ∧ h.day ≤ 31 ∧ h.hour ≤ 23 ∧ h.minute ≤ 59)
/-- What a heading's pieces are read as; and a code. -/
def readHead (p : List ByteArray) : Hd × Int :=
  if p.length ≠ 3 ∧ p.length ≠ 4 then (Hd.nil, 1)
  else if (p.any fun x => x.size == 0) = true then (Hd.nil, 1)
  else if kindOk (at_ p 0) = false then (Hd.nil, 2)
  else if cenK (at_ p 1) = false then (Hd.nil, 3)
  else if timeOk (at_ p 2) = false then (Hd.nil, 4)
  else if dayOk (head0 p) = false then (Hd.nil, 4)
  else if p.length = 4 then
    if markK (at_ p 3) = -1 then (Hd.nil, 5) else ({ head0 p with mark := at_ p 3 }, 0)
  else (head0 p, 0)
theorem not_t {b : Bool} (h : (!b) = true) : b = false := by cases b <;> simp_all
theorem not_f {b : Bool} (h : (!b) = false) : b = true := by cases b <;> simp_all
theorem kind_no1 {a : ByteArray} (h : ¬ (a.size : Int) = 6) : kindOk a = false := by unfold kindOk; rw [decide_eq_false (by omega)]; rfl
theorem kind_no2 {a : ByteArray} (h : ¬ capK (a.extract 0 4) 4 = true) : kindOk a = false := by unfold kindOk; rw [Bool.eq_false_iff.2 h]; simp
theorem kind_no3 {a : ByteArray} (h : (!digK (a.extract 4 a.size)) = true) : kindOk a = false := by unfold kindOk; rw [not_t h]; simp
theorem kind_yes {a : ByteArray} (h1 : (a.size : Int) = 6) (h2 : capK (a.extract 0 4) 4 = true) (h3 : (!digK (a.extract 4 a.size)) = false) : kindOk a = true := by
  unfold kindOk
  rw [decide_eq_true (by omega), h2, not_f h3]
  rfl
theorem size_of_ne {a : ByteArray} (h : a.toList.isEmpty = false) : (a.size == 0) = false := by
  rw [Lib.toList_data] at h
  rw [beq_eq_false_iff_ne]
  intro h0
  have : a.data.toList = [] := List.length_eq_zero_iff.1 (by rw [Array.length_toList]; exact h0)
  rw [this] at h
  cases h
theorem size_of_nil {a : ByteArray} (h : a.toList.isEmpty = true) : (a.size == 0) = true := by
  rw [Lib.toList_data] at h
  rw [beq_iff_eq]
  have : a.data.toList = [] := List.isEmpty_iff.1 h
  show a.data.size = 0
  rw [← Array.length_toList, this]
  rfl
theorem rh_empty {p : List ByteArray} (hl : p.length = 3 ∨ p.length = 4) {a : ByteArray} (hm : a ∈ p) (h : a.toList.isEmpty = true) : readHead p = (Hd.nil, 1) := by
  unfold readHead
  rw [if_neg (by omega), if_pos (List.any_eq_true.2 ⟨a, hm, size_of_nil h⟩)]
theorem rh_full {p : List ByteArray} (hl : p.length = 3 ∨ p.length = 4) (h : ∀ a ∈ p, a.toList.isEmpty = false) : readHead p =
    if kindOk (at_ p 0) = false then (Hd.nil, 2)
    else if cenK (at_ p 1) = false then (Hd.nil, 3)
    else if timeOk (at_ p 2) = false then (Hd.nil, 4)
    else if dayOk (head0 p) = false then (Hd.nil, 4)
    else if p.length = 4 then
      if markK (at_ p 3) = -1 then (Hd.nil, 5) else ({ head0 p with mark := at_ p 3 }, 0)
    else (head0 p, 0) := by
  unfold readHead
  rw [if_neg (by omega), if_neg]
  intro h0
  obtain ⟨x, hx, h1⟩ := List.any_eq_true.1 h0
  rw [size_of_ne (h x hx)] at h1
  cases h1
theorem rh2 {p : List ByteArray} (hl : p.length = 3 ∨ p.length = 4) (h : ∀ a ∈ p, a.toList.isEmpty = false) (hk : kindOk (at_ p 0) = false) : readHead p = (Hd.nil, 2) := by
  rw [rh_full hl h, if_pos hk]
theorem rh3 {p : List ByteArray} (hl : p.length = 3 ∨ p.length = 4) (h : ∀ a ∈ p, a.toList.isEmpty = false) (hk : kindOk (at_ p 0) = true) (hc : (!cenK (at_ p 1)) = true) : readHead p = (Hd.nil, 3) := by
  rw [rh_full hl h, if_neg (by rw [hk]; decide), if_pos (not_t hc)]
theorem time_no1 {c : ByteArray} (h : ¬ (c.size : Int) = 6) : timeOk c = false := by unfold timeOk; rw [decide_eq_false (by omega)]; rfl
theorem time_no2 {c : ByteArray} (h : (!digK c) = true) : timeOk c = false := by unfold timeOk; rw [not_t h]; simp
theorem time_yes {c : ByteArray} (h1 : (c.size : Int) = 6) (h2 : (!digK c) = false) : timeOk c = true := by
  unfold timeOk
  rw [decide_eq_true (by omega), not_f h2]
  rfl
theorem rh4 {p : List ByteArray} (hl : p.length = 3 ∨ p.length = 4) (h : ∀ a ∈ p, a.toList.isEmpty = false) (hk : kindOk (at_ p 0) = true) (hc : (!cenK (at_ p 1)) = false) (ht : timeOk (at_ p 2) = false) : readHead p = (Hd.nil, 4) := by
  rw [rh_full hl h, if_neg (by rw [hk]; decide), if_neg (by rw [not_f hc]; decide), if_pos ht]
theorem rh4d {p : List ByteArray} (hl : p.length = 3 ∨ p.length = 4) (h : ∀ a ∈ p, a.toList.isEmpty = false) (hk : kindOk (at_ p 0) = true) (hc : (!cenK (at_ p 1)) = false) (ht : timeOk (at_ p 2) = true) (hd : dayOk (head0 p) = false) : readHead p = (Hd.nil, 4) := by
  rw [rh_full hl h, if_neg (by rw [hk]; decide), if_neg (by rw [not_f hc]; decide), if_neg (by rw [ht]; decide), if_pos hd]
theorem rh0 {p : List ByteArray} (hl : p.length = 3) (h : ∀ a ∈ p, a.toList.isEmpty = false) (hk : kindOk (at_ p 0) = true) (hc : (!cenK (at_ p 1)) = false) (ht : timeOk (at_ p 2) = true) (hd : dayOk (head0 p) = true) : readHead p = (head0 p, 0) := by
  rw [rh_full (.inl hl) h, if_neg (by rw [hk]; decide), if_neg (by rw [not_f hc]; decide), if_neg (by rw [ht]; decide), if_neg (by rw [hd]; decide), if_neg (by omega)]
theorem rh5 {p : List ByteArray} (hl : p.length = 4) (h : ∀ a ∈ p, a.toList.isEmpty = false) (hk : kindOk (at_ p 0) = true) (hc : (!cenK (at_ p 1)) = false) (ht : timeOk (at_ p 2) = true) (hd : dayOk (head0 p) = true) (hm : markK (at_ p 3) = -1) : readHead p = (Hd.nil, 5) := by
  rw [rh_full (.inr hl) h, if_neg (by rw [hk]; decide), if_neg (by rw [not_f hc]; decide), if_neg (by rw [ht]; decide), if_neg (by rw [hd]; decide), if_pos hl, if_pos hm]
theorem rh04 {p : List ByteArray} (hl : p.length = 4) (h : ∀ a ∈ p, a.toList.isEmpty = false) (hk : kindOk (at_ p 0) = true) (hc : (!cenK (at_ p 1)) = false) (ht : timeOk (at_ p 2) = true) (hd : dayOk (head0 p) = true) (hm : ¬ markK (at_ p 3) = -1) : readHead p = ({ head0 p with mark := at_ p 3 }, 0) := by
  rw [rh_full (.inr hl) h, if_neg (by rw [hk]; decide), if_neg (by rw [not_f hc]; decide), if_neg (by rw [ht]; decide), if_neg (by rw [hd]; decide), if_pos hl, if_neg hm]
theorem all3 {a b c : ByteArray} (ha : a.toList.isEmpty = false) (hb : b.toList.isEmpty = false) (hc : c.toList.isEmpty = false) : ∀ x ∈ [a, b, c], x.toList.isEmpty = false := by
  intro x hx
  simp only [List.mem_cons, List.not_mem_nil, or_false] at hx
  rcases hx with rfl | rfl | rfl <;> assumption
theorem all4 {a b c d : ByteArray} (ha : a.toList.isEmpty = false) (hb : b.toList.isEmpty = false) (hc : c.toList.isEmpty = false) (hd : d.toList.isEmpty = false) : ∀ x ∈ [a, b, c, d], x.toList.isEmpty = false := by
  intro x hx
  simp only [List.mem_cons, List.not_mem_nil, or_false] at hx
  rcases hx with rfl | rfl | rfl | rfl <;> assumption
theorem digK_extract {c : ByteArray} (h : digK c = true) (i j : Nat) (hi : i < j) (hj : j ≤ c.size) : digK (c.extract i j) = true := by
  have hm := digs_mem h
  unfold digK digsB
  have hl : (c.extract i j).data.toList.length = j - i := by
    rw [Array.length_toList]
    show (c.extract i j).size = j - i
    rw [ByteArray.size_extract]
    omega
  rw [hl, decide_eq_true (by omega), Bool.true_and, List.all_eq_true]
  intro x hx
  rw [Lib.extract_data] at hx
  exact decide_eq_true (hm x (List.drop_subset _ _ (List.take_subset _ _ hx)))
def inB (n lo hi : Int) : Bool := decide (lo ≤ n ∧ n ≤ hi)
theorem day_no1 {h : Hd} (g : (!inB h.day 1 31) = true) : dayOk h = false := by
  have := of_decide_eq_false (not_t g)
  exact decide_eq_false (by omega)
theorem day_no2 {h : Hd} (g : 23 < h.hour) : dayOk h = false := decide_eq_false (by omega)
theorem day_no3 {h : Hd} (g : 59 < h.minute) : dayOk h = false := decide_eq_false (by omega)
theorem day_yes {h : Hd} (g1 : (!inB h.day 1 31) = false) (g2 : ¬ 23 < h.hour) (g3 : ¬ 59 < h.minute) : dayOk h = true := by
  have := of_decide_eq_true (not_f g1)
  exact decide_eq_true (by omega)
theorem day_a {h : Hd} (g1 : h.hour ≤ 23) (g2 : 23 < h.hour ∨ 59 < h.minute) : dayOk h = false := decide_eq_false (by omega)
theorem day_b {h : Hd} (g0 : inB h.day 1 31 = true) (g : h.hour ≤ 23 ∧ h.minute ≤ 59) : dayOk h = true := by
  have := of_decide_eq_true g0
  exact decide_eq_true (by omega)
theorem day_d {h : Hd} (g0 : ¬ inB h.day 1 31 = true) : dayOk h = false := by
  refine decide_eq_false fun h' => g0 ?_
  exact decide_eq_true (by omega)
theorem day_parts {h : Hd} (g : dayOk h = true) : inB h.day 1 31 = true ∧ h.hour ≤ 23 ∧ h.minute ≤ 59 := by
  have := of_decide_eq_true g
  exact ⟨decide_eq_true (by omega), by omega, by omega⟩
theorem day_cases {h : Hd} (g : dayOk h = false) : inB h.day 1 31 = false ∨ (inB h.day 1 31 = true ∧ 23 < h.hour) ∨ (inB h.day 1 31 = true ∧ h.hour ≤ 23 ∧ 59 < h.minute) := by
  have := of_decide_eq_false g
  by_cases h1 : 1 ≤ h.day ∧ h.day ≤ 31
  · have e : inB h.day 1 31 = true := decide_eq_true (by omega)
    by_cases h2 : 23 < h.hour
    · exact .inr (.inl ⟨e, h2⟩)
    · exact .inr (.inr ⟨e, by omega, by omega⟩)
  · exact .inl (decide_eq_false (by omega))
end Go.Proofs.YtfipjlcbnfcddaaDoor.U
