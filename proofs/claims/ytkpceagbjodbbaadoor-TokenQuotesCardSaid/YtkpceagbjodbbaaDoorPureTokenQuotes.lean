/- The pure statement of TokenQuotes. Own work. -/
import Derived.Test.YtkpceagbjodbbaaDoorPA3
import Derived.Test.YtkpceagbjodbbaaDoorPA6
import Derived.Test.YtkpceagbjodbbaaDoorPB1
import Derived.Test.YtkpceagbjodbbaaDoorPB4
import Derived.Test.YtkpceagbjodbbaaDoorPlain
import Derived.Test.YtkpceagbjodbbaaDoorPreTokenQuotes
import Derived.Test.YtkpceagbjodbbaaDoorX1
import Derived.Test.YtkpceagbjodbbaaDoorX2
import Derived.Test.YtkpceagbjodbbaaDoorXR
import Derived.KernelRfl
namespace Go.Proofs.YtkpceagbjodbbaaDoor.Pure
open Go.RowKit Go.Proofs.YtkpceagbjodbbaaDoorW.PrintWords Go.Proofs.YtkpceagbjodbbaaDoorW.PrintLast Go.Proofs.YtkpceagbjodbbaaDoorW.PrintMore Go.Proofs.YtkpceagbjodbbaaDoor.PA Go.Proofs.YtkpceagbjodbbaaDoor.PB Go.Proofs.YtkpceagbjodbbaaDoor.Ext Go.Proofs.YtkpceagbjodbbaaDoor.Plain
set_option linter.unusedVariables false
set_option linter.unusedSimpArgs false

def hexs : List UInt8 := [48, 49, 50, 51, 52, 53, 54, 55, 56, 57, 97, 98, 99, 100, 101, 102]
def hexC (n : Nat) : UInt8 := hexs.getD n 0
theorem below16 (p : Nat → Bool) (h : (List.range 16).all p = true) (n : Nat) (hn : n < 16) : p n = true := List.all_eq_true.1 h n (by simpa using hn)
theorem hx_hexC (n : Nat) (h : n < 16) : hx (hexC n) = n := of_decide_eq_true (below16 (fun n => decide (hx (hexC n) = n)) (by kernel_rfl) n h)
theorem hex_cut (n : Nat) (h : n < 16) : (⟨#[48, 49, 50, 51, 52, 53, 54, 55, 56, 57, 97, 98, 99, 100, 101, 102]⟩ : ByteArray).extract n (n + 1) = ofL [hexC n] := by
  apply eq_ofL
  rw [ext_list]
  exact of_decide_eq_true (below16 (fun n => decide (((⟨#[48, 49, 50, 51, 52, 53, 54, 55, 56, 57, 97, 98, 99, 100, 101, 102]⟩ : ByteArray).data.toList.drop n).take (n + 1 - n) = [hexC n])) (by kernel_rfl) n h)
/-- The escape of a byte, behind its backslash: to the base 8, or to the base 16. -/
def escT (c : UInt8) (odd : Bool) : List UInt8 := if odd = true then [hexC (c.toNat / 64), hexC (c.toNat / 8 % 8), hexC (c.toNat % 8)] else [120, hexC (c.toNat / 16), hexC (c.toNat % 16)]
theorem escT_length (c : UInt8) (odd : Bool) : (escT c odd).length = 3 := by unfold escT; split <;> rfl
theorem escV_T (c : UInt8) (odd : Bool) (r : List UInt8) : escV 34 (escT c odd ++ r) = some (c.toNat, [c], 3) := by
  have hc := byte_lt c
  cases odd with
  | false =>
    have h1 := hx_hexC (c.toNat / 16) (by omega)
    have h2 := hx_hexC (c.toNat % 16) (by omega)
    have e : numV 16 2 0 (hexC (c.toNat / 16) :: hexC (c.toNat % 16) :: r) = some c.toNat := by
      rw [numV, h1, if_pos (by omega), numV, h2, if_pos (by omega), numV]
      congr 1; omega
    show escV 34 (120 :: hexC (c.toNat / 16) :: hexC (c.toNat % 16) :: r) = _
    rw [escV, show simpV 120 = none from rfl]
    simp only
    rw [e]
    rw [if_neg (by decide), if_pos (by trivial), smallV, if_pos (by omega)]
    simp
  | true =>
    have h1 := hx_hexC (c.toNat / 64) (by omega)
    have h2 := hx_hexC (c.toNat / 8 % 8) (by omega)
    have h3 := hx_hexC (c.toNat % 8) (by omega)
    have e : numV 8 3 0 (hexC (c.toNat / 64) :: hexC (c.toNat / 8 % 8) :: hexC (c.toNat % 8) :: r) = some c.toNat := by
      rw [numV, h1, if_pos (by omega), numV, h2, if_pos (by omega), numV, h3, if_pos (by omega), numV]
      congr 1; omega
    have d : ∀ n, n < 16 → n < 4 → simpV (hexC n) = none ∧ ¬ (hexC n = 92 ∨ hexC n = 34) ∧ ¬ hexC n = 120 ∧ ¬ hexC n = 117 ∧ ¬ hexC n = 85 := fun n hn => of_decide_eq_true (below16 (fun n => decide (n < 4 → simpV (hexC n) = none ∧ ¬ (hexC n = 92 ∨ hexC n = 34) ∧ ¬ hexC n = 120 ∧ ¬ hexC n = 117 ∧ ¬ hexC n = 85)) (by kernel_rfl) n hn)
    obtain ⟨d0, d1, d2, d3, d4⟩ := d (c.toNat / 64) (by omega) (by omega)
    show escV 34 (hexC (c.toNat / 64) :: hexC (c.toNat / 8 % 8) :: hexC (c.toNat % 8) :: r) = _
    rw [escV, d0]
    simp only
    rw [if_neg d1, if_neg d2, if_neg d3, if_neg d4, e, smallV, if_pos (by omega)]
    simp
def escs (odd : Nat → Bool) : Nat → List UInt8 → List UInt8
  | _, [] => []
  | i, c :: r => 92 :: escT c (odd i) ++ escs odd (i + 1) r
theorem escs_length (odd : Nat → Bool) : ∀ i l, (escs odd i l).length = 4 * l.length
  | i, [] => rfl
  | i, c :: r => by
    rw [escs, List.cons_append, List.length_cons, List.length_append, escT_length, escs_length odd (i + 1) r, List.length_cons]
    omega
theorem lit1 (a : UInt8) : (⟨#[a]⟩ : ByteArray) = ofL [a] := rfl
theorem lit2 (a b : UInt8) : (⟨#[a, b]⟩ : ByteArray) = ofL [a, b] := rfl
theorem ofL_append (a b : List UInt8) : ofL a ++ ofL b = ofL (a ++ b) := eq_ofL (by rw [append_list, ofL_list, ofL_list])

/-! ### token.Unquote on such texts -/
theorem quote_loop (s : ByteArray) (hs : s.size ≤ 140737488355328) (odd : Nat → Bool) (tail : List UInt8) (ht : tail = [34] ∨ tail = []) : ∀ (R : List UInt8) (i j : Nat) (acc : List UInt8),
    s.data.toList.drop i = escs odd j R ++ tail → i ≤ s.size → acc.length ≤ i → Ev (fun k => token_Unquote.l0 k s i acc) (if tail = [34] then (ofL (acc ++ R), 0, 0) else (ofL [], 106, 0))
  | [], i, j, acc, hd, hi, ha => by
    rw [escs, List.nil_append] at hd
    have hl : s.size - i = tail.length := by rw [← len_eq, ← List.length_drop, hd]
    refine Or.elim ht (fun ht => ?_) (fun ht => ?_) <;> subst ht
    · rw [if_pos rfl, List.append_nil]
      have hlt : i < s.size := by simp at hl; omega
      have hbt : bt s i = 34 := by
        rw [bt_list s i hlt]
        have := List.drop_eq_getElem_cons (show i < s.data.toList.length by rw [len_eq]; exact hlt)
        rw [hd] at this
        rw [← (List.cons.inj this).1]
        rfl
      refine Ev.step (f := fun _ => some (ofL acc, 0, 0)) (fun k => ?_) (Ev.now _)
      simp only [token_Unquote.l0]
      rw [if_pos hlt, hbt, if_neg (by decide), if_pos rfl, if_pos (by simp at hl; omega)]
      rfl
    · rw [if_neg (by decide)]
      refine Ev.step (f := fun _ => some (ofL [], 106, 0)) (fun k => ?_) (Ev.now _)
      simp only [token_Unquote.l0]
      rw [if_neg (by simp at hl; omega)]
      rfl
  | c :: R, i, j, acc, hd, hi, ha => by
    rw [escs, List.append_assoc, List.cons_append] at hd
    have hl : s.size - i = 1 + 3 + (4 * R.length + tail.length) := by
      rw [← len_eq, ← List.length_drop, hd, List.length_cons, List.length_append, List.length_append, escT_length, escs_length]
      omega
    have hlt : i < s.size := by omega
    have hlt' : i < s.data.toList.length := by rw [len_eq]; exact hlt
    have hcons := List.drop_eq_getElem_cons hlt'
    rw [hd] at hcons
    have hbt : bt s i = 92 := by
      rw [bt_list s i hlt, ← (List.cons.inj hcons).1]
      rfl
    have hd1 : s.data.toList.drop (i + 1) = escT c (odd j) ++ (escs odd (j + 1) R ++ tail) := (List.cons.inj hcons).2.symm
    have hesc := escape_is (s.extract (i + 1) s.size) 34
    have hle : (s.extract (i + 1) s.size).data.toList = s.data.toList.drop (i + 1) := by
      rw [ext_list, List.take_of_length_le]
      rw [List.length_drop, len_eq]; omega
    rw [hle, hd1, escV_T] at hesc
    have q1 : ((34 : UInt8).toNat : Int) = 34 := rfl
    rw [q1] at hesc
    have hd4 : s.data.toList.drop (i + 1 + 3) = escs odd (j + 1) R ++ tail := by
      rw [← List.drop_drop, hd1, List.drop_append_of_le_length (by rw [escT_length]; omega), List.drop_of_length_le (by rw [escT_length]; omega), List.nil_append]
    have ih := quote_loop s hs odd tail ht R (i + 1 + 3) (j + 1) (acc ++ [c]) hd4 (by omega) (by simp; omega)
    rw [List.append_assoc, List.singleton_append] at ih
    have hbs : (ofL [c]).size = 1 := ofL_size [c]
    refine Ev.step (f := fun k => (token_escape.f k (s.extract (i + 1) s.size) 34).bind fun b => if b.2.2.2 = true then (if acc.length + b.2.1.size ≤ 140737488355328 ∧ 0 ≤ b.2.2.1 ∧ (i : Int) + 1 + b.2.2.1 ≤ s.size then token_Unquote.l0 k s (i + 1 + b.2.2.1.toNat) (acc ++ b.2.1.data.toList) else none) else some (⟨#[]⟩, 108, i)) (fun k => ?_) ?_
    · simp only [token_Unquote.l0]
      rw [if_pos hlt, hbt, if_neg (by decide), if_neg (by decide), if_pos rfl]
    · refine Ev.bind hesc ?_
      have hcnd : acc.length + (ofL [c]).size ≤ 140737488355328 ∧ 0 ≤ ((3 : Nat) : Int) ∧ (i : Int) + 1 + ((3 : Nat) : Int) ≤ s.size := ⟨by omega, by omega, by omega⟩
      simp only [escR, if_true, if_pos hcnd, Int.toNat_natCast, ofL_list]
      exact ih
theorem unquote_q (odd : Nat → Bool) (R tail : List UInt8) (ht : tail = [34] ∨ tail = []) (hR : R.length ≤ 134217728) : Ev (fun k => token_Unquote.f k (ofL (34 :: (escs odd 0 R ++ tail)))) (if tail = [34] then (ofL R, 0, 0) else (ofL [], 106, 0)) := by
  have hsz : (ofL (34 :: (escs odd 0 R ++ tail))).size = 1 + (4 * R.length + tail.length) := by
    rw [ofL_size, List.length_cons, List.length_append, escs_length]; omega
  have htl : tail.length ≤ 1 := by rcases ht with rfl | rfl <;> decide
  have h := quote_loop (ofL (34 :: (escs odd 0 R ++ tail))) (by omega) odd tail ht R 1 0 [] (by rw [ofL_list]; rfl) (by omega) (Nat.zero_le _)
  have hbt : bt (ofL (34 :: (escs odd 0 R ++ tail))) 0 = 34 := by rw [show (0 : Int) = ((0 : Nat) : Int) from rfl, bt_getD, ofL_list]; rfl
  rw [List.nil_append] at h
  refine Ev.congr (fun k => ?_) h
  simp only [token_Unquote.f]
  rw [if_pos (by omega), if_neg (by rw [hbt]; rintro ⟨_, h⟩; exact absurd h (by decide)), if_neg (fun h => Or.elim h (fun h => by omega) (fun h => h hbt))]
theorem unquote_r (R : List UInt8) (hR : R.length ≤ 134217728) (h96 : (96 : UInt8) ∉ R) : Ev (fun k => token_Unquote.f k (ofL (96 :: (R ++ [96])))) (ofL (R.filter (· != 13)), 0, 0) := by
  have hsz : (ofL (96 :: (R ++ [96]))).size = R.length + 2 := by
    rw [ofL_size, List.length_cons, List.length_append]; rfl
  have hbt : bt (ofL (96 :: (R ++ [96]))) 0 = 96 := by rw [show (0 : Int) = ((0 : Nat) : Int) from rfl, bt_getD, ofL_list]; rfl
  have hx1 : ((ofL (96 :: (R ++ [96]))).extract 1 (ofL (96 :: (R ++ [96]))).size).data.toList = R ++ [96] := by
    rw [ext_list, ofL_list, List.take_of_length_le (by rw [hsz]; simp)]; rfl
  have hx2 : ((ofL (96 :: (R ++ [96]))).extract 1 ((ofL (96 :: (R ++ [96]))).size - 1)).data.toList = R := by
    rw [ext_list, ofL_list, hsz, List.drop_succ_cons, List.drop_zero, List.take_append_of_le_length (by omega), List.take_of_length_le (by omega)]
  have hidx : strings_IndexByte.f ((ofL (96 :: (R ++ [96]))).extract 1 (ofL (96 :: (R ++ [96]))).size) 96 = some (R.length : Int) := by
    unfold strings_IndexByte.f; rw [hx1]
    exact congrArg some (indexByte_at 96 R [] h96)
  refine Ev.congr (fun k => ?_) (Ev.now _)
  simp only [token_Unquote.f]
  rw [if_pos (by omega), if_pos ⟨by omega, hbt⟩, hidx, Option.bind_some, if_pos (by omega)]
  unfold dropR
  rw [hx2]
  rfl
theorem unquote_s (R : List UInt8) (hR : R.length ≤ 134217728) (h96 : (96 : UInt8) ∉ R) : Ev (fun k => token_Unquote.f k (ofL (96 :: R))) (ofL [], 106, 0) := by
  have hsz : (ofL (96 :: R)).size = R.length + 1 := by rw [ofL_size, List.length_cons]
  have hbt : bt (ofL (96 :: R)) 0 = 96 := by rw [show (0 : Int) = ((0 : Nat) : Int) from rfl, bt_getD, ofL_list]; rfl
  have hx1 : ((ofL (96 :: R)).extract 1 (ofL (96 :: R)).size).data.toList = R := by
    rw [ext_list, ofL_list, List.take_of_length_le (by rw [hsz]; simp)]; rfl
  have hidx : strings_IndexByte.f ((ofL (96 :: R)).extract 1 (ofL (96 :: R)).size) 96 = some (-1) := by
    unfold strings_IndexByte.f; rw [hx1]
    exact congrArg some (indexByte_not 96 R h96)
  refine Ev.congr (fun k => ?_) (Ev.now _)
  simp only [token_Unquote.f]
  by_cases h1 : R.length = 0
  · rw [if_pos (by omega), if_neg (by omega), if_pos (Or.inr (by rw [hbt]; decide))]
    rfl
  · rw [if_pos (by omega), if_pos ⟨by omega, hbt⟩, hidx, Option.bind_some, if_neg (by omega)]
    rfl
/-! ### a rune literal of an escape -/
theorem rune_esc (c : UInt8) (odd : Bool) : token_Rune.f 40 (ofL (39 :: (92 :: escT c odd ++ [39]))) = some ((c.toNat : Int), 0, 0) := by
  have := all256 (fun c => decide (token_Rune.f 40 (ofL (39 :: (92 :: escT c odd ++ [39]))) = some ((c.toNat : Int), 0, 0))) (by cases odd <;> kernel_rfl) c
  exact of_decide_eq_true this

/-! ### the law's loop -/
def strs (x1 : List Int) (i : Nat) : Bool := decide (¬ Int.tmod (if (i : Int) < (x1.length : Int) then rd x1 i else 0) 2 = 0)
theorem esc_step (x0 x1 x33 : List Int) (x5 x6 x7 : ByteArray) (x34 x35 x10 : Int) (c : UInt8) {X : Bool}
    (h : Ev (fun k => scholiastlaw02_TokenQuotes.j2 k x0 x1 x5 x6 x7 c.toNat (ofL (92 :: escT c (decide (¬ Int.tmod x10 2 = 0)))) x33 x34 x35) X) :
    Ev (fun k => scholiastlaw02_TokenQuotes.j1 k x0 x1 x5 x6 x7 c.toNat x10 x33 x34 x35) X := by
  have hc := byte_lt c
  have e1 : Int.tdiv (c.toNat : Int) 16 % 256 = ((c.toNat / 16 : Nat) : Int) := by rw [Int.tdiv_eq_ediv_of_nonneg (by omega)]; omega
  have e2 : Int.tmod (c.toNat : Int) 16 = ((c.toNat % 16 : Nat) : Int) := by rw [Int.tmod_eq_emod_of_nonneg (by omega)]; omega
  have e3 : Int.tdiv (c.toNat : Int) 64 % 256 = ((c.toNat / 64 : Nat) : Int) := by rw [Int.tdiv_eq_ediv_of_nonneg (by omega)]; omega
  have e4 : Int.tmod (Int.tdiv (c.toNat : Int) 8 % 256) 8 = ((c.toNat / 8 % 8 : Nat) : Int) := by
    rw [Int.tdiv_eq_ediv_of_nonneg (by omega), Int.tmod_eq_emod_of_nonneg (by omega)]; omega
  have e5 : Int.tmod (c.toNat : Int) 8 = ((c.toNat % 8 : Nat) : Int) := by rw [Int.tmod_eq_emod_of_nonneg (by omega)]; omega
  have sc : ∀ n : Nat, n < 16 → ((n : Int) + 1) % 256 = ((n + 1 : Nat) : Int) := fun n hn => by omega
  have s1 := sc (c.toNat / 16) (by omega)
  have s2 := sc (c.toNat % 16) (by omega)
  have s3 := sc (c.toNat / 64) (by omega)
  have s4 := sc (c.toNat / 8 % 8) (by omega)
  have s5 := sc (c.toNat % 8) (by omega)
  have k1 := hex_cut (c.toNat / 16) (by omega)
  have k2 := hex_cut (c.toNat % 16) (by omega)
  have k3 := hex_cut (c.toNat / 64) (by omega)
  have k4 := hex_cut (c.toNat / 8 % 8) (by omega)
  have k5 := hex_cut (c.toNat % 8) (by omega)
  have a0 : ∀ n : Nat, ((0 : Int) ≤ (n : Int)) = True := fun n => eq_true (by omega)
  have a1 : ∀ n : Nat, ((n : Int) ≤ ((n + 1 : Nat) : Int)) = True := fun n => eq_true (by omega)
  have a2 : ∀ n : Nat, n < 16 → (((n + 1 : Nat) : Int) ≤ 16) = True := fun n hn => eq_true (by omega)
  have b1 := a2 (c.toNat / 16) (by omega)
  have b2 := a2 (c.toNat % 16) (by omega)
  have b3 := a2 (c.toNat / 64) (by omega)
  have b4 := a2 (c.toNat / 8 % 8) (by omega)
  have b5 := a2 (c.toNat % 8) (by omega)
  have z1 : ∀ x : UInt8, (2 + (ofL [x]).size ≤ 9223372036854775807) = True := fun x => eq_true (by rw [ofL_size]; simp)
  have z2 : ∀ x y : UInt8, ((ofL [92, 120] ++ ofL [x]).size + (ofL [y]).size ≤ 9223372036854775807) = True := fun x y => eq_true (by rw [ofL_append, ofL_size, ofL_size]; simp)
  have z3 : ∀ x : UInt8, (1 + (ofL [x]).size ≤ 9223372036854775807) = True := fun x => eq_true (by rw [ofL_size]; simp)
  have z4 : ∀ x y : UInt8, ((ofL [92] ++ ofL [x]).size + (ofL [y]).size ≤ 9223372036854775807) = True := fun x y => eq_true (by rw [ofL_append, ofL_size, ofL_size]; simp)
  have z5 : ∀ x y z : UInt8, ((ofL [92] ++ ofL [x] ++ ofL [y]).size + (ofL [z]).size ≤ 9223372036854775807) = True := fun x y z => eq_true (by rw [ofL_append, ofL_append, ofL_size, ofL_size]; simp)
  refine Ev.step (fun k => ?_) h
  simp only [scholiastlaw02_TokenQuotes.j1, e1, e2, e3, e4, e5, s1, s2, s3, s4, s5, a0, a1, b1, b2, b3, b4, b5, if_true, Int.toNat_natCast, k1, k2, k3, k4, k5, lit1, lit2, z1, z2, z3, z4, z5]
  by_cases hw : Int.tmod x10 2 = 0
  · rw [if_pos hw]
    have : decide (¬ Int.tmod x10 2 = 0) = false := decide_eq_false (fun h => h hw)
    rw [this, ofL_append, ofL_append]
    rfl
  · rw [if_neg hw]
    have : decide (¬ Int.tmod x10 2 = 0) = true := decide_eq_true hw
    rw [this, ofL_append, ofL_append, ofL_append]
    rfl
def keepR (c : UInt8) : Bool := c != 96
def keepP (c : UInt8) : Bool := c != 96 && c != 13
theorem rune_step (x0 x1 x33 : List Int) (a5 a6 a7 : List UInt8) (x34 : Int) (i : Nat) (hi : i ≤ 134217728) (c : UInt8) (o : Bool) (h5 : a5.length ≤ 536870912) (h6 : a6.length ≤ 134217728) (h7 : a7.length ≤ 134217728) {X : Bool}
    (h : Ev (fun k => scholiastlaw02_TokenQuotes.l0 k x0 x1 (ofL (a5 ++ (92 :: escT c o))) (ofL (a6 ++ [c].filter keepR)) (ofL (a7 ++ [c].filter keepP)) x33 x34 ((i + 1 : Nat) : Int)) X) :
    Ev (fun k => scholiastlaw02_TokenQuotes.j2 k x0 x1 (ofL a5) (ofL a6) (ofL a7) c.toNat (ofL (92 :: escT c o)) x33 x34 i) X := by
  have hr : Ev (fun k => token_Rune.f k (ofL (39 :: (92 :: escT c o ++ [39])))) ((c.toNat : Int), 0, 0) := Ev.of (fun k => token_Rune.mono _ k) (rune_esc c o)
  have hc := byte_lt c
  have h4 : (ofL (92 :: escT c o)).size = 4 := by rw [ofL_size, List.length_cons, escT_length]
  have hs5 : (ofL a5).size = a5.length := ofL_size a5
  have hs6 : (ofL a6).size = a6.length := ofL_size a6
  have hs7 : (ofL a7).size = a7.length := ofL_size a7
  have h1 : (ofL [c]).size = 1 := ofL_size [c]
  have w1 : wrap64 ((i : Int) + 1) = ((i + 1 : Nat) : Int) := (wrap_small (by omega) (by omega)).trans (by omega)
  have wc : wrap64 (c.toNat : Int) = (c.toNat : Int) := wrap_small (by omega) (by omega)
  have en : strOfNums [(c.toNat : Int)] = ofL [c] := by rw [nums_one _ (Int.natCast_nonneg _), Int.toNat_natCast, UInt8.ofNat_toNat]
  have ea : (⟨#[39]⟩ : ByteArray) ++ ofL (92 :: escT c o) ++ (⟨#[39]⟩ : ByteArray) = ofL (39 :: (92 :: escT c o ++ [39])) := by
    rw [lit1, ofL_append, ofL_append]; rfl
  have q1 : ((ofL a5).size + (ofL (92 :: escT c o)).size ≤ 9223372036854775807) = True := eq_true (by omega)
  have q2 : (1 + (ofL (92 :: escT c o)).size ≤ 9223372036854775807) = True := eq_true (by omega)
  have q3 : (((⟨#[39]⟩ : ByteArray) ++ ofL (92 :: escT c o)).size + 1 ≤ 9223372036854775807) = True := eq_true (by rw [ByteArray.size_append, h4, lit1, ofL_size]; simp)
  have q6 : ((ofL a6).size + (ofL [c]).size ≤ 9223372036854775807) = True := eq_true (by omega)
  have q7 : ((ofL a7).size + (ofL [c]).size ≤ 9223372036854775807) = True := eq_true (by omega)
  have c96 : (c.toNat : Int) = 96 ↔ c = 96 := byte_is c 96 (by decide)
  have c13 : (c.toNat : Int) = 13 ↔ c = 13 := byte_is c 13 (by decide)
  have h3 : Ev (fun k => scholiastlaw02_TokenQuotes.j3 k x0 x1 (ofL (a5 ++ (92 :: escT c o))) (ofL a6) (ofL a7) c.toNat x33 x34 i false) X := by
    refine Ev.step (fun k => ?_) h
    simp only [scholiastlaw02_TokenQuotes.j3, Bool.false_eq_true, if_false, Option.bind_some, en, q6, q7, if_true, w1]
    by_cases e96 : c = 96
    · rw [if_pos (c96.2 e96), e96]
      have f1 : ([(96 : UInt8)].filter keepR) = [] := rfl
      have f2 : ([(96 : UInt8)].filter keepP) = [] := rfl
      rw [f1, f2, List.append_nil, List.append_nil]
    · rw [if_neg (fun h => e96 (c96.1 h))]
      have f1 : [c].filter keepR = [c] := by simp [keepR, e96]
      rw [f1, ofL_append]
      by_cases e13 : c = 13
      · rw [if_pos (c13.2 e13), e13]
        have f2 : ([(13 : UInt8)].filter keepP) = [] := rfl
        rw [f2, List.append_nil]
      · rw [if_neg (fun h => e13 (c13.1 h))]
        have f2 : [c].filter keepP = [c] := by simp [keepP, e96, e13]
        rw [f2, ofL_append]
  refine Ev.step (f := fun k => (token_Rune.f k (ofL (39 :: (92 :: escT c o ++ [39])))).bind fun bt173 => (if bt173.1 = (wrap64 (c.toNat : Int)) then (if bt173.2.1 = 0 then (scholiastlaw02_TokenQuotes.j3 k x0 x1 (ofL a5 ++ ofL (92 :: escT c o)) (ofL a6) (ofL a7) c.toNat x33 x34 i (bt173.2.2 != 0)) else (scholiastlaw02_TokenQuotes.j3 k x0 x1 (ofL a5 ++ ofL (92 :: escT c o)) (ofL a6) (ofL a7) c.toNat x33 x34 i true)) else (scholiastlaw02_TokenQuotes.j3 k x0 x1 (ofL a5 ++ ofL (92 :: escT c o)) (ofL a6) (ofL a7) c.toNat x33 x34 i true))) (fun k => ?_) (Ev.bind hr ?_)
  · simp only [scholiastlaw02_TokenQuotes.j2, q1, q2, q3, if_true, ea]
  · simp only [wc, if_true, ofL_append]
    exact h3
def nums (B : List UInt8) : List Int := B.map fun b => (b.toNat : Int)
theorem nums_of : ∀ l : List Int, (∀ x ∈ l, (Lit.int .u8 x).wf = true) → ∃ B, l = nums B
  | [], _ => ⟨[], rfl⟩
  | x :: l, h => by
    obtain ⟨B, rfl⟩ := nums_of l (fun y hy => h y (by simp [hy]))
    have hx := h x (by simp)
    have hx : 0 ≤ x ∧ x ≤ 255 := by
      simp only [Lit.wf, Bool.and_eq_true, decide_eq_true_eq] at hx
      exact hx
    refine ⟨UInt8.ofNat x.toNat :: B, ?_⟩
    have : (UInt8.ofNat x.toNat).toNat = x.toNat := by rw [UInt8.toNat_ofNat']; omega
    simp only [nums, List.map_cons, this]
    congr 1
    omega
theorem nums_back (B : List UInt8) : strOfNums (nums B) = ofL B := by
  apply eq_ofL
  rw [strOfNums_data, nums, List.map_map]
  conv => rhs; rw [← List.map_id B]
  apply List.map_congr_left
  intro a _
  simp
theorem quotes_end (B : List UInt8) (hB : B.length ≤ 134217728) (x1 : List Int) : Ev (fun k => scholiastlaw02_TokenQuotes.l0 k (nums B) x1 (ofL (escs (strs x1) 0 B)) (ofL (B.filter keepR)) (ofL (B.filter keepP)) (nums B) (B.length : Int) (B.length : Int)) true := by
  have r6 : (B.filter keepR).length ≤ B.length := List.length_filter_le _ _
  have n96 : (96 : UInt8) ∉ B.filter keepR := by intro h; have := (List.mem_filter.1 h).2; exact absurd this (by decide)
  have u1 := unquote_q (strs x1) B [34] (Or.inl rfl) hB
  have u2 := unquote_r (B.filter keepR) (by omega) n96
  have u3 := unquote_q (strs x1) B [] (Or.inr rfl) hB
  have u4 := unquote_s (B.filter keepR) (by omega) n96
  rw [if_pos rfl] at u1
  rw [if_neg (by decide), List.append_nil] at u3
  have hff : (B.filter keepR).filter (· != 13) = B.filter keepP := by
    rw [List.filter_filter]
    congr 1
    funext c
    simp [keepR, keepP, Bool.and_comm]
  rw [hff] at u2
  have s5 : (ofL (escs (strs x1) 0 B)).size = 4 * B.length := by rw [ofL_size, escs_length]
  have s6 : (ofL (B.filter keepR)).size = (B.filter keepR).length := ofL_size _
  have g0 : ((B.length : Int) < (B.length : Int)) = False := eq_false (by omega)
  have g1 : (1 + (ofL (escs (strs x1) 0 B)).size ≤ 9223372036854775807) = True := eq_true (by omega)
  have g2 : (((⟨#[34]⟩ : ByteArray) ++ ofL (escs (strs x1) 0 B)).size + 1 ≤ 9223372036854775807) = True := eq_true (by
    rw [lit1, ByteArray.size_append, ofL_size]; simp only [List.length_cons, List.length_nil]; omega)
  have g3 : (1 + (ofL (B.filter keepR)).size ≤ 9223372036854775807) = True := eq_true (by omega)
  have g4 : (((⟨#[96]⟩ : ByteArray) ++ ofL (B.filter keepR)).size + 1 ≤ 9223372036854775807) = True := eq_true (by
    rw [lit1, ByteArray.size_append, ofL_size]; simp only [List.length_cons, List.length_nil]; omega)
  have t1 : ((⟨#[34]⟩ : ByteArray) ++ ofL (escs (strs x1) 0 B)) ++ (⟨#[34]⟩ : ByteArray) = ofL (34 :: (escs (strs x1) 0 B ++ [34])) := by rw [lit1, ofL_append, ofL_append]; rfl
  have t2 : ((⟨#[96]⟩ : ByteArray) ++ ofL (B.filter keepR)) ++ (⟨#[96]⟩ : ByteArray) = ofL (96 :: (B.filter keepR ++ [96])) := by rw [lit1, ofL_append, ofL_append]; rfl
  have t3 : ((⟨#[34]⟩ : ByteArray) ++ ofL (escs (strs x1) 0 B)) = ofL (34 :: escs (strs x1) 0 B) := by rw [lit1, ofL_append]; rfl
  have t4 : ((⟨#[96]⟩ : ByteArray) ++ ofL (B.filter keepR)) = ofL (96 :: B.filter keepR) := by rw [lit1, ofL_append]; rfl
  have c1 : ((ofL B).toList = (strOfNums (nums B)).toList) = True := eq_true (by rw [nums_back])
  refine Ev.step (f := fun k => (token_Unquote.f k (ofL (34 :: (escs (strs x1) 0 B ++ [34])))).bind fun bt182 => ((token_Unquote.f k (ofL (96 :: (B.filter keepR ++ [96])))).bind fun bt185 => ((token_Unquote.f k (ofL (34 :: escs (strs x1) 0 B))).bind fun bt188 => ((token_Unquote.f k (ofL (96 :: B.filter keepR))).bind fun bt191 => (if bt182.1.toList = (strOfNums (nums B)).toList then (if bt182.2.1 = 0 then (if bt182.2.2 = 0 then (if bt185.1.toList = (ofL (B.filter keepP)).toList then (if bt185.2.1 = 0 then (if bt185.2.2 = 0 then (if bt188.2.1 = 106 then (some (bt191.2.1 == 106)) else (some false)) else (some false)) else (some false)) else (some false)) else (some false)) else (some false)) else (some false)))))) (fun k => ?_) (Ev.bind u1 (Ev.bind u2 (Ev.bind u3 (Ev.bind u4 ?_))))
  · simp only [scholiastlaw02_TokenQuotes.l0, g0, g1, g2, g3, g4, if_true, if_false, t1, t2]
    simp only [t3, t4]
  · simp only [c1, if_true]
    exact Ev.now _
theorem quotes_loop (B : List UInt8) (hB : B.length ≤ 134217728) (x1 : List Int) : ∀ (R : List UInt8) (i : Nat) (a5 a6 a7 : List UInt8), B.drop i = R → i ≤ B.length →
    a5 ++ escs (strs x1) i R = escs (strs x1) 0 B → a6 ++ R.filter keepR = B.filter keepR → a7 ++ R.filter keepP = B.filter keepP →
    Ev (fun k => scholiastlaw02_TokenQuotes.l0 k (nums B) x1 (ofL a5) (ofL a6) (ofL a7) (nums B) (B.length : Int) (i : Int)) true
  | [], i, a5, a6, a7, hd, hi, h5, h6, h7 => by
    have hl : B.length ≤ i := List.drop_eq_nil_iff.1 hd
    have e : i = B.length := by omega
    subst e
    rw [escs, List.append_nil] at h5
    rw [List.filter_nil, List.append_nil] at h6 h7
    rw [h5, h6, h7]
    exact quotes_end B hB x1
  | c :: R, i, a5, a6, a7, hd, hi, h5, h6, h7 => by
    have hlt : i < B.length := by
      have := congrArg List.length hd
      rw [List.length_drop, List.length_cons] at this
      omega
    have hcons := List.drop_eq_getElem_cons hlt
    rw [hd] at hcons
    have hc : B[i] = c := (List.cons.inj hcons).1.symm
    have hd1 : B.drop (i + 1) = R := (List.cons.inj hcons).2.symm
    have l5 : a5.length ≤ 536870912 := by
      have := congrArg List.length h5
      simp only [List.length_append, escs_length] at this
      omega
    have l6 : a6.length ≤ 134217728 := by
      have := congrArg List.length h6
      have := List.length_filter_le keepR B
      rw [List.length_append] at *
      omega
    have l7 : a7.length ≤ 134217728 := by
      have := congrArg List.length h7
      have := List.length_filter_le keepP B
      rw [List.length_append] at *
      omega
    have ih := quotes_loop B hB x1 R (i + 1) (a5 ++ (92 :: escT c (strs x1 i))) (a6 ++ [c].filter keepR) (a7 ++ [c].filter keepP) hd1 (by omega)
      (by rw [← h5, escs, List.append_assoc]) (by rw [← h6, List.append_assoc, ← List.filter_append]; rfl) (by rw [← h7, List.append_assoc, ← List.filter_append]; rfl)
    have hrd : rd (nums B) (i : Int) = (c.toNat : Int) := by
      have : (nums B)[i]? = some (c.toNat : Int) := by rw [nums, List.getElem?_map, List.getElem?_eq_getElem hlt, hc]; rfl
      unfold rd
      rw [Int.toNat_natCast, List.getD_eq_getElem?_getD, this]
      rfl
    have hln : ((nums B).length : Int) = (B.length : Int) := by rw [nums, List.length_map]
    have h1 := rune_step (nums B) x1 (nums B) a5 a6 a7 (B.length : Int) i (by omega) c (strs x1 i) l5 l6 l7 ih
    have g1 : ((i : Int) < (B.length : Int)) = True := eq_true (by omega)
    have g2 : ((0 : Int) ≤ (i : Int)) = True := eq_true (by omega)
    by_cases hx : (i : Int) < (x1.length : Int)
    · have h2 := esc_step (nums B) x1 (nums B) (ofL a5) (ofL a6) (ofL a7) (B.length : Int) i (rd x1 i) c (X := true) (by
        have : strs x1 i = decide (¬ Int.tmod (rd x1 i) 2 = 0) := by unfold strs; rw [if_pos hx]
        rw [← this]; exact h1)
      refine Ev.step (fun k => ?_) h2
      simp only [scholiastlaw02_TokenQuotes.l0, g1, g2, hln, if_true, hrd, if_pos hx]
    · have h2 := esc_step (nums B) x1 (nums B) (ofL a5) (ofL a6) (ofL a7) (B.length : Int) i 0 c (X := true) (by
        have : strs x1 i = decide (¬ Int.tmod 0 2 = 0) := by unfold strs; rw [if_neg hx]
        rw [← this]; exact h1)
      refine Ev.step (fun k => ?_) h2
      simp only [scholiastlaw02_TokenQuotes.l0, g1, g2, hln, if_true, hrd, if_neg hx]
theorem TokenQuotes : scholiastlaw02_TokenQuotes.Pure := by
  intro l0 l1 _ _ hw _ _ _
  by_cases hb : (l0.length : Int) > 134217728
  · refine ⟨0, ?_⟩
    unfold scholiastlaw02_TokenQuotes.f
    rw [if_pos hb]
  obtain ⟨B, rfl⟩ := nums_of l0 hw
  have hln : (nums B).length = B.length := by rw [nums, List.length_map]
  have hs : Ev (fun k => scholiastlaw02_shown.f k) true := Ev.of (fun k => scholiastlaw02_shown.mono k) (k := 60) (by kernel_rfl)
  have h : Ev (fun k => scholiastlaw02_TokenQuotes.f k (nums B) l1) true := by
    unfold scholiastlaw02_TokenQuotes.f
    simp only [if_neg hb]
    refine Ev.bind hs ?_
    simp only [if_true, hln]
    exact quotes_loop B (by omega) l1 B 0 [] [] [] rfl (Nat.zero_le _) rfl rfl rfl
  exact h.rounds
end Go.Proofs.YtkpceagbjodbbaaDoor.Pure
