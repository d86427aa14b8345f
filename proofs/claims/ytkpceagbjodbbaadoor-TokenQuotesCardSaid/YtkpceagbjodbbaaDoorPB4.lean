-- Printed by a program of this session (wip/xprint.py) for this claim: Lean checks it.
import Derived.Test.YtkpceagbjodbbaaDoorPB0
import Derived.Test.YtkpceagbjodbbaaDoorPB1
import Derived.Test.YtkpceagbjodbbaaDoorPA6
import Derived.Test.YtkpceagbjodbbaaDoorX1
import Derived.Test.YtkpceagbjodbbaaDoorX2
import Derived.Test.YtkpceagbjodbbaaDoorX3
namespace Go.Proofs.YtkpceagbjodbbaaDoor.PB
open Go.RowKit Go.Proofs.YtkpceagbjodbbaaDoor.Ext Go.Proofs.YtkpceagbjodbbaaDoor.PA Go.Proofs.YtkpceagbjodbbaaDoorW.PrintWords Go.Proofs.YtkpceagbjodbbaaDoorW.PrintLast Go.Proofs.YtkpceagbjodbbaaDoorW.PrintMore
attribute [local go_sem] max2_int min2_int max_two min_two max_three min_three max_four min_four IntKind.wrap_u8   -- for this text's walks alone
set_option linter.unusedVariables false
set_option linter.unusedSimpArgs false

/-! ### scholiastlaw02_TokenQuotes: function 7 -/
mutual
def scholiastlaw02_TokenQuotes.l0 : Nat → List Int → List Int → ByteArray → ByteArray → ByteArray → List Int → Int → Int → Option (Bool)
  | 0, _, _, _, _, _, _, _, _ => none
  | k + 1, x0, x1, x5, x6, x7, x33, x34, x35 => if x35 < x34 then (if 0 ≤ x35 then (if x35 < (x33.length : Int) then (if x35 < (x1.length : Int) then (scholiastlaw02_TokenQuotes.j1 k x0 x1 x5 x6 x7 (rd x33 x35) (rd x1 x35) x33 x34 x35) else (scholiastlaw02_TokenQuotes.j1 k x0 x1 x5 x6 x7 (rd x33 x35) 0 x33 x34 x35)) else (none)) else (none)) else (if 1 + x5.size ≤ 9223372036854775807 then (if ((⟨#[34]⟩ : ByteArray) ++ x5).size + 1 ≤ 9223372036854775807 then ((token_Unquote.f k (((⟨#[34]⟩ : ByteArray) ++ x5) ++ (⟨#[34]⟩ : ByteArray))).bind fun bt182 => (if 1 + x6.size ≤ 9223372036854775807 then (if ((⟨#[96]⟩ : ByteArray) ++ x6).size + 1 ≤ 9223372036854775807 then ((token_Unquote.f k (((⟨#[96]⟩ : ByteArray) ++ x6) ++ (⟨#[96]⟩ : ByteArray))).bind fun bt185 => ((token_Unquote.f k ((⟨#[34]⟩ : ByteArray) ++ x5)).bind fun bt188 => ((token_Unquote.f k ((⟨#[96]⟩ : ByteArray) ++ x6)).bind fun bt191 => (if bt182.1.toList = (strOfNums x0).toList then (if bt182.2.1 = 0 then (if bt182.2.2 = 0 then (if bt185.1.toList = x7.toList then (if bt185.2.1 = 0 then (if bt185.2.2 = 0 then (if bt188.2.1 = 106 then (some (bt191.2.1 == 106)) else (some false)) else (some false)) else (some false)) else (some false)) else (some false)) else (some false)) else (some false))))) else (none)) else (none))) else (none)) else (none))
def scholiastlaw02_TokenQuotes.j1 : Nat → List Int → List Int → ByteArray → ByteArray → ByteArray → Int → Int → List Int → Int → Int → Option (Bool)
  | 0, _, _, _, _, _, _, _, _, _, _ => none
  | k + 1, x0, x1, x5, x6, x7, x9, x10, x33, x34, x35 => if 0 ≤ ((Int.tdiv x9 16) % 256) then (if ((Int.tdiv x9 16) % 256) ≤ ((((Int.tdiv x9 16) % 256) + 1) % 256) then (if ((((Int.tdiv x9 16) % 256) + 1) % 256) ≤ 16 then (if 2 + ((⟨#[48, 49, 50, 51, 52, 53, 54, 55, 56, 57, 97, 98, 99, 100, 101, 102]⟩ : ByteArray).extract (((Int.tdiv x9 16) % 256) : Int).toNat (((((Int.tdiv x9 16) % 256) + 1) % 256) : Int).toNat).size ≤ 9223372036854775807 then (if 0 ≤ (Int.tmod x9 16) then (if (Int.tmod x9 16) ≤ (((Int.tmod x9 16) + 1) % 256) then (if (((Int.tmod x9 16) + 1) % 256) ≤ 16 then (if ((⟨#[92, 120]⟩ : ByteArray) ++ ((⟨#[48, 49, 50, 51, 52, 53, 54, 55, 56, 57, 97, 98, 99, 100, 101, 102]⟩ : ByteArray).extract (((Int.tdiv x9 16) % 256) : Int).toNat (((((Int.tdiv x9 16) % 256) + 1) % 256) : Int).toNat)).size + ((⟨#[48, 49, 50, 51, 52, 53, 54, 55, 56, 57, 97, 98, 99, 100, 101, 102]⟩ : ByteArray).extract ((Int.tmod x9 16) : Int).toNat ((((Int.tmod x9 16) + 1) % 256) : Int).toNat).size ≤ 9223372036854775807 then (if (Int.tmod x10 2) = 0 then (scholiastlaw02_TokenQuotes.j2 k x0 x1 x5 x6 x7 x9 (((⟨#[92, 120]⟩ : ByteArray) ++ ((⟨#[48, 49, 50, 51, 52, 53, 54, 55, 56, 57, 97, 98, 99, 100, 101, 102]⟩ : ByteArray).extract (((Int.tdiv x9 16) % 256) : Int).toNat (((((Int.tdiv x9 16) % 256) + 1) % 256) : Int).toNat)) ++ ((⟨#[48, 49, 50, 51, 52, 53, 54, 55, 56, 57, 97, 98, 99, 100, 101, 102]⟩ : ByteArray).extract ((Int.tmod x9 16) : Int).toNat ((((Int.tmod x9 16) + 1) % 256) : Int).toNat)) x33 x34 x35) else (if 0 ≤ ((Int.tdiv x9 64) % 256) then (if ((Int.tdiv x9 64) % 256) ≤ ((((Int.tdiv x9 64) % 256) + 1) % 256) then (if ((((Int.tdiv x9 64) % 256) + 1) % 256) ≤ 16 then (if 1 + ((⟨#[48, 49, 50, 51, 52, 53, 54, 55, 56, 57, 97, 98, 99, 100, 101, 102]⟩ : ByteArray).extract (((Int.tdiv x9 64) % 256) : Int).toNat (((((Int.tdiv x9 64) % 256) + 1) % 256) : Int).toNat).size ≤ 9223372036854775807 then (if 0 ≤ (Int.tmod ((Int.tdiv x9 8) % 256) 8) then (if (Int.tmod ((Int.tdiv x9 8) % 256) 8) ≤ (((Int.tmod ((Int.tdiv x9 8) % 256) 8) + 1) % 256) then (if (((Int.tmod ((Int.tdiv x9 8) % 256) 8) + 1) % 256) ≤ 16 then (if ((⟨#[92]⟩ : ByteArray) ++ ((⟨#[48, 49, 50, 51, 52, 53, 54, 55, 56, 57, 97, 98, 99, 100, 101, 102]⟩ : ByteArray).extract (((Int.tdiv x9 64) % 256) : Int).toNat (((((Int.tdiv x9 64) % 256) + 1) % 256) : Int).toNat)).size + ((⟨#[48, 49, 50, 51, 52, 53, 54, 55, 56, 57, 97, 98, 99, 100, 101, 102]⟩ : ByteArray).extract ((Int.tmod ((Int.tdiv x9 8) % 256) 8) : Int).toNat ((((Int.tmod ((Int.tdiv x9 8) % 256) 8) + 1) % 256) : Int).toNat).size ≤ 9223372036854775807 then (if 0 ≤ (Int.tmod x9 8) then (if (Int.tmod x9 8) ≤ (((Int.tmod x9 8) + 1) % 256) then (if (((Int.tmod x9 8) + 1) % 256) ≤ 16 then (if (((⟨#[92]⟩ : ByteArray) ++ ((⟨#[48, 49, 50, 51, 52, 53, 54, 55, 56, 57, 97, 98, 99, 100, 101, 102]⟩ : ByteArray).extract (((Int.tdiv x9 64) % 256) : Int).toNat (((((Int.tdiv x9 64) % 256) + 1) % 256) : Int).toNat)) ++ ((⟨#[48, 49, 50, 51, 52, 53, 54, 55, 56, 57, 97, 98, 99, 100, 101, 102]⟩ : ByteArray).extract ((Int.tmod ((Int.tdiv x9 8) % 256) 8) : Int).toNat ((((Int.tmod ((Int.tdiv x9 8) % 256) 8) + 1) % 256) : Int).toNat)).size + ((⟨#[48, 49, 50, 51, 52, 53, 54, 55, 56, 57, 97, 98, 99, 100, 101, 102]⟩ : ByteArray).extract ((Int.tmod x9 8) : Int).toNat ((((Int.tmod x9 8) + 1) % 256) : Int).toNat).size ≤ 9223372036854775807 then (scholiastlaw02_TokenQuotes.j2 k x0 x1 x5 x6 x7 x9 ((((⟨#[92]⟩ : ByteArray) ++ ((⟨#[48, 49, 50, 51, 52, 53, 54, 55, 56, 57, 97, 98, 99, 100, 101, 102]⟩ : ByteArray).extract (((Int.tdiv x9 64) % 256) : Int).toNat (((((Int.tdiv x9 64) % 256) + 1) % 256) : Int).toNat)) ++ ((⟨#[48, 49, 50, 51, 52, 53, 54, 55, 56, 57, 97, 98, 99, 100, 101, 102]⟩ : ByteArray).extract ((Int.tmod ((Int.tdiv x9 8) % 256) 8) : Int).toNat ((((Int.tmod ((Int.tdiv x9 8) % 256) 8) + 1) % 256) : Int).toNat)) ++ ((⟨#[48, 49, 50, 51, 52, 53, 54, 55, 56, 57, 97, 98, 99, 100, 101, 102]⟩ : ByteArray).extract ((Int.tmod x9 8) : Int).toNat ((((Int.tmod x9 8) + 1) % 256) : Int).toNat)) x33 x34 x35) else (none)) else (none)) else (none)) else (none)) else (none)) else (none)) else (none)) else (none)) else (none)) else (none)) else (none)) else (none))) else (none)) else (none)) else (none)) else (none)) else (none)) else (none)) else (none)) else (none)
def scholiastlaw02_TokenQuotes.j2 : Nat → List Int → List Int → ByteArray → ByteArray → ByteArray → Int → ByteArray → List Int → Int → Int → Option (Bool)
  | 0, _, _, _, _, _, _, _, _, _, _ => none
  | k + 1, x0, x1, x5, x6, x7, x9, x12, x33, x34, x35 => if x5.size + x12.size ≤ 9223372036854775807 then (if 1 + x12.size ≤ 9223372036854775807 then (if ((⟨#[39]⟩ : ByteArray) ++ x12).size + 1 ≤ 9223372036854775807 then ((token_Rune.f k (((⟨#[39]⟩ : ByteArray) ++ x12) ++ (⟨#[39]⟩ : ByteArray))).bind fun bt173 => (if bt173.1 = (wrap64 (x9)) then (if bt173.2.1 = 0 then (scholiastlaw02_TokenQuotes.j3 k x0 x1 (x5 ++ x12) x6 x7 x9 x33 x34 x35 (bt173.2.2 != 0)) else (scholiastlaw02_TokenQuotes.j3 k x0 x1 (x5 ++ x12) x6 x7 x9 x33 x34 x35 true)) else (scholiastlaw02_TokenQuotes.j3 k x0 x1 (x5 ++ x12) x6 x7 x9 x33 x34 x35 true))) else (none)) else (none)) else (none)
def scholiastlaw02_TokenQuotes.j3 : Nat → List Int → List Int → ByteArray → ByteArray → ByteArray → Int → List Int → Int → Int → Bool → Option (Bool)
  | 0, _, _, _, _, _, _, _, _, _, _ => none
  | k + 1, x0, x1, x5, x6, x7, x9, x33, x34, x35, x115 => if x115 = true then (some false) else (if x9 = 96 then (scholiastlaw02_TokenQuotes.l0 k x0 x1 x5 x6 x7 x33 x34 (wrap64 (x35 + 1))) else ((some (([x9] : List Int) : List Int)).bind fun y176 => (if x6.size + (strOfNums y176).size ≤ 9223372036854775807 then (if x9 = 13 then (scholiastlaw02_TokenQuotes.l0 k x0 x1 x5 (x6 ++ (strOfNums y176)) x7 x33 x34 (wrap64 (x35 + 1))) else ((some (([x9] : List Int) : List Int)).bind fun y179 => (if x7.size + (strOfNums y179).size ≤ 9223372036854775807 then (scholiastlaw02_TokenQuotes.l0 k x0 x1 x5 (x6 ++ (strOfNums y176)) (x7 ++ (strOfNums y179)) x33 x34 (wrap64 (x35 + 1))) else (none)))) else (none))))
end
def scholiastlaw02_TokenQuotes.f (k : Nat) (l0 : List Int) (l1 : List Int) : Option (Bool) := if (l0.length : Int) > 134217728 then (some true) else ((scholiastlaw02_shown.f k).bind fun t170 => (if t170 = true then (scholiastlaw02_TokenQuotes.l0 k l0 l1 (⟨#[]⟩ : ByteArray) (⟨#[]⟩ : ByteArray) (⟨#[]⟩ : ByteArray) l0 (l0.length : Int) 0) else (some false)))
theorem scholiastlaw02_TokenQuotes.mono_l : ∀ k, (∀ y0 y1 y2 y3 y4 y5 y6 y7, LeO (scholiastlaw02_TokenQuotes.l0 k y0 y1 y2 y3 y4 y5 y6 y7) (scholiastlaw02_TokenQuotes.l0 (k + 1) y0 y1 y2 y3 y4 y5 y6 y7)) ∧ (∀ y0 y1 y2 y3 y4 y5 y6 y7 y8 y9, LeO (scholiastlaw02_TokenQuotes.j1 k y0 y1 y2 y3 y4 y5 y6 y7 y8 y9) (scholiastlaw02_TokenQuotes.j1 (k + 1) y0 y1 y2 y3 y4 y5 y6 y7 y8 y9)) ∧ (∀ y0 y1 y2 y3 y4 y5 y6 y7 y8 y9, LeO (scholiastlaw02_TokenQuotes.j2 k y0 y1 y2 y3 y4 y5 y6 y7 y8 y9) (scholiastlaw02_TokenQuotes.j2 (k + 1) y0 y1 y2 y3 y4 y5 y6 y7 y8 y9)) ∧ (∀ y0 y1 y2 y3 y4 y5 y6 y7 y8 y9, LeO (scholiastlaw02_TokenQuotes.j3 k y0 y1 y2 y3 y4 y5 y6 y7 y8 y9) (scholiastlaw02_TokenQuotes.j3 (k + 1) y0 y1 y2 y3 y4 y5 y6 y7 y8 y9))
  | 0 => ⟨fun _ _ _ _ _ _ _ _ r h => by simp [scholiastlaw02_TokenQuotes.l0] at h, fun _ _ _ _ _ _ _ _ _ _ r h => by simp [scholiastlaw02_TokenQuotes.j1] at h, fun _ _ _ _ _ _ _ _ _ _ r h => by simp [scholiastlaw02_TokenQuotes.j2] at h, fun _ _ _ _ _ _ _ _ _ _ r h => by simp [scholiastlaw02_TokenQuotes.j3] at h⟩
  | k + 1 => by
    obtain ⟨ih0, ih1, ih2, ih3⟩ := scholiastlaw02_TokenQuotes.mono_l k
    refine ⟨?_, ?_, ?_, ?_⟩
    · intro y0 y1 y2 y3 y4 y5 y6 y7
      unfold scholiastlaw02_TokenQuotes.l0
      repeat' first
      | (with_reducible exact ih0 _ _ _ _ _ _ _ _)
      | (with_reducible exact ih1 _ _ _ _ _ _ _ _ _ _)
      | (with_reducible exact ih2 _ _ _ _ _ _ _ _ _ _)
      | (with_reducible exact ih3 _ _ _ _ _ _ _ _ _ _)
      | (with_reducible exact scholiastlaw02_shown.mono _)
      | (with_reducible exact token_Rune.mono _ _)
      | (with_reducible exact token_Unquote.mono _ _)
      | (with_reducible exact LeO.refl _)
      | (with_reducible exact LeO.none _)
      | (with_reducible refine LeO.ite ?_ ?_)
      | (with_reducible refine LeO.bind ?_ (fun _ => ?_))
      | exact ih0 _ _ _ _ _ _ _ _
      | exact ih1 _ _ _ _ _ _ _ _ _ _
      | exact ih2 _ _ _ _ _ _ _ _ _ _
      | exact ih3 _ _ _ _ _ _ _ _ _ _
      | exact scholiastlaw02_shown.mono _
      | exact token_Rune.mono _ _
      | exact token_Unquote.mono _ _
      | exact LeO.none _
      | refine LeO.ite ?_ ?_
      | refine LeO.bind ?_ (fun _ => ?_)
    · intro y0 y1 y2 y3 y4 y5 y6 y7 y8 y9
      unfold scholiastlaw02_TokenQuotes.j1
      repeat' first
      | (with_reducible exact ih0 _ _ _ _ _ _ _ _)
      | (with_reducible exact ih1 _ _ _ _ _ _ _ _ _ _)
      | (with_reducible exact ih2 _ _ _ _ _ _ _ _ _ _)
      | (with_reducible exact ih3 _ _ _ _ _ _ _ _ _ _)
      | (with_reducible exact scholiastlaw02_shown.mono _)
      | (with_reducible exact token_Rune.mono _ _)
      | (with_reducible exact token_Unquote.mono _ _)
      | (with_reducible exact LeO.refl _)
      | (with_reducible exact LeO.none _)
      | (with_reducible refine LeO.ite ?_ ?_)
      | (with_reducible refine LeO.bind ?_ (fun _ => ?_))
      | exact ih0 _ _ _ _ _ _ _ _
      | exact ih1 _ _ _ _ _ _ _ _ _ _
      | exact ih2 _ _ _ _ _ _ _ _ _ _
      | exact ih3 _ _ _ _ _ _ _ _ _ _
      | exact scholiastlaw02_shown.mono _
      | exact token_Rune.mono _ _
      | exact token_Unquote.mono _ _
      | exact LeO.none _
      | refine LeO.ite ?_ ?_
      | refine LeO.bind ?_ (fun _ => ?_)
    · intro y0 y1 y2 y3 y4 y5 y6 y7 y8 y9
      unfold scholiastlaw02_TokenQuotes.j2
      repeat' first
      | (with_reducible exact ih0 _ _ _ _ _ _ _ _)
      | (with_reducible exact ih1 _ _ _ _ _ _ _ _ _ _)
      | (with_reducible exact ih2 _ _ _ _ _ _ _ _ _ _)
      | (with_reducible exact ih3 _ _ _ _ _ _ _ _ _ _)
      | (with_reducible exact scholiastlaw02_shown.mono _)
      | (with_reducible exact token_Rune.mono _ _)
      | (with_reducible exact token_Unquote.mono _ _)
      | (with_reducible exact LeO.refl _)
      | (with_reducible exact LeO.none _)
      | (with_reducible refine LeO.ite ?_ ?_)
      | (with_reducible refine LeO.bind ?_ (fun _ => ?_))
      | exact ih0 _ _ _ _ _ _ _ _
      | exact ih1 _ _ _ _ _ _ _ _ _ _
      | exact ih2 _ _ _ _ _ _ _ _ _ _
      | exact ih3 _ _ _ _ _ _ _ _ _ _
      | exact scholiastlaw02_shown.mono _
      | exact token_Rune.mono _ _
      | exact token_Unquote.mono _ _
      | exact LeO.none _
      | refine LeO.ite ?_ ?_
      | refine LeO.bind ?_ (fun _ => ?_)
    · intro y0 y1 y2 y3 y4 y5 y6 y7 y8 y9
      unfold scholiastlaw02_TokenQuotes.j3
      repeat' first
      | (with_reducible exact ih0 _ _ _ _ _ _ _ _)
      | (with_reducible exact ih1 _ _ _ _ _ _ _ _ _ _)
      | (with_reducible exact ih2 _ _ _ _ _ _ _ _ _ _)
      | (with_reducible exact ih3 _ _ _ _ _ _ _ _ _ _)
      | (with_reducible exact scholiastlaw02_shown.mono _)
      | (with_reducible exact token_Rune.mono _ _)
      | (with_reducible exact token_Unquote.mono _ _)
      | (with_reducible exact LeO.refl _)
      | (with_reducible exact LeO.none _)
      | (with_reducible refine LeO.ite ?_ ?_)
      | (with_reducible refine LeO.bind ?_ (fun _ => ?_))
      | exact ih0 _ _ _ _ _ _ _ _
      | exact ih1 _ _ _ _ _ _ _ _ _ _
      | exact ih2 _ _ _ _ _ _ _ _ _ _
      | exact ih3 _ _ _ _ _ _ _ _ _ _
      | exact scholiastlaw02_shown.mono _
      | exact token_Rune.mono _ _
      | exact token_Unquote.mono _ _
      | exact LeO.none _
      | refine LeO.ite ?_ ?_
      | refine LeO.bind ?_ (fun _ => ?_)
theorem scholiastlaw02_TokenQuotes.mono : ∀ a0 a1 k, LeO (scholiastlaw02_TokenQuotes.f k a0 a1) (scholiastlaw02_TokenQuotes.f (k + 1) a0 a1) := by
  intro a0 a1 k
  obtain ⟨ih0, ih1, ih2, ih3⟩ := scholiastlaw02_TokenQuotes.mono_l k
  unfold scholiastlaw02_TokenQuotes.f
  repeat' first
      | (with_reducible exact ih0 _ _ _ _ _ _ _ _)
      | (with_reducible exact ih1 _ _ _ _ _ _ _ _ _ _)
      | (with_reducible exact ih2 _ _ _ _ _ _ _ _ _ _)
      | (with_reducible exact ih3 _ _ _ _ _ _ _ _ _ _)
      | (with_reducible exact scholiastlaw02_shown.mono _)
      | (with_reducible exact token_Rune.mono _ _)
      | (with_reducible exact token_Unquote.mono _ _)
      | (with_reducible exact LeO.refl _)
      | (with_reducible exact LeO.none _)
      | (with_reducible refine LeO.ite ?_ ?_)
      | (with_reducible refine LeO.bind ?_ (fun _ => ?_))
      | exact ih0 _ _ _ _ _ _ _ _
      | exact ih1 _ _ _ _ _ _ _ _ _ _
      | exact ih2 _ _ _ _ _ _ _ _ _ _
      | exact ih3 _ _ _ _ _ _ _ _ _ _
      | exact scholiastlaw02_shown.mono _
      | exact token_Rune.mono _ _
      | exact token_Unquote.mono _ _
      | exact LeO.none _
      | refine LeO.ite ?_ ?_
      | refine LeO.bind ?_ (fun _ => ?_)
set_option maxHeartbeats 8000000 in
set_option maxRecDepth 100000 in
theorem scholiastlaw02_TokenQuotes.calls (k : Nat) (A0 : Option Addr) (c0 : Nat) (l0 : List Int) (A1 : Option Addr) (c1 : Nat) (l1 : List Int) (r : Bool) (w : World) (hr0 : Kd.C (Kd.int .u8) w A0 l0.length l0) (hc0 : l0.length ≤ c0) (hr1 : Kd.C (Kd.int .i64) w A1 l1.length l1) (hc1 : l1.length ≤ c1) (HT : Tabs w) (h : scholiastlaw02_TokenQuotes.f k l0 l1 = some r) :
    Calls Tryd.prog 7 #[.slice A0 l0.length c0, .slice A1 l1.length c1] w fun e w' => e = .returned (.bool r) ∧ Below w.heap.size w w' := by
  have HR0 := Aside0.mk hr0
  have HC0 := Aside0.mk hc0
  clear hr0 hc0
  have HR1 := Aside0.mk hr1
  have HC1 := Aside0.mk hc1
  clear hr1 hc1
  have HB := Aside0.mk (Below.refl w.heap.size w)
  have H : (if (l0.length : Int) > 134217728 then (some true) else ((scholiastlaw02_shown.f k).bind fun t170 => (if t170 = true then (scholiastlaw02_TokenQuotes.l0 k l0 l1 (⟨#[]⟩ : ByteArray) (⟨#[]⟩ : ByteArray) (⟨#[]⟩ : ByteArray) l0 (l0.length : Int) 0) else (some false)))) = some r := h
  clear h
  by_cases c3 : (l0.length : Int) > 134217728
  · rw [if_pos c3] at H
    have c3b0 : decide (134217728 < (l0.length : Int)) = true := decide_eq_true c3
    have c3b1 : decide (134217728 < l0.length) = true := decide_eq_true (by omega)
    clear c3
    obtain rfl := Option.some.inj H
    go_enter Tryd.func7, Tryd.ntmps7
    go_wp2
    repeat (go_quiet (fail); try go_wp2)
    go_ret
    exact ⟨by first | rfl | (simp [errW_none, errW_some] <;> rfl) | (simp [*, errW_none, errW_some] <;> rfl), by repeat (first | (with_reducible first | exact HB.out | apply below_alloc | apply pw_below_drewN | apply below_drew1) | exact HB.out)⟩
  · rw [if_neg c3] at H
    have c3b0 : decide (134217728 < (l0.length : Int)) = false := decide_eq_false c3
    have c3b1 : decide (134217728 < l0.length) = false := decide_eq_false (by omega)
    clear c3
    replace H := Option.bind_eq_some_iff.mp H
    obtain ⟨t170, A40, H⟩ := H
    replace H : (if t170 = true then (scholiastlaw02_TokenQuotes.l0 k l0 l1 (⟨#[]⟩ : ByteArray) (⟨#[]⟩ : ByteArray) (⟨#[]⟩ : ByteArray) l0 (l0.length : Int) 0) else (some false)) = some r := H
    have A4 := Aside0.mk A40
    clear A40
    by_cases c5 : t170 = true
    · subst c5
      have H1 : (scholiastlaw02_TokenQuotes.l0 k l0 l1 (⟨#[]⟩ : ByteArray) (⟨#[]⟩ : ByteArray) (⟨#[]⟩ : ByteArray) l0 (l0.length : Int) 0) = some r := by rw [if_pos rfl] at H; exact H
      clear H
      have H := H1
      clear H1
      have H' := Aside0.mk H
      clear H
      go_enter Tryd.func7, Tryd.ntmps7
      go_wp2_with (first | (go_at_call 10; (with_reducible refine (scholiastlaw02_shown.calls k  true _ ?side1 A4.out).mono ?_); (case side1 => exact Tabs.below HT (by repeat (first | (with_reducible first | exact HB.out | apply below_alloc | apply pw_below_drewN | apply below_drew1) | exact HB.out))); rintro e w6 ⟨rfl, hb⟩; have n0_ := Aside0.mk (below_step (by repeat (first | (with_reducible first | exact HB.out | apply below_alloc | apply pw_below_drewN | apply below_drew1) | exact HB.out)) hb); clear HB; have HB := n0_; clear n0_; (try clear hb); (try clear hb2); (try clear hk); (try clear hi)))
      repeat (go_quiet (first | (go_at_call 10; (with_reducible refine (scholiastlaw02_shown.calls k  true _ ?side1 A4.out).mono ?_); (case side1 => exact Tabs.below HT (by repeat (first | (with_reducible first | exact HB.out | apply below_alloc | apply pw_below_drewN | apply below_drew1) | exact HB.out))); rintro e w6 ⟨rfl, hb⟩; have n0_ := Aside0.mk (below_step (by repeat (first | (with_reducible first | exact HB.out | apply below_alloc | apply pw_below_drewN | apply below_drew1) | exact HB.out)) hb); clear HB; have HB := n0_; clear n0_; (try clear hb); (try clear hb2); (try clear hk); (try clear hi))); try go_wp2_with (first | (go_at_call 10; (with_reducible refine (scholiastlaw02_shown.calls k  true _ ?side1 A4.out).mono ?_); (case side1 => exact Tabs.below HT (by repeat (first | (with_reducible first | exact HB.out | apply below_alloc | apply pw_below_drewN | apply below_drew1) | exact HB.out))); rintro e w6 ⟨rfl, hb⟩; have n0_ := Aside0.mk (below_step (by repeat (first | (with_reducible first | exact HB.out | apply below_alloc | apply pw_below_drewN | apply below_drew1) | exact HB.out)) hb); clear HB; have HB := n0_; clear n0_; (try clear hb); (try clear hb2); (try clear hk); (try clear hi))))
      go_loopg [5, 6, 7, 35] k (fun kq v5 v6 v7 v35 w' => ∃ (x5_1 : ByteArray) (x6_1 : ByteArray) (x7_1 : ByteArray) (x35_1 : Int), v5 = .string x5_1 ∧ v6 = .string x6_1 ∧ v7 = .string x7_1 ∧ v35 = .int .i64 x35_1 ∧ Aside0 (scholiastlaw02_TokenQuotes.l0 kq l0 l1 x5_1 x6_1 x7_1 l0 (l0.length : Int) x35_1 = some r) ∧ Aside0 (kq ≤ k) ∧ Aside0 (Below w.heap.size w w'))
      case atStart => exact ⟨((⟨#[]⟩ : ByteArray)), ((⟨#[]⟩ : ByteArray)), ((⟨#[]⟩ : ByteArray)), (0), (by first | rfl | (simp; done) | (simp [*]; done) | (simp [wrap64]; done) | (simp [isEmpty_bne]; done)), (by first | rfl | (simp; done) | (simp [*]; done) | (simp [wrap64]; done) | (simp [isEmpty_bne]; done)), (by first | rfl | (simp; done) | (simp [*]; done) | (simp [wrap64]; done) | (simp [isEmpty_bne]; done)), (by first | rfl | (simp; done) | (simp [*]; done) | (simp [wrap64]; done) | (simp [isEmpty_bne]; done)), H', ⟨Nat.le_refl _⟩, ⟨by repeat (first | (with_reducible first | exact HB.out | apply below_alloc | apply pw_below_drewN | apply below_drew1) | exact HB.out)⟩⟩
      case round =>
        clear H'
        try clear c1
        try clear p2
        try clear c3
        try clear c3b0
        try clear c3b1
        try clear c5
        try clear p6
        obtain ⟨x5_1, x6_1, x7_1, x35_1, rfl, rfl, rfl, rfl, HA, HK1, HB⟩ := hrel
        cases gk with
        | zero => exact absurd HA.out (by simp [scholiastlaw02_TokenQuotes.l0])
        | succ k1 =>
          have H := HA.out
          clear HA
          simp only [scholiastlaw02_TokenQuotes.l0] at H
          by_cases c7 : x35_1 < (l0.length : Int)
          · rw [if_pos c7] at H
            have c7b0 : decide (x35_1 < (l0.length : Int)) = true := decide_eq_true c7
            clear c7
            by_cases c8 : 0 ≤ x35_1
            · rw [if_pos c8] at H
              have c8b0 : decide (0 ≤ x35_1) = true := decide_eq_true c8
              clear c8
              by_cases c9 : x35_1 < (l0.length : Int)
              · rw [if_pos c9] at H
                have c9b0 : decide (x35_1 < (l0.length : Int)) = true := decide_eq_true c9
                clear c9
                have HC10 := Aside0.mk H
                clear H
                have p171 : 0 ≤ (x35_1 : Int) := of_decide_eq_true (by first | (with_reducible assumption) | assumption)
                have q171 : x35_1 < (l0.length : Int) := of_decide_eq_true (by first | (with_reducible assumption) | assumption)
                obtain ⟨ad171, e171, hx171_0⟩ := Kd.at_int HR0.out x35_1 p171 q171
                cases e171
                replace hx171_0 := (HB.out.cell (World.block_lt_of_cell? w _ hx171_0)).trans hx171_0
                replace p171 := eq_true p171
                replace q171 := eq_true q171
                go_upto_if 43 with (fail)
                repeat (go_quiet (fail); go_upto_if 43 with (fail))
                go_cut [10] (fun v10 wc => ∃ (kq : Nat) (x10_9 : Int), v10 = .int .i64 x10_9 ∧ Aside0 (scholiastlaw02_TokenQuotes.j1 kq l0 l1 x5_1 x6_1 x7_1 (rd l0 x35_1) x10_9 l0 (l0.length : Int) x35_1 = some r) ∧ Aside0 (kq ≤ k1) ∧ Aside0 (Below w.heap.size w wc))
                case first =>
                  have H := HC10.out
                  clear HC10
                  by_cases c11 : x35_1 < (l1.length : Int)
                  · rw [if_pos c11] at H
                    have c11b0 : decide (x35_1 < (l1.length : Int)) = true := decide_eq_true c11
                    clear c11
                    (first | rw [c11b0] | (simp only [i64_w, i32_w]; rw [c11b0]) | skip)
                    have H' := Aside0.mk H
                    clear H
                    have p172 : 0 ≤ (x35_1 : Int) := of_decide_eq_true (by first | (with_reducible assumption) | assumption)
                    have q172 : x35_1 < (l1.length : Int) := of_decide_eq_true (by first | (with_reducible assumption) | assumption)
                    obtain ⟨ad172, e172, hx172_0⟩ := Kd.at_int HR1.out x35_1 p172 q172
                    cases e172
                    replace hx172_0 := (HB.out.cell (World.block_lt_of_cell? w _ hx172_0)).trans hx172_0
                    replace p172 := eq_true p172
                    replace q172 := eq_true q172
                    go_wp2
                    repeat (go_quiet (fail); try go_wp2)
                    go_meet
                    case rel => exact ⟨_, (rd l1 x35_1), (by first | rfl | (simp; done) | (simp [*]; done) | (simp [wrap64]; done) | (simp [isEmpty_bne]; done)), H', ⟨by have := HK1.out; first | omega | exact Nat.le_refl _⟩, ⟨by repeat (first | (with_reducible first | exact HB.out | apply below_alloc | apply pw_below_drewN | apply below_drew1) | exact HB.out)⟩⟩
                  · rw [if_neg c11] at H
                    have c11b0 : decide (x35_1 < (l1.length : Int)) = false := decide_eq_false c11
                    clear c11
                    (first | rw [c11b0] | (simp only [i64_w, i32_w]; rw [c11b0]) | skip)
                    have H' := Aside0.mk H
                    clear H
                    go_wp2
                    repeat (go_quiet (fail); try go_wp2)
                    go_meet
                    case rel => exact ⟨_, (0), (by first | rfl | (simp; done) | (simp [*]; done) | (simp [wrap64]; done) | (simp [isEmpty_bne]; done)), H', ⟨by have := HK1.out; first | omega | exact Nat.le_refl _⟩, ⟨by repeat (first | (with_reducible first | exact HB.out | apply below_alloc | apply pw_below_drewN | apply below_drew1) | exact HB.out)⟩⟩
                case rest =>
                  clear HC10
                  try clear c1
                  try clear p1
                  try clear q1
                  try clear hx1
                  try clear p2
                  try clear c3
                  try clear c3b0
                  try clear c3b1
                  try clear c5
                  try clear p6
                  try clear c7
                  try clear c7b0
                  try clear c8
                  try clear c8b0
                  try clear c9
                  try clear c9b0
                  try clear c11
                  try clear c11b0
                  try clear hx171_0
                  try clear hx172_0
                  try clear p171
                  try clear p172
                  try clear p2
                  try clear p6
                  try clear q171
                  try clear q172
                  obtain ⟨kq, x10_9, rfl, HA, HJ9, HB⟩ := hcut
                  cases kq with
                  | zero => exact absurd HA.out (by simp [scholiastlaw02_TokenQuotes.j1])
                  | succ kj9 =>
                    have H := HA.out
                    clear HA
                    simp only [scholiastlaw02_TokenQuotes.j1] at H
                    obtain ⟨ji12, hji12⟩ : ∃ j_ : Int, ((Int.tdiv (rd l0 x35_1) 16) % 256) = j_ := ⟨_, rfl⟩
                    replace H : (if 0 ≤ (ji12) then (if (ji12) ≤ (((ji12) + 1) % 256) then (if (((ji12) + 1) % 256) ≤ 16 then (if 2 + ((⟨#[48, 49, 50, 51, 52, 53, 54, 55, 56, 57, 97, 98, 99, 100, 101, 102]⟩ : ByteArray).extract ((ji12) : Int).toNat ((((ji12) + 1) % 256) : Int).toNat).size ≤ 9223372036854775807 then (if 0 ≤ (Int.tmod (rd l0 x35_1) 16) then (if (Int.tmod (rd l0 x35_1) 16) ≤ (((Int.tmod (rd l0 x35_1) 16) + 1) % 256) then (if (((Int.tmod (rd l0 x35_1) 16) + 1) % 256) ≤ 16 then (if ((⟨#[92, 120]⟩ : ByteArray) ++ ((⟨#[48, 49, 50, 51, 52, 53, 54, 55, 56, 57, 97, 98, 99, 100, 101, 102]⟩ : ByteArray).extract ((ji12) : Int).toNat ((((ji12) + 1) % 256) : Int).toNat)).size + ((⟨#[48, 49, 50, 51, 52, 53, 54, 55, 56, 57, 97, 98, 99, 100, 101, 102]⟩ : ByteArray).extract ((Int.tmod (rd l0 x35_1) 16) : Int).toNat ((((Int.tmod (rd l0 x35_1) 16) + 1) % 256) : Int).toNat).size ≤ 9223372036854775807 then (if (Int.tmod x10_9 2) = 0 then (scholiastlaw02_TokenQuotes.j2 kj9 l0 l1 x5_1 x6_1 x7_1 (rd l0 x35_1) (((⟨#[92, 120]⟩ : ByteArray) ++ ((⟨#[48, 49, 50, 51, 52, 53, 54, 55, 56, 57, 97, 98, 99, 100, 101, 102]⟩ : ByteArray).extract ((ji12) : Int).toNat ((((ji12) + 1) % 256) : Int).toNat)) ++ ((⟨#[48, 49, 50, 51, 52, 53, 54, 55, 56, 57, 97, 98, 99, 100, 101, 102]⟩ : ByteArray).extract ((Int.tmod (rd l0 x35_1) 16) : Int).toNat ((((Int.tmod (rd l0 x35_1) 16) + 1) % 256) : Int).toNat)) l0 (l0.length : Int) x35_1) else (if 0 ≤ ((Int.tdiv (rd l0 x35_1) 64) % 256) then (if ((Int.tdiv (rd l0 x35_1) 64) % 256) ≤ ((((Int.tdiv (rd l0 x35_1) 64) % 256) + 1) % 256) then (if ((((Int.tdiv (rd l0 x35_1) 64) % 256) + 1) % 256) ≤ 16 then (if 1 + ((⟨#[48, 49, 50, 51, 52, 53, 54, 55, 56, 57, 97, 98, 99, 100, 101, 102]⟩ : ByteArray).extract (((Int.tdiv (rd l0 x35_1) 64) % 256) : Int).toNat (((((Int.tdiv (rd l0 x35_1) 64) % 256) + 1) % 256) : Int).toNat).size ≤ 9223372036854775807 then (if 0 ≤ (Int.tmod ((Int.tdiv (rd l0 x35_1) 8) % 256) 8) then (if (Int.tmod ((Int.tdiv (rd l0 x35_1) 8) % 256) 8) ≤ (((Int.tmod ((Int.tdiv (rd l0 x35_1) 8) % 256) 8) + 1) % 256) then (if (((Int.tmod ((Int.tdiv (rd l0 x35_1) 8) % 256) 8) + 1) % 256) ≤ 16 then (if ((⟨#[92]⟩ : ByteArray) ++ ((⟨#[48, 49, 50, 51, 52, 53, 54, 55, 56, 57, 97, 98, 99, 100, 101, 102]⟩ : ByteArray).extract (((Int.tdiv (rd l0 x35_1) 64) % 256) : Int).toNat (((((Int.tdiv (rd l0 x35_1) 64) % 256) + 1) % 256) : Int).toNat)).size + ((⟨#[48, 49, 50, 51, 52, 53, 54, 55, 56, 57, 97, 98, 99, 100, 101, 102]⟩ : ByteArray).extract ((Int.tmod ((Int.tdiv (rd l0 x35_1) 8) % 256) 8) : Int).toNat ((((Int.tmod ((Int.tdiv (rd l0 x35_1) 8) % 256) 8) + 1) % 256) : Int).toNat).size ≤ 9223372036854775807 then (if 0 ≤ (Int.tmod (rd l0 x35_1) 8) then (if (Int.tmod (rd l0 x35_1) 8) ≤ (((Int.tmod (rd l0 x35_1) 8) + 1) % 256) then (if (((Int.tmod (rd l0 x35_1) 8) + 1) % 256) ≤ 16 then (if (((⟨#[92]⟩ : ByteArray) ++ ((⟨#[48, 49, 50, 51, 52, 53, 54, 55, 56, 57, 97, 98, 99, 100, 101, 102]⟩ : ByteArray).extract (((Int.tdiv (rd l0 x35_1) 64) % 256) : Int).toNat (((((Int.tdiv (rd l0 x35_1) 64) % 256) + 1) % 256) : Int).toNat)) ++ ((⟨#[48, 49, 50, 51, 52, 53, 54, 55, 56, 57, 97, 98, 99, 100, 101, 102]⟩ : ByteArray).extract ((Int.tmod ((Int.tdiv (rd l0 x35_1) 8) % 256) 8) : Int).toNat ((((Int.tmod ((Int.tdiv (rd l0 x35_1) 8) % 256) 8) + 1) % 256) : Int).toNat)).size + ((⟨#[48, 49, 50, 51, 52, 53, 54, 55, 56, 57, 97, 98, 99, 100, 101, 102]⟩ : ByteArray).extract ((Int.tmod (rd l0 x35_1) 8) : Int).toNat ((((Int.tmod (rd l0 x35_1) 8) + 1) % 256) : Int).toNat).size ≤ 9223372036854775807 then (scholiastlaw02_TokenQuotes.j2 kj9 l0 l1 x5_1 x6_1 x7_1 (rd l0 x35_1) ((((⟨#[92]⟩ : ByteArray) ++ ((⟨#[48, 49, 50, 51, 52, 53, 54, 55, 56, 57, 97, 98, 99, 100, 101, 102]⟩ : ByteArray).extract (((Int.tdiv (rd l0 x35_1) 64) % 256) : Int).toNat (((((Int.tdiv (rd l0 x35_1) 64) % 256) + 1) % 256) : Int).toNat)) ++ ((⟨#[48, 49, 50, 51, 52, 53, 54, 55, 56, 57, 97, 98, 99, 100, 101, 102]⟩ : ByteArray).extract ((Int.tmod ((Int.tdiv (rd l0 x35_1) 8) % 256) 8) : Int).toNat ((((Int.tmod ((Int.tdiv (rd l0 x35_1) 8) % 256) 8) + 1) % 256) : Int).toNat)) ++ ((⟨#[48, 49, 50, 51, 52, 53, 54, 55, 56, 57, 97, 98, 99, 100, 101, 102]⟩ : ByteArray).extract ((Int.tmod (rd l0 x35_1) 8) : Int).toNat ((((Int.tmod (rd l0 x35_1) 8) + 1) % 256) : Int).toNat)) l0 (l0.length : Int) x35_1) else (none)) else (none)) else (none)) else (none)) else (none)) else (none)) else (none)) else (none)) else (none)) else (none)) else (none)) else (none))) else (none)) else (none)) else (none)) else (none)) else (none)) else (none)) else (none)) else (none)) = some r := by first | (rw [hji12] at H; exact H) | (simp only [hji12] at H ⊢; exact H)
                    by_cases c13 : 0 ≤ (ji12)
                    · rw [if_pos c13] at H
                      have c13b0 := eq_true c13
                      have c13b1 : decide (0 ≤ (ji12)) = true := decide_eq_true c13
                      clear c13
                      by_cases c14 : (ji12) ≤ (((ji12) + 1) % 256)
                      · rw [if_pos c14] at H
                        have c14b0 := eq_true c14
                        have c14b1 : decide ((ji12) ≤ (((ji12) + 1) % 256)) = true := decide_eq_true c14
                        by_cases c15 : (((ji12) + 1) % 256) ≤ 16
                        · rw [if_pos c15] at H
                          have c15b0 := eq_true c15
                          have c15b1 : decide ((((ji12) + 1) % 256) ≤ 16) = true := decide_eq_true c15
                          by_cases c16 : 2 + ((⟨#[48, 49, 50, 51, 52, 53, 54, 55, 56, 57, 97, 98, 99, 100, 101, 102]⟩ : ByteArray).extract ((ji12) : Int).toNat ((((ji12) + 1) % 256) : Int).toNat).size ≤ 9223372036854775807
                          · rw [if_pos c16] at H
                            have c16b0 := eq_true c16
                            have c16b1 : decide (2 + ((⟨#[48, 49, 50, 51, 52, 53, 54, 55, 56, 57, 97, 98, 99, 100, 101, 102]⟩ : ByteArray).extract ((ji12) : Int).toNat ((((ji12) + 1) % 256) : Int).toNat).size ≤ 9223372036854775807) = true := decide_eq_true c16
                            try have c16b2 : (9223372036854775807 < 2 + ((⟨#[48, 49, 50, 51, 52, 53, 54, 55, 56, 57, 97, 98, 99, 100, 101, 102]⟩ : ByteArray).extract ((ji12) : Int).toNat ((((ji12) + 1) % 256) : Int).toNat).size) = False := eq_false (Nat.not_lt.2 c16)
                            obtain ⟨ji17, hji17⟩ : ∃ j_ : Int, (Int.tmod (rd l0 x35_1) 16) = j_ := ⟨_, rfl⟩
                            replace H : (if 0 ≤ (ji17) then (if (ji17) ≤ (((ji17) + 1) % 256) then (if (((ji17) + 1) % 256) ≤ 16 then (if ((⟨#[92, 120]⟩ : ByteArray) ++ ((⟨#[48, 49, 50, 51, 52, 53, 54, 55, 56, 57, 97, 98, 99, 100, 101, 102]⟩ : ByteArray).extract ((ji12) : Int).toNat ((((ji12) + 1) % 256) : Int).toNat)).size + ((⟨#[48, 49, 50, 51, 52, 53, 54, 55, 56, 57, 97, 98, 99, 100, 101, 102]⟩ : ByteArray).extract ((ji17) : Int).toNat ((((ji17) + 1) % 256) : Int).toNat).size ≤ 9223372036854775807 then (if (Int.tmod x10_9 2) = 0 then (scholiastlaw02_TokenQuotes.j2 kj9 l0 l1 x5_1 x6_1 x7_1 (rd l0 x35_1) (((⟨#[92, 120]⟩ : ByteArray) ++ ((⟨#[48, 49, 50, 51, 52, 53, 54, 55, 56, 57, 97, 98, 99, 100, 101, 102]⟩ : ByteArray).extract ((ji12) : Int).toNat ((((ji12) + 1) % 256) : Int).toNat)) ++ ((⟨#[48, 49, 50, 51, 52, 53, 54, 55, 56, 57, 97, 98, 99, 100, 101, 102]⟩ : ByteArray).extract ((ji17) : Int).toNat ((((ji17) + 1) % 256) : Int).toNat)) l0 (l0.length : Int) x35_1) else (if 0 ≤ ((Int.tdiv (rd l0 x35_1) 64) % 256) then (if ((Int.tdiv (rd l0 x35_1) 64) % 256) ≤ ((((Int.tdiv (rd l0 x35_1) 64) % 256) + 1) % 256) then (if ((((Int.tdiv (rd l0 x35_1) 64) % 256) + 1) % 256) ≤ 16 then (if 1 + ((⟨#[48, 49, 50, 51, 52, 53, 54, 55, 56, 57, 97, 98, 99, 100, 101, 102]⟩ : ByteArray).extract (((Int.tdiv (rd l0 x35_1) 64) % 256) : Int).toNat (((((Int.tdiv (rd l0 x35_1) 64) % 256) + 1) % 256) : Int).toNat).size ≤ 9223372036854775807 then (if 0 ≤ (Int.tmod ((Int.tdiv (rd l0 x35_1) 8) % 256) 8) then (if (Int.tmod ((Int.tdiv (rd l0 x35_1) 8) % 256) 8) ≤ (((Int.tmod ((Int.tdiv (rd l0 x35_1) 8) % 256) 8) + 1) % 256) then (if (((Int.tmod ((Int.tdiv (rd l0 x35_1) 8) % 256) 8) + 1) % 256) ≤ 16 then (if ((⟨#[92]⟩ : ByteArray) ++ ((⟨#[48, 49, 50, 51, 52, 53, 54, 55, 56, 57, 97, 98, 99, 100, 101, 102]⟩ : ByteArray).extract (((Int.tdiv (rd l0 x35_1) 64) % 256) : Int).toNat (((((Int.tdiv (rd l0 x35_1) 64) % 256) + 1) % 256) : Int).toNat)).size + ((⟨#[48, 49, 50, 51, 52, 53, 54, 55, 56, 57, 97, 98, 99, 100, 101, 102]⟩ : ByteArray).extract ((Int.tmod ((Int.tdiv (rd l0 x35_1) 8) % 256) 8) : Int).toNat ((((Int.tmod ((Int.tdiv (rd l0 x35_1) 8) % 256) 8) + 1) % 256) : Int).toNat).size ≤ 9223372036854775807 then (if 0 ≤ (Int.tmod (rd l0 x35_1) 8) then (if (Int.tmod (rd l0 x35_1) 8) ≤ (((Int.tmod (rd l0 x35_1) 8) + 1) % 256) then (if (((Int.tmod (rd l0 x35_1) 8) + 1) % 256) ≤ 16 then (if (((⟨#[92]⟩ : ByteArray) ++ ((⟨#[48, 49, 50, 51, 52, 53, 54, 55, 56, 57, 97, 98, 99, 100, 101, 102]⟩ : ByteArray).extract (((Int.tdiv (rd l0 x35_1) 64) % 256) : Int).toNat (((((Int.tdiv (rd l0 x35_1) 64) % 256) + 1) % 256) : Int).toNat)) ++ ((⟨#[48, 49, 50, 51, 52, 53, 54, 55, 56, 57, 97, 98, 99, 100, 101, 102]⟩ : ByteArray).extract ((Int.tmod ((Int.tdiv (rd l0 x35_1) 8) % 256) 8) : Int).toNat ((((Int.tmod ((Int.tdiv (rd l0 x35_1) 8) % 256) 8) + 1) % 256) : Int).toNat)).size + ((⟨#[48, 49, 50, 51, 52, 53, 54, 55, 56, 57, 97, 98, 99, 100, 101, 102]⟩ : ByteArray).extract ((Int.tmod (rd l0 x35_1) 8) : Int).toNat ((((Int.tmod (rd l0 x35_1) 8) + 1) % 256) : Int).toNat).size ≤ 9223372036854775807 then (scholiastlaw02_TokenQuotes.j2 kj9 l0 l1 x5_1 x6_1 x7_1 (rd l0 x35_1) ((((⟨#[92]⟩ : ByteArray) ++ ((⟨#[48, 49, 50, 51, 52, 53, 54, 55, 56, 57, 97, 98, 99, 100, 101, 102]⟩ : ByteArray).extract (((Int.tdiv (rd l0 x35_1) 64) % 256) : Int).toNat (((((Int.tdiv (rd l0 x35_1) 64) % 256) + 1) % 256) : Int).toNat)) ++ ((⟨#[48, 49, 50, 51, 52, 53, 54, 55, 56, 57, 97, 98, 99, 100, 101, 102]⟩ : ByteArray).extract ((Int.tmod ((Int.tdiv (rd l0 x35_1) 8) % 256) 8) : Int).toNat ((((Int.tmod ((Int.tdiv (rd l0 x35_1) 8) % 256) 8) + 1) % 256) : Int).toNat)) ++ ((⟨#[48, 49, 50, 51, 52, 53, 54, 55, 56, 57, 97, 98, 99, 100, 101, 102]⟩ : ByteArray).extract ((Int.tmod (rd l0 x35_1) 8) : Int).toNat ((((Int.tmod (rd l0 x35_1) 8) + 1) % 256) : Int).toNat)) l0 (l0.length : Int) x35_1) else (none)) else (none)) else (none)) else (none)) else (none)) else (none)) else (none)) else (none)) else (none)) else (none)) else (none)) else (none))) else (none)) else (none)) else (none)) else (none)) = some r := by first | (rw [hji17] at H; exact H) | (simp only [hji17] at H ⊢; exact H)
                            by_cases c18 : 0 ≤ (ji17)
                            · rw [if_pos c18] at H
                              have c18b0 := eq_true c18
                              have c18b1 : decide (0 ≤ (ji17)) = true := decide_eq_true c18
                              clear c18
                              by_cases c19 : (ji17) ≤ (((ji17) + 1) % 256)
                              · rw [if_pos c19] at H
                                have c19b0 := eq_true c19
                                have c19b1 : decide ((ji17) ≤ (((ji17) + 1) % 256)) = true := decide_eq_true c19
                                by_cases c20 : (((ji17) + 1) % 256) ≤ 16
                                · rw [if_pos c20] at H
                                  have c20b0 := eq_true c20
                                  have c20b1 : decide ((((ji17) + 1) % 256) ≤ 16) = true := decide_eq_true c20
                                  by_cases c21 : ((⟨#[92, 120]⟩ : ByteArray) ++ ((⟨#[48, 49, 50, 51, 52, 53, 54, 55, 56, 57, 97, 98, 99, 100, 101, 102]⟩ : ByteArray).extract ((ji12) : Int).toNat ((((ji12) + 1) % 256) : Int).toNat)).size + ((⟨#[48, 49, 50, 51, 52, 53, 54, 55, 56, 57, 97, 98, 99, 100, 101, 102]⟩ : ByteArray).extract ((ji17) : Int).toNat ((((ji17) + 1) % 256) : Int).toNat).size ≤ 9223372036854775807
                                  · rw [if_pos c21] at H
                                    have c21b0 := eq_true c21
                                    have c21b1 : decide (((⟨#[92, 120]⟩ : ByteArray) ++ ((⟨#[48, 49, 50, 51, 52, 53, 54, 55, 56, 57, 97, 98, 99, 100, 101, 102]⟩ : ByteArray).extract ((ji12) : Int).toNat ((((ji12) + 1) % 256) : Int).toNat)).size + ((⟨#[48, 49, 50, 51, 52, 53, 54, 55, 56, 57, 97, 98, 99, 100, 101, 102]⟩ : ByteArray).extract ((ji17) : Int).toNat ((((ji17) + 1) % 256) : Int).toNat).size ≤ 9223372036854775807) = true := decide_eq_true c21
                                    try have c21b2 : (9223372036854775807 < ((⟨#[92, 120]⟩ : ByteArray) ++ ((⟨#[48, 49, 50, 51, 52, 53, 54, 55, 56, 57, 97, 98, 99, 100, 101, 102]⟩ : ByteArray).extract ((ji12) : Int).toNat ((((ji12) + 1) % 256) : Int).toNat)).size + ((⟨#[48, 49, 50, 51, 52, 53, 54, 55, 56, 57, 97, 98, 99, 100, 101, 102]⟩ : ByteArray).extract ((ji17) : Int).toNat ((((ji17) + 1) % 256) : Int).toNat).size) = False := eq_false (Nat.not_lt.2 c21)
                                    (try (have c21b5 : (2 + ((⟨#[48, 49, 50, 51, 52, 53, 54, 55, 56, 57, 97, 98, 99, 100, 101, 102]⟩ : ByteArray).extract ((ji12) : Int).toNat ((((ji12) + 1) % 256) : Int).toNat).size) + ((⟨#[48, 49, 50, 51, 52, 53, 54, 55, 56, 57, 97, 98, 99, 100, 101, 102]⟩ : ByteArray).extract ((ji17) : Int).toNat ((((ji17) + 1) % 256) : Int).toNat).size ≤ 9223372036854775807 := by have h_ := c21; simp only [ByteArray.size_append] at h_; exact h_))
                                    (try (have c21b4 := c21; simp only [ByteArray.size_append, Int.natCast_add] at c21b4; replace c21b4 := eq_true c21b4))
                                    have HC22 := Aside0.mk H
                                    clear H
                                    go_upto_if 66 with (fail)
                                    repeat (go_quiet (fail); go_upto_if 66 with (fail))
                                    go_cut [12] (fun v12 wc => ∃ (kq : Nat) (x12_21 : ByteArray), v12 = .string x12_21 ∧ Aside0 (scholiastlaw02_TokenQuotes.j2 kq l0 l1 x5_1 x6_1 x7_1 (rd l0 x35_1) x12_21 l0 (l0.length : Int) x35_1 = some r) ∧ Aside0 (kq ≤ kj9) ∧ Aside0 (Below w.heap.size w wc))
                                    case first =>
                                      have H := HC22.out
                                      clear HC22
                                      by_cases c23 : (Int.tmod x10_9 2) = 0
                                      · rw [if_pos c23] at H
                                        have c23b0 : ((Int.tmod x10_9 2) == 0) = true := beq_iff_eq.mpr c23
                                        have c23b1 : ((Int.tmod x10_9 2) != 0) = false := bne_eq_false_iff_eq.mpr c23
                                        clear c23
                                        (first | rw [c23b0] | (simp only [i64_w, i32_w]; rw [c23b0]) | skip)
                                        have H' := Aside0.mk H
                                        clear H
                                        go_wp2
                                        repeat (go_quiet (fail); try go_wp2)
                                        go_meet
                                        case rel => exact ⟨_, (((⟨#[92, 120]⟩ : ByteArray) ++ ((⟨#[48, 49, 50, 51, 52, 53, 54, 55, 56, 57, 97, 98, 99, 100, 101, 102]⟩ : ByteArray).extract ((ji12) : Int).toNat ((((ji12) + 1) % 256) : Int).toNat)) ++ ((⟨#[48, 49, 50, 51, 52, 53, 54, 55, 56, 57, 97, 98, 99, 100, 101, 102]⟩ : ByteArray).extract ((ji17) : Int).toNat ((((ji17) + 1) % 256) : Int).toNat)), (by first | rfl | (simp; done) | (simp only [← hji12, ← hji17] <;> (first | rfl | simp)) | (simp [*]; done)), H', ⟨by have := HK1.out; have := HJ9.out; first | omega | exact Nat.le_refl _⟩, ⟨by repeat (first | (with_reducible first | exact HB.out | apply below_alloc | apply pw_below_drewN | apply below_drew1) | exact HB.out)⟩⟩
                                      · rw [if_neg c23] at H
                                        have c23b0 : ((Int.tmod x10_9 2) == 0) = false := beq_eq_false_iff_ne.mpr c23
                                        have c23b1 : ((Int.tmod x10_9 2) != 0) = true := bne_iff_ne.mpr c23
                                        (first | rw [c23b0] | (simp only [i64_w, i32_w]; rw [c23b0]) | skip)
                                        obtain ⟨ji24, hji24⟩ : ∃ j_ : Int, ((Int.tdiv (rd l0 x35_1) 64) % 256) = j_ := ⟨_, rfl⟩
                                        replace H : (if 0 ≤ (ji24) then (if (ji24) ≤ (((ji24) + 1) % 256) then (if (((ji24) + 1) % 256) ≤ 16 then (if 1 + ((⟨#[48, 49, 50, 51, 52, 53, 54, 55, 56, 57, 97, 98, 99, 100, 101, 102]⟩ : ByteArray).extract ((ji24) : Int).toNat ((((ji24) + 1) % 256) : Int).toNat).size ≤ 9223372036854775807 then (if 0 ≤ (Int.tmod ((Int.tdiv (rd l0 x35_1) 8) % 256) 8) then (if (Int.tmod ((Int.tdiv (rd l0 x35_1) 8) % 256) 8) ≤ (((Int.tmod ((Int.tdiv (rd l0 x35_1) 8) % 256) 8) + 1) % 256) then (if (((Int.tmod ((Int.tdiv (rd l0 x35_1) 8) % 256) 8) + 1) % 256) ≤ 16 then (if ((⟨#[92]⟩ : ByteArray) ++ ((⟨#[48, 49, 50, 51, 52, 53, 54, 55, 56, 57, 97, 98, 99, 100, 101, 102]⟩ : ByteArray).extract ((ji24) : Int).toNat ((((ji24) + 1) % 256) : Int).toNat)).size + ((⟨#[48, 49, 50, 51, 52, 53, 54, 55, 56, 57, 97, 98, 99, 100, 101, 102]⟩ : ByteArray).extract ((Int.tmod ((Int.tdiv (rd l0 x35_1) 8) % 256) 8) : Int).toNat ((((Int.tmod ((Int.tdiv (rd l0 x35_1) 8) % 256) 8) + 1) % 256) : Int).toNat).size ≤ 9223372036854775807 then (if 0 ≤ (Int.tmod (rd l0 x35_1) 8) then (if (Int.tmod (rd l0 x35_1) 8) ≤ (((Int.tmod (rd l0 x35_1) 8) + 1) % 256) then (if (((Int.tmod (rd l0 x35_1) 8) + 1) % 256) ≤ 16 then (if (((⟨#[92]⟩ : ByteArray) ++ ((⟨#[48, 49, 50, 51, 52, 53, 54, 55, 56, 57, 97, 98, 99, 100, 101, 102]⟩ : ByteArray).extract ((ji24) : Int).toNat ((((ji24) + 1) % 256) : Int).toNat)) ++ ((⟨#[48, 49, 50, 51, 52, 53, 54, 55, 56, 57, 97, 98, 99, 100, 101, 102]⟩ : ByteArray).extract ((Int.tmod ((Int.tdiv (rd l0 x35_1) 8) % 256) 8) : Int).toNat ((((Int.tmod ((Int.tdiv (rd l0 x35_1) 8) % 256) 8) + 1) % 256) : Int).toNat)).size + ((⟨#[48, 49, 50, 51, 52, 53, 54, 55, 56, 57, 97, 98, 99, 100, 101, 102]⟩ : ByteArray).extract ((Int.tmod (rd l0 x35_1) 8) : Int).toNat ((((Int.tmod (rd l0 x35_1) 8) + 1) % 256) : Int).toNat).size ≤ 9223372036854775807 then (scholiastlaw02_TokenQuotes.j2 kj9 l0 l1 x5_1 x6_1 x7_1 (rd l0 x35_1) ((((⟨#[92]⟩ : ByteArray) ++ ((⟨#[48, 49, 50, 51, 52, 53, 54, 55, 56, 57, 97, 98, 99, 100, 101, 102]⟩ : ByteArray).extract ((ji24) : Int).toNat ((((ji24) + 1) % 256) : Int).toNat)) ++ ((⟨#[48, 49, 50, 51, 52, 53, 54, 55, 56, 57, 97, 98, 99, 100, 101, 102]⟩ : ByteArray).extract ((Int.tmod ((Int.tdiv (rd l0 x35_1) 8) % 256) 8) : Int).toNat ((((Int.tmod ((Int.tdiv (rd l0 x35_1) 8) % 256) 8) + 1) % 256) : Int).toNat)) ++ ((⟨#[48, 49, 50, 51, 52, 53, 54, 55, 56, 57, 97, 98, 99, 100, 101, 102]⟩ : ByteArray).extract ((Int.tmod (rd l0 x35_1) 8) : Int).toNat ((((Int.tmod (rd l0 x35_1) 8) + 1) % 256) : Int).toNat)) l0 (l0.length : Int) x35_1) else (none)) else (none)) else (none)) else (none)) else (none)) else (none)) else (none)) else (none)) else (none)) else (none)) else (none)) else (none)) = some r := by first | (rw [hji24] at H; exact H) | (simp only [hji24] at H ⊢; exact H)
                                        by_cases c25 : 0 ≤ (ji24)
                                        · rw [if_pos c25] at H
                                          have c25b0 := eq_true c25
                                          have c25b1 : decide (0 ≤ (ji24)) = true := decide_eq_true c25
                                          clear c25
                                          by_cases c26 : (ji24) ≤ (((ji24) + 1) % 256)
                                          · rw [if_pos c26] at H
                                            have c26b0 := eq_true c26
                                            have c26b1 : decide ((ji24) ≤ (((ji24) + 1) % 256)) = true := decide_eq_true c26
                                            by_cases c27 : (((ji24) + 1) % 256) ≤ 16
                                            · rw [if_pos c27] at H
                                              have c27b0 := eq_true c27
                                              have c27b1 : decide ((((ji24) + 1) % 256) ≤ 16) = true := decide_eq_true c27
                                              by_cases c28 : 1 + ((⟨#[48, 49, 50, 51, 52, 53, 54, 55, 56, 57, 97, 98, 99, 100, 101, 102]⟩ : ByteArray).extract ((ji24) : Int).toNat ((((ji24) + 1) % 256) : Int).toNat).size ≤ 9223372036854775807
                                              · rw [if_pos c28] at H
                                                have c28b0 := eq_true c28
                                                have c28b1 : decide (1 + ((⟨#[48, 49, 50, 51, 52, 53, 54, 55, 56, 57, 97, 98, 99, 100, 101, 102]⟩ : ByteArray).extract ((ji24) : Int).toNat ((((ji24) + 1) % 256) : Int).toNat).size ≤ 9223372036854775807) = true := decide_eq_true c28
                                                try have c28b2 : (9223372036854775807 < 1 + ((⟨#[48, 49, 50, 51, 52, 53, 54, 55, 56, 57, 97, 98, 99, 100, 101, 102]⟩ : ByteArray).extract ((ji24) : Int).toNat ((((ji24) + 1) % 256) : Int).toNat).size) = False := eq_false (Nat.not_lt.2 c28)
                                                obtain ⟨ji29, hji29⟩ : ∃ j_ : Int, (Int.tmod ((Int.tdiv (rd l0 x35_1) 8) % 256) 8) = j_ := ⟨_, rfl⟩
                                                replace H : (if 0 ≤ (ji29) then (if (ji29) ≤ (((ji29) + 1) % 256) then (if (((ji29) + 1) % 256) ≤ 16 then (if ((⟨#[92]⟩ : ByteArray) ++ ((⟨#[48, 49, 50, 51, 52, 53, 54, 55, 56, 57, 97, 98, 99, 100, 101, 102]⟩ : ByteArray).extract ((ji24) : Int).toNat ((((ji24) + 1) % 256) : Int).toNat)).size + ((⟨#[48, 49, 50, 51, 52, 53, 54, 55, 56, 57, 97, 98, 99, 100, 101, 102]⟩ : ByteArray).extract ((ji29) : Int).toNat ((((ji29) + 1) % 256) : Int).toNat).size ≤ 9223372036854775807 then (if 0 ≤ (Int.tmod (rd l0 x35_1) 8) then (if (Int.tmod (rd l0 x35_1) 8) ≤ (((Int.tmod (rd l0 x35_1) 8) + 1) % 256) then (if (((Int.tmod (rd l0 x35_1) 8) + 1) % 256) ≤ 16 then (if (((⟨#[92]⟩ : ByteArray) ++ ((⟨#[48, 49, 50, 51, 52, 53, 54, 55, 56, 57, 97, 98, 99, 100, 101, 102]⟩ : ByteArray).extract ((ji24) : Int).toNat ((((ji24) + 1) % 256) : Int).toNat)) ++ ((⟨#[48, 49, 50, 51, 52, 53, 54, 55, 56, 57, 97, 98, 99, 100, 101, 102]⟩ : ByteArray).extract ((ji29) : Int).toNat ((((ji29) + 1) % 256) : Int).toNat)).size + ((⟨#[48, 49, 50, 51, 52, 53, 54, 55, 56, 57, 97, 98, 99, 100, 101, 102]⟩ : ByteArray).extract ((Int.tmod (rd l0 x35_1) 8) : Int).toNat ((((Int.tmod (rd l0 x35_1) 8) + 1) % 256) : Int).toNat).size ≤ 9223372036854775807 then (scholiastlaw02_TokenQuotes.j2 kj9 l0 l1 x5_1 x6_1 x7_1 (rd l0 x35_1) ((((⟨#[92]⟩ : ByteArray) ++ ((⟨#[48, 49, 50, 51, 52, 53, 54, 55, 56, 57, 97, 98, 99, 100, 101, 102]⟩ : ByteArray).extract ((ji24) : Int).toNat ((((ji24) + 1) % 256) : Int).toNat)) ++ ((⟨#[48, 49, 50, 51, 52, 53, 54, 55, 56, 57, 97, 98, 99, 100, 101, 102]⟩ : ByteArray).extract ((ji29) : Int).toNat ((((ji29) + 1) % 256) : Int).toNat)) ++ ((⟨#[48, 49, 50, 51, 52, 53, 54, 55, 56, 57, 97, 98, 99, 100, 101, 102]⟩ : ByteArray).extract ((Int.tmod (rd l0 x35_1) 8) : Int).toNat ((((Int.tmod (rd l0 x35_1) 8) + 1) % 256) : Int).toNat)) l0 (l0.length : Int) x35_1) else (none)) else (none)) else (none)) else (none)) else (none)) else (none)) else (none)) else (none)) = some r := by first | (rw [hji29] at H; exact H) | (simp only [hji29] at H ⊢; exact H)
                                                by_cases c30 : 0 ≤ (ji29)
                                                · rw [if_pos c30] at H
                                                  have c30b0 := eq_true c30
                                                  have c30b1 : decide (0 ≤ (ji29)) = true := decide_eq_true c30
                                                  clear c30
                                                  by_cases c31 : (ji29) ≤ (((ji29) + 1) % 256)
                                                  · rw [if_pos c31] at H
                                                    have c31b0 := eq_true c31
                                                    have c31b1 : decide ((ji29) ≤ (((ji29) + 1) % 256)) = true := decide_eq_true c31
                                                    by_cases c32 : (((ji29) + 1) % 256) ≤ 16
                                                    · rw [if_pos c32] at H
                                                      have c32b0 := eq_true c32
                                                      have c32b1 : decide ((((ji29) + 1) % 256) ≤ 16) = true := decide_eq_true c32
                                                      by_cases c33 : ((⟨#[92]⟩ : ByteArray) ++ ((⟨#[48, 49, 50, 51, 52, 53, 54, 55, 56, 57, 97, 98, 99, 100, 101, 102]⟩ : ByteArray).extract ((ji24) : Int).toNat ((((ji24) + 1) % 256) : Int).toNat)).size + ((⟨#[48, 49, 50, 51, 52, 53, 54, 55, 56, 57, 97, 98, 99, 100, 101, 102]⟩ : ByteArray).extract ((ji29) : Int).toNat ((((ji29) + 1) % 256) : Int).toNat).size ≤ 9223372036854775807
                                                      · rw [if_pos c33] at H
                                                        have c33b0 := eq_true c33
                                                        have c33b1 : decide (((⟨#[92]⟩ : ByteArray) ++ ((⟨#[48, 49, 50, 51, 52, 53, 54, 55, 56, 57, 97, 98, 99, 100, 101, 102]⟩ : ByteArray).extract ((ji24) : Int).toNat ((((ji24) + 1) % 256) : Int).toNat)).size + ((⟨#[48, 49, 50, 51, 52, 53, 54, 55, 56, 57, 97, 98, 99, 100, 101, 102]⟩ : ByteArray).extract ((ji29) : Int).toNat ((((ji29) + 1) % 256) : Int).toNat).size ≤ 9223372036854775807) = true := decide_eq_true c33
                                                        try have c33b2 : (9223372036854775807 < ((⟨#[92]⟩ : ByteArray) ++ ((⟨#[48, 49, 50, 51, 52, 53, 54, 55, 56, 57, 97, 98, 99, 100, 101, 102]⟩ : ByteArray).extract ((ji24) : Int).toNat ((((ji24) + 1) % 256) : Int).toNat)).size + ((⟨#[48, 49, 50, 51, 52, 53, 54, 55, 56, 57, 97, 98, 99, 100, 101, 102]⟩ : ByteArray).extract ((ji29) : Int).toNat ((((ji29) + 1) % 256) : Int).toNat).size) = False := eq_false (Nat.not_lt.2 c33)
                                                        (try (have c33b5 : (1 + ((⟨#[48, 49, 50, 51, 52, 53, 54, 55, 56, 57, 97, 98, 99, 100, 101, 102]⟩ : ByteArray).extract ((ji24) : Int).toNat ((((ji24) + 1) % 256) : Int).toNat).size) + ((⟨#[48, 49, 50, 51, 52, 53, 54, 55, 56, 57, 97, 98, 99, 100, 101, 102]⟩ : ByteArray).extract ((ji29) : Int).toNat ((((ji29) + 1) % 256) : Int).toNat).size ≤ 9223372036854775807 := by have h_ := c33; simp only [ByteArray.size_append] at h_; exact h_))
                                                        (try (have c33b4 := c33; simp only [ByteArray.size_append, Int.natCast_add] at c33b4; replace c33b4 := eq_true c33b4))
                                                        obtain ⟨ji34, hji34⟩ : ∃ j_ : Int, (Int.tmod (rd l0 x35_1) 8) = j_ := ⟨_, rfl⟩
                                                        replace H : (if 0 ≤ (ji34) then (if (ji34) ≤ (((ji34) + 1) % 256) then (if (((ji34) + 1) % 256) ≤ 16 then (if (((⟨#[92]⟩ : ByteArray) ++ ((⟨#[48, 49, 50, 51, 52, 53, 54, 55, 56, 57, 97, 98, 99, 100, 101, 102]⟩ : ByteArray).extract ((ji24) : Int).toNat ((((ji24) + 1) % 256) : Int).toNat)) ++ ((⟨#[48, 49, 50, 51, 52, 53, 54, 55, 56, 57, 97, 98, 99, 100, 101, 102]⟩ : ByteArray).extract ((ji29) : Int).toNat ((((ji29) + 1) % 256) : Int).toNat)).size + ((⟨#[48, 49, 50, 51, 52, 53, 54, 55, 56, 57, 97, 98, 99, 100, 101, 102]⟩ : ByteArray).extract ((ji34) : Int).toNat ((((ji34) + 1) % 256) : Int).toNat).size ≤ 9223372036854775807 then (scholiastlaw02_TokenQuotes.j2 kj9 l0 l1 x5_1 x6_1 x7_1 (rd l0 x35_1) ((((⟨#[92]⟩ : ByteArray) ++ ((⟨#[48, 49, 50, 51, 52, 53, 54, 55, 56, 57, 97, 98, 99, 100, 101, 102]⟩ : ByteArray).extract ((ji24) : Int).toNat ((((ji24) + 1) % 256) : Int).toNat)) ++ ((⟨#[48, 49, 50, 51, 52, 53, 54, 55, 56, 57, 97, 98, 99, 100, 101, 102]⟩ : ByteArray).extract ((ji29) : Int).toNat ((((ji29) + 1) % 256) : Int).toNat)) ++ ((⟨#[48, 49, 50, 51, 52, 53, 54, 55, 56, 57, 97, 98, 99, 100, 101, 102]⟩ : ByteArray).extract ((ji34) : Int).toNat ((((ji34) + 1) % 256) : Int).toNat)) l0 (l0.length : Int) x35_1) else (none)) else (none)) else (none)) else (none)) = some r := by first | (rw [hji34] at H; exact H) | (simp only [hji34] at H ⊢; exact H)
                                                        by_cases c35 : 0 ≤ (ji34)
                                                        · rw [if_pos c35] at H
                                                          have c35b0 := eq_true c35
                                                          have c35b1 : decide (0 ≤ (ji34)) = true := decide_eq_true c35
                                                          clear c35
                                                          by_cases c36 : (ji34) ≤ (((ji34) + 1) % 256)
                                                          · rw [if_pos c36] at H
                                                            have c36b0 := eq_true c36
                                                            have c36b1 : decide ((ji34) ≤ (((ji34) + 1) % 256)) = true := decide_eq_true c36
                                                            by_cases c37 : (((ji34) + 1) % 256) ≤ 16
                                                            · rw [if_pos c37] at H
                                                              have c37b0 := eq_true c37
                                                              have c37b1 : decide ((((ji34) + 1) % 256) ≤ 16) = true := decide_eq_true c37
                                                              by_cases c38 : (((⟨#[92]⟩ : ByteArray) ++ ((⟨#[48, 49, 50, 51, 52, 53, 54, 55, 56, 57, 97, 98, 99, 100, 101, 102]⟩ : ByteArray).extract ((ji24) : Int).toNat ((((ji24) + 1) % 256) : Int).toNat)) ++ ((⟨#[48, 49, 50, 51, 52, 53, 54, 55, 56, 57, 97, 98, 99, 100, 101, 102]⟩ : ByteArray).extract ((ji29) : Int).toNat ((((ji29) + 1) % 256) : Int).toNat)).size + ((⟨#[48, 49, 50, 51, 52, 53, 54, 55, 56, 57, 97, 98, 99, 100, 101, 102]⟩ : ByteArray).extract ((ji34) : Int).toNat ((((ji34) + 1) % 256) : Int).toNat).size ≤ 9223372036854775807
                                                              · rw [if_pos c38] at H
                                                                have c38b0 := eq_true c38
                                                                have c38b1 : decide ((((⟨#[92]⟩ : ByteArray) ++ ((⟨#[48, 49, 50, 51, 52, 53, 54, 55, 56, 57, 97, 98, 99, 100, 101, 102]⟩ : ByteArray).extract ((ji24) : Int).toNat ((((ji24) + 1) % 256) : Int).toNat)) ++ ((⟨#[48, 49, 50, 51, 52, 53, 54, 55, 56, 57, 97, 98, 99, 100, 101, 102]⟩ : ByteArray).extract ((ji29) : Int).toNat ((((ji29) + 1) % 256) : Int).toNat)).size + ((⟨#[48, 49, 50, 51, 52, 53, 54, 55, 56, 57, 97, 98, 99, 100, 101, 102]⟩ : ByteArray).extract ((ji34) : Int).toNat ((((ji34) + 1) % 256) : Int).toNat).size ≤ 9223372036854775807) = true := decide_eq_true c38
                                                                try have c38b2 : (9223372036854775807 < (((⟨#[92]⟩ : ByteArray) ++ ((⟨#[48, 49, 50, 51, 52, 53, 54, 55, 56, 57, 97, 98, 99, 100, 101, 102]⟩ : ByteArray).extract ((ji24) : Int).toNat ((((ji24) + 1) % 256) : Int).toNat)) ++ ((⟨#[48, 49, 50, 51, 52, 53, 54, 55, 56, 57, 97, 98, 99, 100, 101, 102]⟩ : ByteArray).extract ((ji29) : Int).toNat ((((ji29) + 1) % 256) : Int).toNat)).size + ((⟨#[48, 49, 50, 51, 52, 53, 54, 55, 56, 57, 97, 98, 99, 100, 101, 102]⟩ : ByteArray).extract ((ji34) : Int).toNat ((((ji34) + 1) % 256) : Int).toNat).size) = False := eq_false (Nat.not_lt.2 c38)
                                                                (try (have c38b5 : ((1 + ((⟨#[48, 49, 50, 51, 52, 53, 54, 55, 56, 57, 97, 98, 99, 100, 101, 102]⟩ : ByteArray).extract ((ji24) : Int).toNat ((((ji24) + 1) % 256) : Int).toNat).size) + ((⟨#[48, 49, 50, 51, 52, 53, 54, 55, 56, 57, 97, 98, 99, 100, 101, 102]⟩ : ByteArray).extract ((ji29) : Int).toNat ((((ji29) + 1) % 256) : Int).toNat).size) + ((⟨#[48, 49, 50, 51, 52, 53, 54, 55, 56, 57, 97, 98, 99, 100, 101, 102]⟩ : ByteArray).extract ((ji34) : Int).toNat ((((ji34) + 1) % 256) : Int).toNat).size ≤ 9223372036854775807 := by have h_ := c38; simp only [ByteArray.size_append] at h_; exact h_))
                                                                (try (have c38b4 := c38; simp only [ByteArray.size_append, Int.natCast_add] at c38b4; replace c38b4 := eq_true c38b4))
                                                                have H' := Aside0.mk H
                                                                clear H
                                                                go_wp2
                                                                repeat (go_quiet (fail); try go_wp2)
                                                                go_meet
                                                                case rel => exact ⟨_, ((((⟨#[92]⟩ : ByteArray) ++ ((⟨#[48, 49, 50, 51, 52, 53, 54, 55, 56, 57, 97, 98, 99, 100, 101, 102]⟩ : ByteArray).extract ((ji24) : Int).toNat ((((ji24) + 1) % 256) : Int).toNat)) ++ ((⟨#[48, 49, 50, 51, 52, 53, 54, 55, 56, 57, 97, 98, 99, 100, 101, 102]⟩ : ByteArray).extract ((ji29) : Int).toNat ((((ji29) + 1) % 256) : Int).toNat)) ++ ((⟨#[48, 49, 50, 51, 52, 53, 54, 55, 56, 57, 97, 98, 99, 100, 101, 102]⟩ : ByteArray).extract ((ji34) : Int).toNat ((((ji34) + 1) % 256) : Int).toNat)), (by first | rfl | (simp; done) | (simp only [← hji24, ← hji29, ← hji34] <;> (first | rfl | simp)) | (simp [*]; done)), H', ⟨by have := HK1.out; have := HJ9.out; first | omega | exact Nat.le_refl _⟩, ⟨by repeat (first | (with_reducible first | exact HB.out | apply below_alloc | apply pw_below_drewN | apply below_drew1) | exact HB.out)⟩⟩
                                                              · rw [if_neg c38] at H
                                                                exact absurd H (by simp)
                                                            · rw [if_neg c37] at H
                                                              exact absurd H (by simp)
                                                          · rw [if_neg c36] at H
                                                            exact absurd H (by simp)
                                                        · rw [if_neg c35] at H
                                                          exact absurd H (by simp)
                                                      · rw [if_neg c33] at H
                                                        exact absurd H (by simp)
                                                    · rw [if_neg c32] at H
                                                      exact absurd H (by simp)
                                                  · rw [if_neg c31] at H
                                                    exact absurd H (by simp)
                                                · rw [if_neg c30] at H
                                                  exact absurd H (by simp)
                                              · rw [if_neg c28] at H
                                                exact absurd H (by simp)
                                            · rw [if_neg c27] at H
                                              exact absurd H (by simp)
                                          · rw [if_neg c26] at H
                                            exact absurd H (by simp)
                                        · rw [if_neg c25] at H
                                          exact absurd H (by simp)
                                    case rest =>
                                      clear HC22
                                      try clear c1
                                      try clear p1
                                      try clear q1
                                      try clear hx1
                                      try clear c2
                                      try clear p2
                                      try clear c3
                                      try clear c3b0
                                      try clear c3b1
                                      try clear c5
                                      try clear p6
                                      try clear c7
                                      try clear c7b0
                                      try clear c8
                                      try clear c8b0
                                      try clear c9
                                      try clear c9b0
                                      try clear c11
                                      try clear c11b0
                                      try clear c13
                                      try clear c13b0
                                      try clear c13b1
                                      try clear c14
                                      try clear c14b0
                                      try clear c14b1
                                      try clear c15
                                      try clear c15b0
                                      try clear c15b1
                                      try clear c16
                                      try clear c16b0
                                      try clear c16b1
                                      try clear c16b2
                                      try clear p17
                                      try clear q17
                                      try clear hx17
                                      try clear c18
                                      try clear c18b0
                                      try clear c18b1
                                      try clear c19
                                      try clear c19b0
                                      try clear c19b1
                                      try clear c20
                                      try clear c20b0
                                      try clear c20b1
                                      try clear c21
                                      try clear c21b0
                                      try clear c21b1
                                      try clear c21b2
                                      try clear c23
                                      try clear c23b0
                                      try clear c23b1
                                      try clear c25
                                      try clear c25b0
                                      try clear c25b1
                                      try clear c26
                                      try clear c26b0
                                      try clear c26b1
                                      try clear c27
                                      try clear c27b0
                                      try clear c27b1
                                      try clear c28
                                      try clear c28b0
                                      try clear c28b1
                                      try clear c28b2
                                      try clear c30
                                      try clear c30b0
                                      try clear c30b1
                                      try clear c31
                                      try clear c31b0
                                      try clear c31b1
                                      try clear c32
                                      try clear c32b0
                                      try clear c32b1
                                      try clear c33
                                      try clear c33b0
                                      try clear c33b1
                                      try clear c33b2
                                      try clear c35
                                      try clear c35b0
                                      try clear c35b1
                                      try clear c36
                                      try clear c36b0
                                      try clear c36b1
                                      try clear c37
                                      try clear c37b0
                                      try clear c37b1
                                      try clear c38
                                      try clear c38b0
                                      try clear c38b1
                                      try clear c38b2
                                      try clear hx171_0
                                      try clear hx172_0
                                      try clear p1
                                      try clear p171
                                      try clear p172
                                      try clear p2
                                      try clear p6
                                      try clear q1
                                      try clear q171
                                      try clear q172
                                      obtain ⟨kq, x12_21, rfl, HA, HJ21, HB⟩ := hcut
                                      cases kq with
                                      | zero => exact absurd HA.out (by simp [scholiastlaw02_TokenQuotes.j2])
                                      | succ kj21 =>
                                        have H := HA.out
                                        clear HA
                                        simp only [scholiastlaw02_TokenQuotes.j2] at H
                                        by_cases c39 : x5_1.size + x12_21.size ≤ 9223372036854775807
                                        · rw [if_pos c39] at H
                                          have c39b0 := eq_true c39
                                          have c39b1 : decide (x5_1.size + x12_21.size ≤ 9223372036854775807) = true := decide_eq_true c39
                                          try have c39b2 : (9223372036854775807 < x5_1.size + x12_21.size) = False := eq_false (Nat.not_lt.2 c39)
                                          by_cases c40 : 1 + x12_21.size ≤ 9223372036854775807
                                          · rw [if_pos c40] at H
                                            have c40b0 := eq_true c40
                                            have c40b1 : decide (1 + x12_21.size ≤ 9223372036854775807) = true := decide_eq_true c40
                                            try have c40b2 : (9223372036854775807 < 1 + x12_21.size) = False := eq_false (Nat.not_lt.2 c40)
                                            by_cases c41 : ((⟨#[39]⟩ : ByteArray) ++ x12_21).size + 1 ≤ 9223372036854775807
                                            · rw [if_pos c41] at H
                                              have c41b0 := eq_true c41
                                              have c41b1 : decide (((⟨#[39]⟩ : ByteArray) ++ x12_21).size + 1 ≤ 9223372036854775807) = true := decide_eq_true c41
                                              try have c41b2 : (9223372036854775807 < ((⟨#[39]⟩ : ByteArray) ++ x12_21).size + 1) = False := eq_false (Nat.not_lt.2 c41)
                                              (try (have c41b5 : (1 + x12_21.size) + 1 ≤ 9223372036854775807 := by have h_ := c41; simp only [ByteArray.size_append] at h_; exact h_))
                                              (try (have c41b4 := c41; simp only [ByteArray.size_append, Int.natCast_add] at c41b4; replace c41b4 := eq_true c41b4))
                                              replace H := Option.bind_eq_some_iff.mp H
                                              obtain ⟨⟨t173, t174, t175⟩, A420, H⟩ := H
                                              replace H : (if t173 = (wrap64 ((rd l0 x35_1))) then (if t174 = 0 then (scholiastlaw02_TokenQuotes.j3 kj21 l0 l1 (x5_1 ++ x12_21) x6_1 x7_1 (rd l0 x35_1) l0 (l0.length : Int) x35_1 (t175 != 0)) else (scholiastlaw02_TokenQuotes.j3 kj21 l0 l1 (x5_1 ++ x12_21) x6_1 x7_1 (rd l0 x35_1) l0 (l0.length : Int) x35_1 true)) else (scholiastlaw02_TokenQuotes.j3 kj21 l0 l1 (x5_1 ++ x12_21) x6_1 x7_1 (rd l0 x35_1) l0 (l0.length : Int) x35_1 true)) = some r := H
                                              have A42 := Aside0.mk A420
                                              clear A420
                                              have HC43 := Aside0.mk H
                                              clear H
                                              go_upto_region 18 with (first | (go_at_call 19; (with_reducible refine (token_Rune.calls kj21 (((⟨#[39]⟩ : ByteArray) ++ x12_21) ++ (⟨#[39]⟩ : ByteArray)) t173 t174 t175 _ ?side1 A42.out).mono ?_); (case side1 => exact Tabs.below HT (by repeat (first | (with_reducible first | exact HB.out | apply below_alloc | apply pw_below_drewN | apply below_drew1) | exact HB.out))); rintro e w44 ⟨rfl, hb⟩; have n0_ := Aside0.mk (below_step (by repeat (first | (with_reducible first | exact HB.out | apply below_alloc | apply pw_below_drewN | apply below_drew1) | exact HB.out)) hb); clear HB; have HB := n0_; clear n0_; (try clear hb); (try clear hb2); (try clear hk); (try clear hi)))
                                              repeat (go_quiet (first | (go_at_call 19; (with_reducible refine (token_Rune.calls kj21 (((⟨#[39]⟩ : ByteArray) ++ x12_21) ++ (⟨#[39]⟩ : ByteArray)) t173 t174 t175 _ ?side1 A42.out).mono ?_); (case side1 => exact Tabs.below HT (by repeat (first | (with_reducible first | exact HB.out | apply below_alloc | apply pw_below_drewN | apply below_drew1) | exact HB.out))); rintro e w44 ⟨rfl, hb⟩; have n0_ := Aside0.mk (below_step (by repeat (first | (with_reducible first | exact HB.out | apply below_alloc | apply pw_below_drewN | apply below_drew1) | exact HB.out)) hb); clear HB; have HB := n0_; clear n0_; (try clear hb); (try clear hb2); (try clear hk); (try clear hi))); go_upto_region 18 with (first | (go_at_call 19; (with_reducible refine (token_Rune.calls kj21 (((⟨#[39]⟩ : ByteArray) ++ x12_21) ++ (⟨#[39]⟩ : ByteArray)) t173 t174 t175 _ ?side1 A42.out).mono ?_); (case side1 => exact Tabs.below HT (by repeat (first | (with_reducible first | exact HB.out | apply below_alloc | apply pw_below_drewN | apply below_drew1) | exact HB.out))); rintro e w44 ⟨rfl, hb⟩; have n0_ := Aside0.mk (below_step (by repeat (first | (with_reducible first | exact HB.out | apply below_alloc | apply pw_below_drewN | apply below_drew1) | exact HB.out)) hb); clear HB; have HB := n0_; clear n0_; (try clear hb); (try clear hb2); (try clear hk); (try clear hi))))
                                              (try simp only [Act.put, List.setIfInBounds_toArray, List.set_cons_zero, List.set_cons_succ])
                                              go_cut [115] (fun v115 wc => ∃ (kq : Nat) (x115_42 : Bool), v115 = .bool x115_42 ∧ Aside0 (scholiastlaw02_TokenQuotes.j3 kq l0 l1 (x5_1 ++ x12_21) x6_1 x7_1 (rd l0 x35_1) l0 (l0.length : Int) x35_1 x115_42 = some r) ∧ Aside0 (kq ≤ kj21) ∧ Aside0 (Below w.heap.size w wc))
                                              case first =>
                                                have H := HC43.out
                                                clear HC43
                                                by_cases c45 : t173 = (wrap64 ((rd l0 x35_1)))
                                                · rw [if_pos c45] at H
                                                  have c45b0 : (t173 == (wrap64 ((rd l0 x35_1)))) = true := beq_iff_eq.mpr c45
                                                  have c45b1 : (t173 != (wrap64 ((rd l0 x35_1)))) = false := bne_eq_false_iff_eq.mpr c45
                                                  clear c45
                                                  (first | rw [c45b0] | (simp only [i64_w, i32_w]; rw [c45b0]) | skip)
                                                  by_cases c46 : t174 = 0
                                                  · rw [if_pos c46] at H
                                                    have c46b0 : (t174 == 0) = true := beq_iff_eq.mpr c46
                                                    have c46b1 : (t174 != 0) = false := bne_eq_false_iff_eq.mpr c46
                                                    clear c46
                                                    have H' := Aside0.mk H
                                                    clear H
                                                    go_wp2
                                                    repeat (go_quiet (fail); try go_wp2)
                                                    go_meet
                                                    case rel => exact ⟨_, ((t175 != 0)), (by first | rfl | (simp; done) | (simp [*]; done) | (simp [wrap64]; done) | (simp [isEmpty_bne]; done)), H', ⟨by have := HK1.out; have := HJ9.out; have := HJ21.out; first | omega | exact Nat.le_refl _⟩, ⟨by repeat (first | (with_reducible first | exact HB.out | apply below_alloc | apply pw_below_drewN | apply below_drew1) | exact HB.out)⟩⟩
                                                  · rw [if_neg c46] at H
                                                    have c46b0 : (t174 == 0) = false := beq_eq_false_iff_ne.mpr c46
                                                    have c46b1 : (t174 != 0) = true := bne_iff_ne.mpr c46
                                                    have H' := Aside0.mk H
                                                    clear H
                                                    go_wp2
                                                    repeat (go_quiet (fail); try go_wp2)
                                                    go_meet
                                                    case rel => exact ⟨_, (true), (by first | rfl | (simp; done) | (simp [*]; done) | (simp [wrap64]; done) | (simp [isEmpty_bne]; done)), H', ⟨by have := HK1.out; have := HJ9.out; have := HJ21.out; first | omega | exact Nat.le_refl _⟩, ⟨by repeat (first | (with_reducible first | exact HB.out | apply below_alloc | apply pw_below_drewN | apply below_drew1) | exact HB.out)⟩⟩
                                                · rw [if_neg c45] at H
                                                  have c45b0 : (t173 == (wrap64 ((rd l0 x35_1)))) = false := beq_eq_false_iff_ne.mpr c45
                                                  have c45b1 : (t173 != (wrap64 ((rd l0 x35_1)))) = true := bne_iff_ne.mpr c45
                                                  (first | rw [c45b0] | (simp only [i64_w, i32_w]; rw [c45b0]) | skip)
                                                  have H' := Aside0.mk H
                                                  clear H
                                                  go_wp2
                                                  repeat (go_quiet (fail); try go_wp2)
                                                  go_meet
                                                  case rel => exact ⟨_, (true), (by first | rfl | (simp; done) | (simp [*]; done) | (simp [wrap64]; done) | (simp [isEmpty_bne]; done)), H', ⟨by have := HK1.out; have := HJ9.out; have := HJ21.out; first | omega | exact Nat.le_refl _⟩, ⟨by repeat (first | (with_reducible first | exact HB.out | apply below_alloc | apply pw_below_drewN | apply below_drew1) | exact HB.out)⟩⟩
                                              case rest =>
                                                clear HC43
                                                try clear c1
                                                try clear p1
                                                try clear q1
                                                try clear hx1
                                                try clear c2
                                                try clear p2
                                                try clear c3
                                                try clear c3b0
                                                try clear c3b1
                                                try clear c4
                                                try clear c5
                                                try clear p6
                                                try clear c7
                                                try clear c7b0
                                                try clear c8
                                                try clear c8b0
                                                try clear c9
                                                try clear c9b0
                                                try clear c11
                                                try clear c11b0
                                                try clear c13
                                                try clear c13b0
                                                try clear c13b1
                                                try clear c14
                                                try clear c14b0
                                                try clear c14b1
                                                try clear c15
                                                try clear c15b0
                                                try clear c15b1
                                                try clear c16
                                                try clear c16b0
                                                try clear c16b1
                                                try clear c16b2
                                                try clear p17
                                                try clear q17
                                                try clear hx17
                                                try clear c18
                                                try clear c18b0
                                                try clear c18b1
                                                try clear c19
                                                try clear c19b0
                                                try clear c19b1
                                                try clear c20
                                                try clear c20b0
                                                try clear c20b1
                                                try clear c21
                                                try clear c21b0
                                                try clear c21b1
                                                try clear c21b2
                                                try clear c23
                                                try clear c23b0
                                                try clear c23b1
                                                try clear c25
                                                try clear c25b0
                                                try clear c25b1
                                                try clear c26
                                                try clear c26b0
                                                try clear c26b1
                                                try clear c27
                                                try clear c27b0
                                                try clear c27b1
                                                try clear c28
                                                try clear c28b0
                                                try clear c28b1
                                                try clear c28b2
                                                try clear c30
                                                try clear c30b0
                                                try clear c30b1
                                                try clear c31
                                                try clear c31b0
                                                try clear c31b1
                                                try clear c32
                                                try clear c32b0
                                                try clear c32b1
                                                try clear c33
                                                try clear c33b0
                                                try clear c33b1
                                                try clear c33b2
                                                try clear c35
                                                try clear c35b0
                                                try clear c35b1
                                                try clear c36
                                                try clear c36b0
                                                try clear c36b1
                                                try clear c37
                                                try clear c37b0
                                                try clear c37b1
                                                try clear c38
                                                try clear c38b0
                                                try clear c38b1
                                                try clear c38b2
                                                try clear c39
                                                try clear c39b0
                                                try clear c39b1
                                                try clear c39b2
                                                try clear c40
                                                try clear c40b0
                                                try clear c40b1
                                                try clear c40b2
                                                try clear c41
                                                try clear c41b0
                                                try clear c41b1
                                                try clear c41b2
                                                try clear c45
                                                try clear c45b0
                                                try clear c45b1
                                                try clear c46
                                                try clear c46b0
                                                try clear c46b1
                                                try clear hx171_0
                                                try clear hx172_0
                                                try clear p1
                                                try clear p17
                                                try clear p171
                                                try clear p172
                                                try clear p2
                                                try clear p6
                                                try clear q1
                                                try clear q17
                                                try clear q171
                                                try clear q172
                                                obtain ⟨kq, x115_42, rfl, HA, HJ42, HB⟩ := hcut
                                                cases kq with
                                                | zero => exact absurd HA.out (by simp [scholiastlaw02_TokenQuotes.j3])
                                                | succ kj42 =>
                                                  have H := HA.out
                                                  clear HA
                                                  simp only [scholiastlaw02_TokenQuotes.j3] at H
                                                  by_cases c47 : x115_42 = true
                                                  · subst c47
                                                    have H1 : (some false) = some r := by rw [if_pos rfl] at H; exact H
                                                    clear H
                                                    have H := H1
                                                    clear H1
                                                    obtain rfl := Option.some.inj H
                                                    go_wp2
                                                    repeat (go_quiet (fail); try go_wp2)
                                                    go_ret
                                                    exact ⟨by first | rfl | (simp [errW_none, errW_some] <;> rfl) | (simp only [← hji12, ← hji17]; first | rfl | (simp [errW_none, errW_some] <;> rfl)) | (simp [*, errW_none, errW_some] <;> rfl), by repeat (first | (with_reducible first | exact HB.out | apply below_alloc | apply pw_below_drewN | apply below_drew1) | exact HB.out)⟩
                                                  · replace c47 := Bool.eq_false_iff.mpr c47
                                                    subst c47
                                                    have H1 : (if (rd l0 x35_1) = 96 then (scholiastlaw02_TokenQuotes.l0 kj42 l0 l1 (x5_1 ++ x12_21) x6_1 x7_1 l0 (l0.length : Int) (wrap64 (x35_1 + 1))) else ((some (([(rd l0 x35_1)] : List Int) : List Int)).bind fun y176 => (if x6_1.size + (strOfNums y176).size ≤ 9223372036854775807 then (if (rd l0 x35_1) = 13 then (scholiastlaw02_TokenQuotes.l0 kj42 l0 l1 (x5_1 ++ x12_21) (x6_1 ++ (strOfNums y176)) x7_1 l0 (l0.length : Int) (wrap64 (x35_1 + 1))) else ((some (([(rd l0 x35_1)] : List Int) : List Int)).bind fun y179 => (if x7_1.size + (strOfNums y179).size ≤ 9223372036854775807 then (scholiastlaw02_TokenQuotes.l0 kj42 l0 l1 (x5_1 ++ x12_21) (x6_1 ++ (strOfNums y176)) (x7_1 ++ (strOfNums y179)) l0 (l0.length : Int) (wrap64 (x35_1 + 1))) else (none)))) else (none)))) = some r := by rw [if_neg (show ¬ (false = true) by decide)] at H; exact H
                                                    clear H
                                                    have H := H1
                                                    clear H1
                                                    by_cases c48 : (rd l0 x35_1) = 96
                                                    · rw [if_pos c48] at H
                                                      have c48b0 : ((rd l0 x35_1) == 96) = true := beq_iff_eq.mpr c48
                                                      have c48b1 : ((rd l0 x35_1) != 96) = false := bne_eq_false_iff_eq.mpr c48
                                                      clear c48
                                                      have H' := Aside0.mk H
                                                      clear H
                                                      go_wp2
                                                      repeat (go_quiet (fail); try go_wp2)
                                                      go_roundg kj42
                                                      case measure => have := HK1.out; have := HJ9.out; have := HJ21.out; have := HJ42.out; omega
                                                      case rel => exact ⟨((x5_1 ++ x12_21)), (x6_1), (x7_1), (wrap64 (x35_1 + 1)), (by first | rfl | (simp; done) | (simp [*]; done) | (simp [wrap64]; done) | (simp [isEmpty_bne]; done)), (by first | rfl | (simp; done) | (simp [*]; done) | (simp [wrap64]; done) | (simp [isEmpty_bne]; done)), (by first | rfl | (simp; done) | (simp [*]; done) | (simp [wrap64]; done) | (simp [isEmpty_bne]; done)), (by first | rfl | (simp; done) | (simp [*]; done) | (simp [wrap64]; done) | (simp [isEmpty_bne]; done)), H', ⟨by have := HK1.out; have := HJ9.out; have := HJ21.out; have := HJ42.out; omega⟩, ⟨by repeat (first | (with_reducible first | exact HB.out | apply below_alloc | apply pw_below_drewN | apply below_drew1) | exact HB.out)⟩⟩
                                                    · rw [if_neg c48] at H
                                                      have c48b0 : ((rd l0 x35_1) == 96) = false := beq_eq_false_iff_ne.mpr c48
                                                      have c48b1 : ((rd l0 x35_1) != 96) = true := bne_iff_ne.mpr c48
                                                      obtain ⟨y176, hy176⟩ : ∃ y_ : List Int, y_ = (([(rd l0 x35_1)] : List Int)) := ⟨_, rfl⟩
                                                      replace H : (if x6_1.size + (strOfNums y176).size ≤ 9223372036854775807 then (if (rd l0 x35_1) = 13 then (scholiastlaw02_TokenQuotes.l0 kj42 l0 l1 (x5_1 ++ x12_21) (x6_1 ++ (strOfNums y176)) x7_1 l0 (l0.length : Int) (wrap64 (x35_1 + 1))) else ((some (([(rd l0 x35_1)] : List Int) : List Int)).bind fun y179 => (if x7_1.size + (strOfNums y179).size ≤ 9223372036854775807 then (scholiastlaw02_TokenQuotes.l0 kj42 l0 l1 (x5_1 ++ x12_21) (x6_1 ++ (strOfNums y176)) (x7_1 ++ (strOfNums y179)) l0 (l0.length : Int) (wrap64 (x35_1 + 1))) else (none)))) else (none)) = some r := by first | (rw [hy176]; with_reducible exact H) | (have H2_ := (Option.bind_some _ _).symm.trans H; rw [hy176]; with_reducible exact H2_) | (have H2_ := (Option.bind_some _ _).symm.trans H; with_reducible exact H2_) | with_reducible exact H | (rw [hy176]; exact H) | exact H
                                                      have Ny176 := Aside0.mk hy176
                                                      clear hy176
                                                      by_cases c49 : x6_1.size + (strOfNums y176).size ≤ 9223372036854775807
                                                      · rw [if_pos c49] at H
                                                        have c49b0 := eq_true c49
                                                        have c49b1 : decide (x6_1.size + (strOfNums y176).size ≤ 9223372036854775807) = true := decide_eq_true c49
                                                        try have c49b2 : (9223372036854775807 < x6_1.size + (strOfNums y176).size) = False := eq_false (Nat.not_lt.2 c49)
                                                        by_cases c50 : (rd l0 x35_1) = 13
                                                        · rw [if_pos c50] at H
                                                          have c50b0 : ((rd l0 x35_1) == 13) = true := beq_iff_eq.mpr c50
                                                          have c50b1 : ((rd l0 x35_1) != 13) = false := bne_eq_false_iff_eq.mpr c50
                                                          clear c50
                                                          have H' := Aside0.mk H
                                                          clear H
                                                          go_wp2_with (first | ((with_reducible refine gate_dst (N := 120) rfl ?_); refine Kd.R_lit (Kd.int .u8) _ 5 ?hg (N := 120) ?hd (xs := ([(rd l0 x35_1)] : List Int)) (inner := [.int .u8 (rd l0 x35_1)]) (ok := fun _ => True) (okp := fun _ => True) ?hr ?hp (fun _ hk => hk) trivial (Below.refl _ _) (Nat.le_refl _) (by simp) ?_; (case hd => rfl); (case hg => rfl); (case hr => first | (go_simp; done) | (go_simp; rfl)); (case hp => exact (Reps.one (show Kd.M (Kd.int .u8) _ _ _ (rd l0 x35_1) [.int .u8 (rd l0 x35_1)] from rfl) (Reps.none _ _))); intro v177 w51 ho52 hb hg_ hnew_; clear hg_ hnew_; (first | rw [← Ny176.out] at ho52 | (simp only [Int.reduceToNat] at ho52; rw [← Ny176.out] at ho52)); have n0_ := Aside0.mk (Kd.R_lower ho52 (below_size (by repeat (first | (with_reducible first | exact HB.out | apply below_alloc | apply pw_below_drewN | apply below_drew1) | exact HB.out)))); have n1_ := Aside0.mk (below_step (by repeat (first | (with_reducible first | exact HB.out | apply below_alloc | apply pw_below_drewN | apply below_drew1) | exact HB.out)) hb); clear HB; have HO178 := n0_; have HB := n1_; clear n0_ n1_; clear hb ho52; have hcv53 := own_string (P := Tryd.prog) Tryd.underlying34 Tryd.underlying5 Tryd.underlying9 (Kd.own_of_R HO178.out)))
                                                          repeat (go_quiet (first | ((with_reducible refine gate_dst (N := 120) rfl ?_); refine Kd.R_lit (Kd.int .u8) _ 5 ?hg (N := 120) ?hd (xs := ([(rd l0 x35_1)] : List Int)) (inner := [.int .u8 (rd l0 x35_1)]) (ok := fun _ => True) (okp := fun _ => True) ?hr ?hp (fun _ hk => hk) trivial (Below.refl _ _) (Nat.le_refl _) (by simp) ?_; (case hd => rfl); (case hg => rfl); (case hr => first | (go_simp; done) | (go_simp; rfl)); (case hp => exact (Reps.one (show Kd.M (Kd.int .u8) _ _ _ (rd l0 x35_1) [.int .u8 (rd l0 x35_1)] from rfl) (Reps.none _ _))); intro v177 w51 ho52 hb hg_ hnew_; clear hg_ hnew_; (first | rw [← Ny176.out] at ho52 | (simp only [Int.reduceToNat] at ho52; rw [← Ny176.out] at ho52)); have n0_ := Aside0.mk (Kd.R_lower ho52 (below_size (by repeat (first | (with_reducible first | exact HB.out | apply below_alloc | apply pw_below_drewN | apply below_drew1) | exact HB.out)))); have n1_ := Aside0.mk (below_step (by repeat (first | (with_reducible first | exact HB.out | apply below_alloc | apply pw_below_drewN | apply below_drew1) | exact HB.out)) hb); clear HB; have HO178 := n0_; have HB := n1_; clear n0_ n1_; clear hb ho52; have hcv53 := own_string (P := Tryd.prog) Tryd.underlying34 Tryd.underlying5 Tryd.underlying9 (Kd.own_of_R HO178.out))); try go_wp2_with (first | ((with_reducible refine gate_dst (N := 120) rfl ?_); refine Kd.R_lit (Kd.int .u8) _ 5 ?hg (N := 120) ?hd (xs := ([(rd l0 x35_1)] : List Int)) (inner := [.int .u8 (rd l0 x35_1)]) (ok := fun _ => True) (okp := fun _ => True) ?hr ?hp (fun _ hk => hk) trivial (Below.refl _ _) (Nat.le_refl _) (by simp) ?_; (case hd => rfl); (case hg => rfl); (case hr => first | (go_simp; done) | (go_simp; rfl)); (case hp => exact (Reps.one (show Kd.M (Kd.int .u8) _ _ _ (rd l0 x35_1) [.int .u8 (rd l0 x35_1)] from rfl) (Reps.none _ _))); intro v177 w51 ho52 hb hg_ hnew_; clear hg_ hnew_; (first | rw [← Ny176.out] at ho52 | (simp only [Int.reduceToNat] at ho52; rw [← Ny176.out] at ho52)); have n0_ := Aside0.mk (Kd.R_lower ho52 (below_size (by repeat (first | (with_reducible first | exact HB.out | apply below_alloc | apply pw_below_drewN | apply below_drew1) | exact HB.out)))); have n1_ := Aside0.mk (below_step (by repeat (first | (with_reducible first | exact HB.out | apply below_alloc | apply pw_below_drewN | apply below_drew1) | exact HB.out)) hb); clear HB; have HO178 := n0_; have HB := n1_; clear n0_ n1_; clear hb ho52; have hcv53 := own_string (P := Tryd.prog) Tryd.underlying34 Tryd.underlying5 Tryd.underlying9 (Kd.own_of_R HO178.out))))
                                                          go_roundg kj42
                                                          case measure => have := HK1.out; have := HJ9.out; have := HJ21.out; have := HJ42.out; omega
                                                          case rel => exact ⟨((x5_1 ++ x12_21)), (x6_1 ++ (strOfNums y176)), (x7_1), (wrap64 (x35_1 + 1)), (by first | rfl | (simp; done) | (simp [*]; done) | (simp [wrap64]; done) | (simp [isEmpty_bne]; done)), (by first | rfl | (simp; done) | (simp [*]; done) | (simp [wrap64]; done) | (simp [isEmpty_bne]; done)), (by first | rfl | (simp; done) | (simp [*]; done) | (simp [wrap64]; done) | (simp [isEmpty_bne]; done)), (by first | rfl | (simp; done) | (simp [*]; done) | (simp [wrap64]; done) | (simp [isEmpty_bne]; done)), H', ⟨by have := HK1.out; have := HJ9.out; have := HJ21.out; have := HJ42.out; omega⟩, ⟨by repeat (first | (with_reducible first | exact HB.out | apply below_alloc | apply pw_below_drewN | apply below_drew1) | exact HB.out)⟩⟩
                                                        · rw [if_neg c50] at H
                                                          have c50b0 : ((rd l0 x35_1) == 13) = false := beq_eq_false_iff_ne.mpr c50
                                                          have c50b1 : ((rd l0 x35_1) != 13) = true := bne_iff_ne.mpr c50
                                                          obtain ⟨y179, hy179⟩ : ∃ y_ : List Int, y_ = (([(rd l0 x35_1)] : List Int)) := ⟨_, rfl⟩
                                                          replace H : (if x7_1.size + (strOfNums y179).size ≤ 9223372036854775807 then (scholiastlaw02_TokenQuotes.l0 kj42 l0 l1 (x5_1 ++ x12_21) (x6_1 ++ (strOfNums y176)) (x7_1 ++ (strOfNums y179)) l0 (l0.length : Int) (wrap64 (x35_1 + 1))) else (none)) = some r := by first | (rw [hy179]; with_reducible exact H) | (have H2_ := (Option.bind_some _ _).symm.trans H; rw [hy179]; with_reducible exact H2_) | (have H2_ := (Option.bind_some _ _).symm.trans H; with_reducible exact H2_) | with_reducible exact H | (rw [hy179]; exact H) | exact H
                                                          have Ny179 := Aside0.mk hy179
                                                          clear hy179
                                                          by_cases c54 : x7_1.size + (strOfNums y179).size ≤ 9223372036854775807
                                                          · rw [if_pos c54] at H
                                                            have c54b0 := eq_true c54
                                                            have c54b1 : decide (x7_1.size + (strOfNums y179).size ≤ 9223372036854775807) = true := decide_eq_true c54
                                                            try have c54b2 : (9223372036854775807 < x7_1.size + (strOfNums y179).size) = False := eq_false (Nat.not_lt.2 c54)
                                                            have H' := Aside0.mk H
                                                            clear H
                                                            go_wp2_with (first | ((with_reducible refine gate_dst (N := 120) rfl ?_); refine Kd.R_lit (Kd.int .u8) _ 5 ?hg (N := 120) ?hd (xs := ([(rd l0 x35_1)] : List Int)) (inner := [.int .u8 (rd l0 x35_1)]) (ok := fun _ => True) (okp := fun _ => True) ?hr ?hp (fun _ hk => hk) trivial (Below.refl _ _) (Nat.le_refl _) (by simp) ?_; (case hd => rfl); (case hg => rfl); (case hr => first | (go_simp; done) | (go_simp; rfl)); (case hp => exact (Reps.one (show Kd.M (Kd.int .u8) _ _ _ (rd l0 x35_1) [.int .u8 (rd l0 x35_1)] from rfl) (Reps.none _ _))); intro v177 w55 ho56 hb hg_ hnew_; clear hg_ hnew_; (first | rw [← Ny176.out] at ho56 | (simp only [Int.reduceToNat] at ho56; rw [← Ny176.out] at ho56)); have n0_ := Aside0.mk (Kd.R_lower ho56 (below_size (by repeat (first | (with_reducible first | exact HB.out | apply below_alloc | apply pw_below_drewN | apply below_drew1) | exact HB.out)))); have n1_ := Aside0.mk (below_step (by repeat (first | (with_reducible first | exact HB.out | apply below_alloc | apply pw_below_drewN | apply below_drew1) | exact HB.out)) hb); clear HB; have HO178 := n0_; have HB := n1_; clear n0_ n1_; clear hb ho56; have hcv57 := own_string (P := Tryd.prog) Tryd.underlying34 Tryd.underlying5 Tryd.underlying9 (Kd.own_of_R HO178.out)) | ((with_reducible refine gate_dst (N := 127) rfl ?_); refine Kd.R_lit (Kd.int .u8) _ 5 ?hg (N := 127) ?hd (xs := ([(rd l0 x35_1)] : List Int)) (inner := [.int .u8 (rd l0 x35_1)]) (ok := fun _ => True) (okp := fun _ => True) ?hr ?hp (fun _ hk => hk) trivial (Below.refl _ _) (Nat.le_refl _) (by simp) ?_; (case hd => rfl); (case hg => rfl); (case hr => first | (go_simp; done) | (go_simp; rfl)); (case hp => exact (Reps.one (show Kd.M (Kd.int .u8) _ _ _ (rd l0 x35_1) [.int .u8 (rd l0 x35_1)] from rfl) (Reps.none _ _))); intro v180 w58 ho59 hb hg_ hnew_; clear hg_ hnew_; (first | rw [← Ny179.out] at ho59 | (simp only [Int.reduceToNat] at ho59; rw [← Ny179.out] at ho59)); have n0_ := Aside0.mk (Kd.R_elder' (by (with_reducible repeat (first | apply Kd.R_alloc | apply Kd.R_drewN | apply Kd.R_drew)); exact HO178.out) (Kd.R_base ho59) hb); have n1_ := Aside0.mk (Kd.R_lower (Kd.R_new' ho59 (Kd.R_lt (by (with_reducible repeat (first | apply Kd.R_alloc | apply Kd.R_drewN | apply Kd.R_drew)); exact HO178.out))) (below_size (by repeat (first | (with_reducible first | exact HB.out | apply below_alloc | apply pw_below_drewN | apply below_drew1) | exact HB.out)))); have n2_ := Aside0.mk (below_step (by repeat (first | (with_reducible first | exact HB.out | apply below_alloc | apply pw_below_drewN | apply below_drew1) | exact HB.out)) hb); clear HO178; clear HB; have HO178 := n0_; have HO181 := n1_; have HB := n2_; clear n0_ n1_ n2_; clear hb ho59; have hcv60 := own_string (P := Tryd.prog) Tryd.underlying34 Tryd.underlying5 Tryd.underlying9 (Kd.own_of_R HO181.out)))
                                                            repeat (go_quiet (first | ((with_reducible refine gate_dst (N := 120) rfl ?_); refine Kd.R_lit (Kd.int .u8) _ 5 ?hg (N := 120) ?hd (xs := ([(rd l0 x35_1)] : List Int)) (inner := [.int .u8 (rd l0 x35_1)]) (ok := fun _ => True) (okp := fun _ => True) ?hr ?hp (fun _ hk => hk) trivial (Below.refl _ _) (Nat.le_refl _) (by simp) ?_; (case hd => rfl); (case hg => rfl); (case hr => first | (go_simp; done) | (go_simp; rfl)); (case hp => exact (Reps.one (show Kd.M (Kd.int .u8) _ _ _ (rd l0 x35_1) [.int .u8 (rd l0 x35_1)] from rfl) (Reps.none _ _))); intro v177 w55 ho56 hb hg_ hnew_; clear hg_ hnew_; (first | rw [← Ny176.out] at ho56 | (simp only [Int.reduceToNat] at ho56; rw [← Ny176.out] at ho56)); have n0_ := Aside0.mk (Kd.R_lower ho56 (below_size (by repeat (first | (with_reducible first | exact HB.out | apply below_alloc | apply pw_below_drewN | apply below_drew1) | exact HB.out)))); have n1_ := Aside0.mk (below_step (by repeat (first | (with_reducible first | exact HB.out | apply below_alloc | apply pw_below_drewN | apply below_drew1) | exact HB.out)) hb); clear HB; have HO178 := n0_; have HB := n1_; clear n0_ n1_; clear hb ho56; have hcv57 := own_string (P := Tryd.prog) Tryd.underlying34 Tryd.underlying5 Tryd.underlying9 (Kd.own_of_R HO178.out)) | ((with_reducible refine gate_dst (N := 127) rfl ?_); refine Kd.R_lit (Kd.int .u8) _ 5 ?hg (N := 127) ?hd (xs := ([(rd l0 x35_1)] : List Int)) (inner := [.int .u8 (rd l0 x35_1)]) (ok := fun _ => True) (okp := fun _ => True) ?hr ?hp (fun _ hk => hk) trivial (Below.refl _ _) (Nat.le_refl _) (by simp) ?_; (case hd => rfl); (case hg => rfl); (case hr => first | (go_simp; done) | (go_simp; rfl)); (case hp => exact (Reps.one (show Kd.M (Kd.int .u8) _ _ _ (rd l0 x35_1) [.int .u8 (rd l0 x35_1)] from rfl) (Reps.none _ _))); intro v180 w58 ho59 hb hg_ hnew_; clear hg_ hnew_; (first | rw [← Ny179.out] at ho59 | (simp only [Int.reduceToNat] at ho59; rw [← Ny179.out] at ho59)); have n0_ := Aside0.mk (Kd.R_elder' (by (with_reducible repeat (first | apply Kd.R_alloc | apply Kd.R_drewN | apply Kd.R_drew)); exact HO178.out) (Kd.R_base ho59) hb); have n1_ := Aside0.mk (Kd.R_lower (Kd.R_new' ho59 (Kd.R_lt (by (with_reducible repeat (first | apply Kd.R_alloc | apply Kd.R_drewN | apply Kd.R_drew)); exact HO178.out))) (below_size (by repeat (first | (with_reducible first | exact HB.out | apply below_alloc | apply pw_below_drewN | apply below_drew1) | exact HB.out)))); have n2_ := Aside0.mk (below_step (by repeat (first | (with_reducible first | exact HB.out | apply below_alloc | apply pw_below_drewN | apply below_drew1) | exact HB.out)) hb); clear HO178; clear HB; have HO178 := n0_; have HO181 := n1_; have HB := n2_; clear n0_ n1_ n2_; clear hb ho59; have hcv60 := own_string (P := Tryd.prog) Tryd.underlying34 Tryd.underlying5 Tryd.underlying9 (Kd.own_of_R HO181.out))); try go_wp2_with (first | ((with_reducible refine gate_dst (N := 120) rfl ?_); refine Kd.R_lit (Kd.int .u8) _ 5 ?hg (N := 120) ?hd (xs := ([(rd l0 x35_1)] : List Int)) (inner := [.int .u8 (rd l0 x35_1)]) (ok := fun _ => True) (okp := fun _ => True) ?hr ?hp (fun _ hk => hk) trivial (Below.refl _ _) (Nat.le_refl _) (by simp) ?_; (case hd => rfl); (case hg => rfl); (case hr => first | (go_simp; done) | (go_simp; rfl)); (case hp => exact (Reps.one (show Kd.M (Kd.int .u8) _ _ _ (rd l0 x35_1) [.int .u8 (rd l0 x35_1)] from rfl) (Reps.none _ _))); intro v177 w55 ho56 hb hg_ hnew_; clear hg_ hnew_; (first | rw [← Ny176.out] at ho56 | (simp only [Int.reduceToNat] at ho56; rw [← Ny176.out] at ho56)); have n0_ := Aside0.mk (Kd.R_lower ho56 (below_size (by repeat (first | (with_reducible first | exact HB.out | apply below_alloc | apply pw_below_drewN | apply below_drew1) | exact HB.out)))); have n1_ := Aside0.mk (below_step (by repeat (first | (with_reducible first | exact HB.out | apply below_alloc | apply pw_below_drewN | apply below_drew1) | exact HB.out)) hb); clear HB; have HO178 := n0_; have HB := n1_; clear n0_ n1_; clear hb ho56; have hcv57 := own_string (P := Tryd.prog) Tryd.underlying34 Tryd.underlying5 Tryd.underlying9 (Kd.own_of_R HO178.out)) | ((with_reducible refine gate_dst (N := 127) rfl ?_); refine Kd.R_lit (Kd.int .u8) _ 5 ?hg (N := 127) ?hd (xs := ([(rd l0 x35_1)] : List Int)) (inner := [.int .u8 (rd l0 x35_1)]) (ok := fun _ => True) (okp := fun _ => True) ?hr ?hp (fun _ hk => hk) trivial (Below.refl _ _) (Nat.le_refl _) (by simp) ?_; (case hd => rfl); (case hg => rfl); (case hr => first | (go_simp; done) | (go_simp; rfl)); (case hp => exact (Reps.one (show Kd.M (Kd.int .u8) _ _ _ (rd l0 x35_1) [.int .u8 (rd l0 x35_1)] from rfl) (Reps.none _ _))); intro v180 w58 ho59 hb hg_ hnew_; clear hg_ hnew_; (first | rw [← Ny179.out] at ho59 | (simp only [Int.reduceToNat] at ho59; rw [← Ny179.out] at ho59)); have n0_ := Aside0.mk (Kd.R_elder' (by (with_reducible repeat (first | apply Kd.R_alloc | apply Kd.R_drewN | apply Kd.R_drew)); exact HO178.out) (Kd.R_base ho59) hb); have n1_ := Aside0.mk (Kd.R_lower (Kd.R_new' ho59 (Kd.R_lt (by (with_reducible repeat (first | apply Kd.R_alloc | apply Kd.R_drewN | apply Kd.R_drew)); exact HO178.out))) (below_size (by repeat (first | (with_reducible first | exact HB.out | apply below_alloc | apply pw_below_drewN | apply below_drew1) | exact HB.out)))); have n2_ := Aside0.mk (below_step (by repeat (first | (with_reducible first | exact HB.out | apply below_alloc | apply pw_below_drewN | apply below_drew1) | exact HB.out)) hb); clear HO178; clear HB; have HO178 := n0_; have HO181 := n1_; have HB := n2_; clear n0_ n1_ n2_; clear hb ho59; have hcv60 := own_string (P := Tryd.prog) Tryd.underlying34 Tryd.underlying5 Tryd.underlying9 (Kd.own_of_R HO181.out))))
                                                            go_roundg kj42
                                                            case measure => have := HK1.out; have := HJ9.out; have := HJ21.out; have := HJ42.out; omega
                                                            case rel => exact ⟨((x5_1 ++ x12_21)), (x6_1 ++ (strOfNums y176)), (x7_1 ++ (strOfNums y179)), (wrap64 (x35_1 + 1)), (by first | rfl | (simp; done) | (simp [*]; done) | (simp [wrap64]; done) | (simp [isEmpty_bne]; done)), (by first | rfl | (simp; done) | (simp [*]; done) | (simp [wrap64]; done) | (simp [isEmpty_bne]; done)), (by first | rfl | (simp; done) | (simp [*]; done) | (simp [wrap64]; done) | (simp [isEmpty_bne]; done)), (by first | rfl | (simp; done) | (simp [*]; done) | (simp [wrap64]; done) | (simp [isEmpty_bne]; done)), H', ⟨by have := HK1.out; have := HJ9.out; have := HJ21.out; have := HJ42.out; omega⟩, ⟨by repeat (first | (with_reducible first | exact HB.out | apply below_alloc | apply pw_below_drewN | apply below_drew1) | exact HB.out)⟩⟩
                                                          · rw [if_neg c54] at H
                                                            exact absurd H (by simp)
                                                      · rw [if_neg c49] at H
                                                        exact absurd H (by simp)
                                            · rw [if_neg c41] at H
                                              exact absurd H (by simp)
                                          · rw [if_neg c40] at H
                                            exact absurd H (by simp)
                                        · rw [if_neg c39] at H
                                          exact absurd H (by simp)
                                  · rw [if_neg c21] at H
                                    exact absurd H (by simp)
                                · rw [if_neg c20] at H
                                  exact absurd H (by simp)
                              · rw [if_neg c19] at H
                                exact absurd H (by simp)
                            · rw [if_neg c18] at H
                              exact absurd H (by simp)
                          · rw [if_neg c16] at H
                            exact absurd H (by simp)
                        · rw [if_neg c15] at H
                          exact absurd H (by simp)
                      · rw [if_neg c14] at H
                        exact absurd H (by simp)
                    · rw [if_neg c13] at H
                      exact absurd H (by simp)
              · rw [if_neg c9] at H
                exfalso
                simp [c9] at c7b0
            · rw [if_neg c8] at H
              exact absurd H (by simp)
          · rw [if_neg c7] at H
            have c7b0 : decide (x35_1 < (l0.length : Int)) = false := decide_eq_false c7
            clear c7
            by_cases c61 : 1 + x5_1.size ≤ 9223372036854775807
            · rw [if_pos c61] at H
              have c61b0 := eq_true c61
              have c61b1 : decide (1 + x5_1.size ≤ 9223372036854775807) = true := decide_eq_true c61
              try have c61b2 : (9223372036854775807 < 1 + x5_1.size) = False := eq_false (Nat.not_lt.2 c61)
              by_cases c62 : ((⟨#[34]⟩ : ByteArray) ++ x5_1).size + 1 ≤ 9223372036854775807
              · rw [if_pos c62] at H
                have c62b0 := eq_true c62
                have c62b1 : decide (((⟨#[34]⟩ : ByteArray) ++ x5_1).size + 1 ≤ 9223372036854775807) = true := decide_eq_true c62
                try have c62b2 : (9223372036854775807 < ((⟨#[34]⟩ : ByteArray) ++ x5_1).size + 1) = False := eq_false (Nat.not_lt.2 c62)
                (try (have c62b5 : (1 + x5_1.size) + 1 ≤ 9223372036854775807 := by have h_ := c62; simp only [ByteArray.size_append] at h_; exact h_))
                (try (have c62b4 := c62; simp only [ByteArray.size_append, Int.natCast_add] at c62b4; replace c62b4 := eq_true c62b4))
                replace H := Option.bind_eq_some_iff.mp H
                obtain ⟨⟨t182, t183, t184⟩, A630, H⟩ := H
                replace H : (if 1 + x6_1.size ≤ 9223372036854775807 then (if ((⟨#[96]⟩ : ByteArray) ++ x6_1).size + 1 ≤ 9223372036854775807 then ((token_Unquote.f k1 (((⟨#[96]⟩ : ByteArray) ++ x6_1) ++ (⟨#[96]⟩ : ByteArray))).bind fun bt185 => ((token_Unquote.f k1 ((⟨#[34]⟩ : ByteArray) ++ x5_1)).bind fun bt188 => ((token_Unquote.f k1 ((⟨#[96]⟩ : ByteArray) ++ x6_1)).bind fun bt191 => (if t182.toList = (strOfNums l0).toList then (if t183 = 0 then (if t184 = 0 then (if bt185.1.toList = x7_1.toList then (if bt185.2.1 = 0 then (if bt185.2.2 = 0 then (if bt188.2.1 = 106 then (some (bt191.2.1 == 106)) else (some false)) else (some false)) else (some false)) else (some false)) else (some false)) else (some false)) else (some false))))) else (none)) else (none)) = some r := H
                have A63 := Aside0.mk A630
                clear A630
                by_cases c64 : 1 + x6_1.size ≤ 9223372036854775807
                · rw [if_pos c64] at H
                  have c64b0 := eq_true c64
                  have c64b1 : decide (1 + x6_1.size ≤ 9223372036854775807) = true := decide_eq_true c64
                  try have c64b2 : (9223372036854775807 < 1 + x6_1.size) = False := eq_false (Nat.not_lt.2 c64)
                  by_cases c65 : ((⟨#[96]⟩ : ByteArray) ++ x6_1).size + 1 ≤ 9223372036854775807
                  · rw [if_pos c65] at H
                    have c65b0 := eq_true c65
                    have c65b1 : decide (((⟨#[96]⟩ : ByteArray) ++ x6_1).size + 1 ≤ 9223372036854775807) = true := decide_eq_true c65
                    try have c65b2 : (9223372036854775807 < ((⟨#[96]⟩ : ByteArray) ++ x6_1).size + 1) = False := eq_false (Nat.not_lt.2 c65)
                    (try (have c65b5 : (1 + x6_1.size) + 1 ≤ 9223372036854775807 := by have h_ := c65; simp only [ByteArray.size_append] at h_; exact h_))
                    (try (have c65b4 := c65; simp only [ByteArray.size_append, Int.natCast_add] at c65b4; replace c65b4 := eq_true c65b4))
                    replace H := Option.bind_eq_some_iff.mp H
                    obtain ⟨⟨t185, t186, t187⟩, A660, H⟩ := H
                    replace H : ((token_Unquote.f k1 ((⟨#[34]⟩ : ByteArray) ++ x5_1)).bind fun bt188 => ((token_Unquote.f k1 ((⟨#[96]⟩ : ByteArray) ++ x6_1)).bind fun bt191 => (if t182.toList = (strOfNums l0).toList then (if t183 = 0 then (if t184 = 0 then (if t185.toList = x7_1.toList then (if t186 = 0 then (if t187 = 0 then (if bt188.2.1 = 106 then (some (bt191.2.1 == 106)) else (some false)) else (some false)) else (some false)) else (some false)) else (some false)) else (some false)) else (some false)))) = some r := H
                    have A66 := Aside0.mk A660
                    clear A660
                    replace H := Option.bind_eq_some_iff.mp H
                    obtain ⟨⟨t188, t189, t190⟩, A670, H⟩ := H
                    replace H : ((token_Unquote.f k1 ((⟨#[96]⟩ : ByteArray) ++ x6_1)).bind fun bt191 => (if t182.toList = (strOfNums l0).toList then (if t183 = 0 then (if t184 = 0 then (if t185.toList = x7_1.toList then (if t186 = 0 then (if t187 = 0 then (if t189 = 106 then (some (bt191.2.1 == 106)) else (some false)) else (some false)) else (some false)) else (some false)) else (some false)) else (some false)) else (some false))) = some r := H
                    have A67 := Aside0.mk A670
                    clear A670
                    replace H := Option.bind_eq_some_iff.mp H
                    obtain ⟨⟨t191, t192, t193⟩, A680, H⟩ := H
                    replace H : (if t182.toList = (strOfNums l0).toList then (if t183 = 0 then (if t184 = 0 then (if t185.toList = x7_1.toList then (if t186 = 0 then (if t187 = 0 then (if t189 = 106 then (some (t192 == 106)) else (some false)) else (some false)) else (some false)) else (some false)) else (some false)) else (some false)) else (some false)) = some r := H
                    have A68 := Aside0.mk A680
                    clear A680
                    by_cases c69 : t182.toList = (strOfNums l0).toList
                    · rw [if_pos c69] at H
                      have c69b0 : (t182.toList == (strOfNums l0).toList) = true := beq_iff_eq.mpr c69
                      have c69b1 : (t182.toList != (strOfNums l0).toList) = false := bne_eq_false_iff_eq.mpr c69
                      clear c69
                      by_cases c70 : t183 = 0
                      · rw [if_pos c70] at H
                        have c70b0 : (t183 == 0) = true := beq_iff_eq.mpr c70
                        have c70b1 : (t183 != 0) = false := bne_eq_false_iff_eq.mpr c70
                        clear c70
                        by_cases c71 : t184 = 0
                        · rw [if_pos c71] at H
                          have c71b0 : (t184 == 0) = true := beq_iff_eq.mpr c71
                          have c71b1 : (t184 != 0) = false := bne_eq_false_iff_eq.mpr c71
                          clear c71
                          by_cases c72 : t185.toList = x7_1.toList
                          · rw [if_pos c72] at H
                            have c72b0 : (t185.toList == x7_1.toList) = true := beq_iff_eq.mpr c72
                            have c72b1 : (t185.toList != x7_1.toList) = false := bne_eq_false_iff_eq.mpr c72
                            clear c72
                            by_cases c73 : t186 = 0
                            · rw [if_pos c73] at H
                              have c73b0 : (t186 == 0) = true := beq_iff_eq.mpr c73
                              have c73b1 : (t186 != 0) = false := bne_eq_false_iff_eq.mpr c73
                              clear c73
                              by_cases c74 : t187 = 0
                              · rw [if_pos c74] at H
                                have c74b0 : (t187 == 0) = true := beq_iff_eq.mpr c74
                                have c74b1 : (t187 != 0) = false := bne_eq_false_iff_eq.mpr c74
                                clear c74
                                by_cases c75 : t189 = 106
                                · rw [if_pos c75] at H
                                  have c75b0 : (t189 == 106) = true := beq_iff_eq.mpr c75
                                  have c75b1 : (t189 != 106) = false := bne_eq_false_iff_eq.mpr c75
                                  clear c75
                                  obtain rfl := Option.some.inj H
                                  go_wp2_with (first | (go_at_call 17; (with_reducible refine (token_Unquote.calls k1 (((⟨#[34]⟩ : ByteArray) ++ x5_1) ++ (⟨#[34]⟩ : ByteArray)) t182 t183 t184 _ ?side1 A63.out).mono ?_); (case side1 => exact Tabs.below HT (by repeat (first | (with_reducible first | exact HB.out | apply below_alloc | apply pw_below_drewN | apply below_drew1) | exact HB.out))); rintro e w76 ⟨rfl, hb⟩; have n0_ := Aside0.mk (below_step (by repeat (first | (with_reducible first | exact HB.out | apply below_alloc | apply pw_below_drewN | apply below_drew1) | exact HB.out)) hb); clear HB; have HB := n0_; clear n0_; (try clear hb); (try clear hb2); (try clear hk); (try clear hi)) | (go_at_call 17; (with_reducible refine (token_Unquote.calls k1 (((⟨#[96]⟩ : ByteArray) ++ x6_1) ++ (⟨#[96]⟩ : ByteArray)) t185 t186 t187 _ ?side1 A66.out).mono ?_); (case side1 => exact Tabs.below HT (by repeat (first | (with_reducible first | exact HB.out | apply below_alloc | apply pw_below_drewN | apply below_drew1) | exact HB.out))); rintro e w77 ⟨rfl, hb⟩; have n0_ := Aside0.mk (below_step (by repeat (first | (with_reducible first | exact HB.out | apply below_alloc | apply pw_below_drewN | apply below_drew1) | exact HB.out)) hb); clear HB; have HB := n0_; clear n0_; (try clear hb); (try clear hb2); (try clear hk); (try clear hi)) | (go_at_call 17; (with_reducible refine (token_Unquote.calls k1 ((⟨#[34]⟩ : ByteArray) ++ x5_1) t188 t189 t190 _ ?side1 A67.out).mono ?_); (case side1 => exact Tabs.below HT (by repeat (first | (with_reducible first | exact HB.out | apply below_alloc | apply pw_below_drewN | apply below_drew1) | exact HB.out))); rintro e w78 ⟨rfl, hb⟩; have n0_ := Aside0.mk (below_step (by repeat (first | (with_reducible first | exact HB.out | apply below_alloc | apply pw_below_drewN | apply below_drew1) | exact HB.out)) hb); clear HB; have HB := n0_; clear n0_; (try clear hb); (try clear hb2); (try clear hk); (try clear hi)) | (go_at_call 17; (with_reducible refine (token_Unquote.calls k1 ((⟨#[96]⟩ : ByteArray) ++ x6_1) t191 t192 t193 _ ?side1 A68.out).mono ?_); (case side1 => exact Tabs.below HT (by repeat (first | (with_reducible first | exact HB.out | apply below_alloc | apply pw_below_drewN | apply below_drew1) | exact HB.out))); rintro e w79 ⟨rfl, hb⟩; have n0_ := Aside0.mk (below_step (by repeat (first | (with_reducible first | exact HB.out | apply below_alloc | apply pw_below_drewN | apply below_drew1) | exact HB.out)) hb); clear HB; have HB := n0_; clear n0_; (try clear hb); (try clear hb2); (try clear hk); (try clear hi); have hcv80 := Kd.C_string (P := Tryd.prog) (A := A0) (c := c0) Tryd.underlying34 Tryd.underlying5 Tryd.underlying9 (Kd.C_below HR0.out HB.out)))
                                  repeat (go_quiet (first | (go_at_call 17; (with_reducible refine (token_Unquote.calls k1 (((⟨#[34]⟩ : ByteArray) ++ x5_1) ++ (⟨#[34]⟩ : ByteArray)) t182 t183 t184 _ ?side1 A63.out).mono ?_); (case side1 => exact Tabs.below HT (by repeat (first | (with_reducible first | exact HB.out | apply below_alloc | apply pw_below_drewN | apply below_drew1) | exact HB.out))); rintro e w76 ⟨rfl, hb⟩; have n0_ := Aside0.mk (below_step (by repeat (first | (with_reducible first | exact HB.out | apply below_alloc | apply pw_below_drewN | apply below_drew1) | exact HB.out)) hb); clear HB; have HB := n0_; clear n0_; (try clear hb); (try clear hb2); (try clear hk); (try clear hi)) | (go_at_call 17; (with_reducible refine (token_Unquote.calls k1 (((⟨#[96]⟩ : ByteArray) ++ x6_1) ++ (⟨#[96]⟩ : ByteArray)) t185 t186 t187 _ ?side1 A66.out).mono ?_); (case side1 => exact Tabs.below HT (by repeat (first | (with_reducible first | exact HB.out | apply below_alloc | apply pw_below_drewN | apply below_drew1) | exact HB.out))); rintro e w77 ⟨rfl, hb⟩; have n0_ := Aside0.mk (below_step (by repeat (first | (with_reducible first | exact HB.out | apply below_alloc | apply pw_below_drewN | apply below_drew1) | exact HB.out)) hb); clear HB; have HB := n0_; clear n0_; (try clear hb); (try clear hb2); (try clear hk); (try clear hi)) | (go_at_call 17; (with_reducible refine (token_Unquote.calls k1 ((⟨#[34]⟩ : ByteArray) ++ x5_1) t188 t189 t190 _ ?side1 A67.out).mono ?_); (case side1 => exact Tabs.below HT (by repeat (first | (with_reducible first | exact HB.out | apply below_alloc | apply pw_below_drewN | apply below_drew1) | exact HB.out))); rintro e w78 ⟨rfl, hb⟩; have n0_ := Aside0.mk (below_step (by repeat (first | (with_reducible first | exact HB.out | apply below_alloc | apply pw_below_drewN | apply below_drew1) | exact HB.out)) hb); clear HB; have HB := n0_; clear n0_; (try clear hb); (try clear hb2); (try clear hk); (try clear hi)) | (go_at_call 17; (with_reducible refine (token_Unquote.calls k1 ((⟨#[96]⟩ : ByteArray) ++ x6_1) t191 t192 t193 _ ?side1 A68.out).mono ?_); (case side1 => exact Tabs.below HT (by repeat (first | (with_reducible first | exact HB.out | apply below_alloc | apply pw_below_drewN | apply below_drew1) | exact HB.out))); rintro e w79 ⟨rfl, hb⟩; have n0_ := Aside0.mk (below_step (by repeat (first | (with_reducible first | exact HB.out | apply below_alloc | apply pw_below_drewN | apply below_drew1) | exact HB.out)) hb); clear HB; have HB := n0_; clear n0_; (try clear hb); (try clear hb2); (try clear hk); (try clear hi); have hcv80 := Kd.C_string (P := Tryd.prog) (A := A0) (c := c0) Tryd.underlying34 Tryd.underlying5 Tryd.underlying9 (Kd.C_below HR0.out HB.out))); try go_wp2_with (first | (go_at_call 17; (with_reducible refine (token_Unquote.calls k1 (((⟨#[34]⟩ : ByteArray) ++ x5_1) ++ (⟨#[34]⟩ : ByteArray)) t182 t183 t184 _ ?side1 A63.out).mono ?_); (case side1 => exact Tabs.below HT (by repeat (first | (with_reducible first | exact HB.out | apply below_alloc | apply pw_below_drewN | apply below_drew1) | exact HB.out))); rintro e w76 ⟨rfl, hb⟩; have n0_ := Aside0.mk (below_step (by repeat (first | (with_reducible first | exact HB.out | apply below_alloc | apply pw_below_drewN | apply below_drew1) | exact HB.out)) hb); clear HB; have HB := n0_; clear n0_; (try clear hb); (try clear hb2); (try clear hk); (try clear hi)) | (go_at_call 17; (with_reducible refine (token_Unquote.calls k1 (((⟨#[96]⟩ : ByteArray) ++ x6_1) ++ (⟨#[96]⟩ : ByteArray)) t185 t186 t187 _ ?side1 A66.out).mono ?_); (case side1 => exact Tabs.below HT (by repeat (first | (with_reducible first | exact HB.out | apply below_alloc | apply pw_below_drewN | apply below_drew1) | exact HB.out))); rintro e w77 ⟨rfl, hb⟩; have n0_ := Aside0.mk (below_step (by repeat (first | (with_reducible first | exact HB.out | apply below_alloc | apply pw_below_drewN | apply below_drew1) | exact HB.out)) hb); clear HB; have HB := n0_; clear n0_; (try clear hb); (try clear hb2); (try clear hk); (try clear hi)) | (go_at_call 17; (with_reducible refine (token_Unquote.calls k1 ((⟨#[34]⟩ : ByteArray) ++ x5_1) t188 t189 t190 _ ?side1 A67.out).mono ?_); (case side1 => exact Tabs.below HT (by repeat (first | (with_reducible first | exact HB.out | apply below_alloc | apply pw_below_drewN | apply below_drew1) | exact HB.out))); rintro e w78 ⟨rfl, hb⟩; have n0_ := Aside0.mk (below_step (by repeat (first | (with_reducible first | exact HB.out | apply below_alloc | apply pw_below_drewN | apply below_drew1) | exact HB.out)) hb); clear HB; have HB := n0_; clear n0_; (try clear hb); (try clear hb2); (try clear hk); (try clear hi)) | (go_at_call 17; (with_reducible refine (token_Unquote.calls k1 ((⟨#[96]⟩ : ByteArray) ++ x6_1) t191 t192 t193 _ ?side1 A68.out).mono ?_); (case side1 => exact Tabs.below HT (by repeat (first | (with_reducible first | exact HB.out | apply below_alloc | apply pw_below_drewN | apply below_drew1) | exact HB.out))); rintro e w79 ⟨rfl, hb⟩; have n0_ := Aside0.mk (below_step (by repeat (first | (with_reducible first | exact HB.out | apply below_alloc | apply pw_below_drewN | apply below_drew1) | exact HB.out)) hb); clear HB; have HB := n0_; clear n0_; (try clear hb); (try clear hb2); (try clear hk); (try clear hi); have hcv80 := Kd.C_string (P := Tryd.prog) (A := A0) (c := c0) Tryd.underlying34 Tryd.underlying5 Tryd.underlying9 (Kd.C_below HR0.out HB.out))))
                                  go_ret
                                  exact ⟨by first | rfl | (simp [errW_none, errW_some] <;> rfl) | (simp [*, errW_none, errW_some] <;> rfl), by repeat (first | (with_reducible first | exact HB.out | apply below_alloc | apply pw_below_drewN | apply below_drew1) | exact HB.out)⟩
                                · rw [if_neg c75] at H
                                  have c75b0 : (t189 == 106) = false := beq_eq_false_iff_ne.mpr c75
                                  have c75b1 : (t189 != 106) = true := bne_iff_ne.mpr c75
                                  obtain rfl := Option.some.inj H
                                  go_wp2_with (first | (go_at_call 17; (with_reducible refine (token_Unquote.calls k1 (((⟨#[34]⟩ : ByteArray) ++ x5_1) ++ (⟨#[34]⟩ : ByteArray)) t182 t183 t184 _ ?side1 A63.out).mono ?_); (case side1 => exact Tabs.below HT (by repeat (first | (with_reducible first | exact HB.out | apply below_alloc | apply pw_below_drewN | apply below_drew1) | exact HB.out))); rintro e w81 ⟨rfl, hb⟩; have n0_ := Aside0.mk (below_step (by repeat (first | (with_reducible first | exact HB.out | apply below_alloc | apply pw_below_drewN | apply below_drew1) | exact HB.out)) hb); clear HB; have HB := n0_; clear n0_; (try clear hb); (try clear hb2); (try clear hk); (try clear hi)) | (go_at_call 17; (with_reducible refine (token_Unquote.calls k1 (((⟨#[96]⟩ : ByteArray) ++ x6_1) ++ (⟨#[96]⟩ : ByteArray)) t185 t186 t187 _ ?side1 A66.out).mono ?_); (case side1 => exact Tabs.below HT (by repeat (first | (with_reducible first | exact HB.out | apply below_alloc | apply pw_below_drewN | apply below_drew1) | exact HB.out))); rintro e w82 ⟨rfl, hb⟩; have n0_ := Aside0.mk (below_step (by repeat (first | (with_reducible first | exact HB.out | apply below_alloc | apply pw_below_drewN | apply below_drew1) | exact HB.out)) hb); clear HB; have HB := n0_; clear n0_; (try clear hb); (try clear hb2); (try clear hk); (try clear hi)) | (go_at_call 17; (with_reducible refine (token_Unquote.calls k1 ((⟨#[34]⟩ : ByteArray) ++ x5_1) t188 t189 t190 _ ?side1 A67.out).mono ?_); (case side1 => exact Tabs.below HT (by repeat (first | (with_reducible first | exact HB.out | apply below_alloc | apply pw_below_drewN | apply below_drew1) | exact HB.out))); rintro e w83 ⟨rfl, hb⟩; have n0_ := Aside0.mk (below_step (by repeat (first | (with_reducible first | exact HB.out | apply below_alloc | apply pw_below_drewN | apply below_drew1) | exact HB.out)) hb); clear HB; have HB := n0_; clear n0_; (try clear hb); (try clear hb2); (try clear hk); (try clear hi)) | (go_at_call 17; (with_reducible refine (token_Unquote.calls k1 ((⟨#[96]⟩ : ByteArray) ++ x6_1) t191 t192 t193 _ ?side1 A68.out).mono ?_); (case side1 => exact Tabs.below HT (by repeat (first | (with_reducible first | exact HB.out | apply below_alloc | apply pw_below_drewN | apply below_drew1) | exact HB.out))); rintro e w84 ⟨rfl, hb⟩; have n0_ := Aside0.mk (below_step (by repeat (first | (with_reducible first | exact HB.out | apply below_alloc | apply pw_below_drewN | apply below_drew1) | exact HB.out)) hb); clear HB; have HB := n0_; clear n0_; (try clear hb); (try clear hb2); (try clear hk); (try clear hi); have hcv85 := Kd.C_string (P := Tryd.prog) (A := A0) (c := c0) Tryd.underlying34 Tryd.underlying5 Tryd.underlying9 (Kd.C_below HR0.out HB.out)))
                                  repeat (go_quiet (first | (go_at_call 17; (with_reducible refine (token_Unquote.calls k1 (((⟨#[34]⟩ : ByteArray) ++ x5_1) ++ (⟨#[34]⟩ : ByteArray)) t182 t183 t184 _ ?side1 A63.out).mono ?_); (case side1 => exact Tabs.below HT (by repeat (first | (with_reducible first | exact HB.out | apply below_alloc | apply pw_below_drewN | apply below_drew1) | exact HB.out))); rintro e w81 ⟨rfl, hb⟩; have n0_ := Aside0.mk (below_step (by repeat (first | (with_reducible first | exact HB.out | apply below_alloc | apply pw_below_drewN | apply below_drew1) | exact HB.out)) hb); clear HB; have HB := n0_; clear n0_; (try clear hb); (try clear hb2); (try clear hk); (try clear hi)) | (go_at_call 17; (with_reducible refine (token_Unquote.calls k1 (((⟨#[96]⟩ : ByteArray) ++ x6_1) ++ (⟨#[96]⟩ : ByteArray)) t185 t186 t187 _ ?side1 A66.out).mono ?_); (case side1 => exact Tabs.below HT (by repeat (first | (with_reducible first | exact HB.out | apply below_alloc | apply pw_below_drewN | apply below_drew1) | exact HB.out))); rintro e w82 ⟨rfl, hb⟩; have n0_ := Aside0.mk (below_step (by repeat (first | (with_reducible first | exact HB.out | apply below_alloc | apply pw_below_drewN | apply below_drew1) | exact HB.out)) hb); clear HB; have HB := n0_; clear n0_; (try clear hb); (try clear hb2); (try clear hk); (try clear hi)) | (go_at_call 17; (with_reducible refine (token_Unquote.calls k1 ((⟨#[34]⟩ : ByteArray) ++ x5_1) t188 t189 t190 _ ?side1 A67.out).mono ?_); (case side1 => exact Tabs.below HT (by repeat (first | (with_reducible first | exact HB.out | apply below_alloc | apply pw_below_drewN | apply below_drew1) | exact HB.out))); rintro e w83 ⟨rfl, hb⟩; have n0_ := Aside0.mk (below_step (by repeat (first | (with_reducible first | exact HB.out | apply below_alloc | apply pw_below_drewN | apply below_drew1) | exact HB.out)) hb); clear HB; have HB := n0_; clear n0_; (try clear hb); (try clear hb2); (try clear hk); (try clear hi)) | (go_at_call 17; (with_reducible refine (token_Unquote.calls k1 ((⟨#[96]⟩ : ByteArray) ++ x6_1) t191 t192 t193 _ ?side1 A68.out).mono ?_); (case side1 => exact Tabs.below HT (by repeat (first | (with_reducible first | exact HB.out | apply below_alloc | apply pw_below_drewN | apply below_drew1) | exact HB.out))); rintro e w84 ⟨rfl, hb⟩; have n0_ := Aside0.mk (below_step (by repeat (first | (with_reducible first | exact HB.out | apply below_alloc | apply pw_below_drewN | apply below_drew1) | exact HB.out)) hb); clear HB; have HB := n0_; clear n0_; (try clear hb); (try clear hb2); (try clear hk); (try clear hi); have hcv85 := Kd.C_string (P := Tryd.prog) (A := A0) (c := c0) Tryd.underlying34 Tryd.underlying5 Tryd.underlying9 (Kd.C_below HR0.out HB.out))); try go_wp2_with (first | (go_at_call 17; (with_reducible refine (token_Unquote.calls k1 (((⟨#[34]⟩ : ByteArray) ++ x5_1) ++ (⟨#[34]⟩ : ByteArray)) t182 t183 t184 _ ?side1 A63.out).mono ?_); (case side1 => exact Tabs.below HT (by repeat (first | (with_reducible first | exact HB.out | apply below_alloc | apply pw_below_drewN | apply below_drew1) | exact HB.out))); rintro e w81 ⟨rfl, hb⟩; have n0_ := Aside0.mk (below_step (by repeat (first | (with_reducible first | exact HB.out | apply below_alloc | apply pw_below_drewN | apply below_drew1) | exact HB.out)) hb); clear HB; have HB := n0_; clear n0_; (try clear hb); (try clear hb2); (try clear hk); (try clear hi)) | (go_at_call 17; (with_reducible refine (token_Unquote.calls k1 (((⟨#[96]⟩ : ByteArray) ++ x6_1) ++ (⟨#[96]⟩ : ByteArray)) t185 t186 t187 _ ?side1 A66.out).mono ?_); (case side1 => exact Tabs.below HT (by repeat (first | (with_reducible first | exact HB.out | apply below_alloc | apply pw_below_drewN | apply below_drew1) | exact HB.out))); rintro e w82 ⟨rfl, hb⟩; have n0_ := Aside0.mk (below_step (by repeat (first | (with_reducible first | exact HB.out | apply below_alloc | apply pw_below_drewN | apply below_drew1) | exact HB.out)) hb); clear HB; have HB := n0_; clear n0_; (try clear hb); (try clear hb2); (try clear hk); (try clear hi)) | (go_at_call 17; (with_reducible refine (token_Unquote.calls k1 ((⟨#[34]⟩ : ByteArray) ++ x5_1) t188 t189 t190 _ ?side1 A67.out).mono ?_); (case side1 => exact Tabs.below HT (by repeat (first | (with_reducible first | exact HB.out | apply below_alloc | apply pw_below_drewN | apply below_drew1) | exact HB.out))); rintro e w83 ⟨rfl, hb⟩; have n0_ := Aside0.mk (below_step (by repeat (first | (with_reducible first | exact HB.out | apply below_alloc | apply pw_below_drewN | apply below_drew1) | exact HB.out)) hb); clear HB; have HB := n0_; clear n0_; (try clear hb); (try clear hb2); (try clear hk); (try clear hi)) | (go_at_call 17; (with_reducible refine (token_Unquote.calls k1 ((⟨#[96]⟩ : ByteArray) ++ x6_1) t191 t192 t193 _ ?side1 A68.out).mono ?_); (case side1 => exact Tabs.below HT (by repeat (first | (with_reducible first | exact HB.out | apply below_alloc | apply pw_below_drewN | apply below_drew1) | exact HB.out))); rintro e w84 ⟨rfl, hb⟩; have n0_ := Aside0.mk (below_step (by repeat (first | (with_reducible first | exact HB.out | apply below_alloc | apply pw_below_drewN | apply below_drew1) | exact HB.out)) hb); clear HB; have HB := n0_; clear n0_; (try clear hb); (try clear hb2); (try clear hk); (try clear hi); have hcv85 := Kd.C_string (P := Tryd.prog) (A := A0) (c := c0) Tryd.underlying34 Tryd.underlying5 Tryd.underlying9 (Kd.C_below HR0.out HB.out))))
                                  go_ret
                                  exact ⟨by first | rfl | (simp [errW_none, errW_some] <;> rfl) | (simp [*, errW_none, errW_some] <;> rfl), by repeat (first | (with_reducible first | exact HB.out | apply below_alloc | apply pw_below_drewN | apply below_drew1) | exact HB.out)⟩
                              · rw [if_neg c74] at H
                                have c74b0 : (t187 == 0) = false := beq_eq_false_iff_ne.mpr c74
                                have c74b1 : (t187 != 0) = true := bne_iff_ne.mpr c74
                                obtain rfl := Option.some.inj H
                                go_wp2_with (first | (go_at_call 17; (with_reducible refine (token_Unquote.calls k1 (((⟨#[34]⟩ : ByteArray) ++ x5_1) ++ (⟨#[34]⟩ : ByteArray)) t182 t183 t184 _ ?side1 A63.out).mono ?_); (case side1 => exact Tabs.below HT (by repeat (first | (with_reducible first | exact HB.out | apply below_alloc | apply pw_below_drewN | apply below_drew1) | exact HB.out))); rintro e w86 ⟨rfl, hb⟩; have n0_ := Aside0.mk (below_step (by repeat (first | (with_reducible first | exact HB.out | apply below_alloc | apply pw_below_drewN | apply below_drew1) | exact HB.out)) hb); clear HB; have HB := n0_; clear n0_; (try clear hb); (try clear hb2); (try clear hk); (try clear hi)) | (go_at_call 17; (with_reducible refine (token_Unquote.calls k1 (((⟨#[96]⟩ : ByteArray) ++ x6_1) ++ (⟨#[96]⟩ : ByteArray)) t185 t186 t187 _ ?side1 A66.out).mono ?_); (case side1 => exact Tabs.below HT (by repeat (first | (with_reducible first | exact HB.out | apply below_alloc | apply pw_below_drewN | apply below_drew1) | exact HB.out))); rintro e w87 ⟨rfl, hb⟩; have n0_ := Aside0.mk (below_step (by repeat (first | (with_reducible first | exact HB.out | apply below_alloc | apply pw_below_drewN | apply below_drew1) | exact HB.out)) hb); clear HB; have HB := n0_; clear n0_; (try clear hb); (try clear hb2); (try clear hk); (try clear hi)) | (go_at_call 17; (with_reducible refine (token_Unquote.calls k1 ((⟨#[34]⟩ : ByteArray) ++ x5_1) t188 t189 t190 _ ?side1 A67.out).mono ?_); (case side1 => exact Tabs.below HT (by repeat (first | (with_reducible first | exact HB.out | apply below_alloc | apply pw_below_drewN | apply below_drew1) | exact HB.out))); rintro e w88 ⟨rfl, hb⟩; have n0_ := Aside0.mk (below_step (by repeat (first | (with_reducible first | exact HB.out | apply below_alloc | apply pw_below_drewN | apply below_drew1) | exact HB.out)) hb); clear HB; have HB := n0_; clear n0_; (try clear hb); (try clear hb2); (try clear hk); (try clear hi)) | (go_at_call 17; (with_reducible refine (token_Unquote.calls k1 ((⟨#[96]⟩ : ByteArray) ++ x6_1) t191 t192 t193 _ ?side1 A68.out).mono ?_); (case side1 => exact Tabs.below HT (by repeat (first | (with_reducible first | exact HB.out | apply below_alloc | apply pw_below_drewN | apply below_drew1) | exact HB.out))); rintro e w89 ⟨rfl, hb⟩; have n0_ := Aside0.mk (below_step (by repeat (first | (with_reducible first | exact HB.out | apply below_alloc | apply pw_below_drewN | apply below_drew1) | exact HB.out)) hb); clear HB; have HB := n0_; clear n0_; (try clear hb); (try clear hb2); (try clear hk); (try clear hi); have hcv90 := Kd.C_string (P := Tryd.prog) (A := A0) (c := c0) Tryd.underlying34 Tryd.underlying5 Tryd.underlying9 (Kd.C_below HR0.out HB.out)))
                                repeat (go_quiet (first | (go_at_call 17; (with_reducible refine (token_Unquote.calls k1 (((⟨#[34]⟩ : ByteArray) ++ x5_1) ++ (⟨#[34]⟩ : ByteArray)) t182 t183 t184 _ ?side1 A63.out).mono ?_); (case side1 => exact Tabs.below HT (by repeat (first | (with_reducible first | exact HB.out | apply below_alloc | apply pw_below_drewN | apply below_drew1) | exact HB.out))); rintro e w86 ⟨rfl, hb⟩; have n0_ := Aside0.mk (below_step (by repeat (first | (with_reducible first | exact HB.out | apply below_alloc | apply pw_below_drewN | apply below_drew1) | exact HB.out)) hb); clear HB; have HB := n0_; clear n0_; (try clear hb); (try clear hb2); (try clear hk); (try clear hi)) | (go_at_call 17; (with_reducible refine (token_Unquote.calls k1 (((⟨#[96]⟩ : ByteArray) ++ x6_1) ++ (⟨#[96]⟩ : ByteArray)) t185 t186 t187 _ ?side1 A66.out).mono ?_); (case side1 => exact Tabs.below HT (by repeat (first | (with_reducible first | exact HB.out | apply below_alloc | apply pw_below_drewN | apply below_drew1) | exact HB.out))); rintro e w87 ⟨rfl, hb⟩; have n0_ := Aside0.mk (below_step (by repeat (first | (with_reducible first | exact HB.out | apply below_alloc | apply pw_below_drewN | apply below_drew1) | exact HB.out)) hb); clear HB; have HB := n0_; clear n0_; (try clear hb); (try clear hb2); (try clear hk); (try clear hi)) | (go_at_call 17; (with_reducible refine (token_Unquote.calls k1 ((⟨#[34]⟩ : ByteArray) ++ x5_1) t188 t189 t190 _ ?side1 A67.out).mono ?_); (case side1 => exact Tabs.below HT (by repeat (first | (with_reducible first | exact HB.out | apply below_alloc | apply pw_below_drewN | apply below_drew1) | exact HB.out))); rintro e w88 ⟨rfl, hb⟩; have n0_ := Aside0.mk (below_step (by repeat (first | (with_reducible first | exact HB.out | apply below_alloc | apply pw_below_drewN | apply below_drew1) | exact HB.out)) hb); clear HB; have HB := n0_; clear n0_; (try clear hb); (try clear hb2); (try clear hk); (try clear hi)) | (go_at_call 17; (with_reducible refine (token_Unquote.calls k1 ((⟨#[96]⟩ : ByteArray) ++ x6_1) t191 t192 t193 _ ?side1 A68.out).mono ?_); (case side1 => exact Tabs.below HT (by repeat (first | (with_reducible first | exact HB.out | apply below_alloc | apply pw_below_drewN | apply below_drew1) | exact HB.out))); rintro e w89 ⟨rfl, hb⟩; have n0_ := Aside0.mk (below_step (by repeat (first | (with_reducible first | exact HB.out | apply below_alloc | apply pw_below_drewN | apply below_drew1) | exact HB.out)) hb); clear HB; have HB := n0_; clear n0_; (try clear hb); (try clear hb2); (try clear hk); (try clear hi); have hcv90 := Kd.C_string (P := Tryd.prog) (A := A0) (c := c0) Tryd.underlying34 Tryd.underlying5 Tryd.underlying9 (Kd.C_below HR0.out HB.out))); try go_wp2_with (first | (go_at_call 17; (with_reducible refine (token_Unquote.calls k1 (((⟨#[34]⟩ : ByteArray) ++ x5_1) ++ (⟨#[34]⟩ : ByteArray)) t182 t183 t184 _ ?side1 A63.out).mono ?_); (case side1 => exact Tabs.below HT (by repeat (first | (with_reducible first | exact HB.out | apply below_alloc | apply pw_below_drewN | apply below_drew1) | exact HB.out))); rintro e w86 ⟨rfl, hb⟩; have n0_ := Aside0.mk (below_step (by repeat (first | (with_reducible first | exact HB.out | apply below_alloc | apply pw_below_drewN | apply below_drew1) | exact HB.out)) hb); clear HB; have HB := n0_; clear n0_; (try clear hb); (try clear hb2); (try clear hk); (try clear hi)) | (go_at_call 17; (with_reducible refine (token_Unquote.calls k1 (((⟨#[96]⟩ : ByteArray) ++ x6_1) ++ (⟨#[96]⟩ : ByteArray)) t185 t186 t187 _ ?side1 A66.out).mono ?_); (case side1 => exact Tabs.below HT (by repeat (first | (with_reducible first | exact HB.out | apply below_alloc | apply pw_below_drewN | apply below_drew1) | exact HB.out))); rintro e w87 ⟨rfl, hb⟩; have n0_ := Aside0.mk (below_step (by repeat (first | (with_reducible first | exact HB.out | apply below_alloc | apply pw_below_drewN | apply below_drew1) | exact HB.out)) hb); clear HB; have HB := n0_; clear n0_; (try clear hb); (try clear hb2); (try clear hk); (try clear hi)) | (go_at_call 17; (with_reducible refine (token_Unquote.calls k1 ((⟨#[34]⟩ : ByteArray) ++ x5_1) t188 t189 t190 _ ?side1 A67.out).mono ?_); (case side1 => exact Tabs.below HT (by repeat (first | (with_reducible first | exact HB.out | apply below_alloc | apply pw_below_drewN | apply below_drew1) | exact HB.out))); rintro e w88 ⟨rfl, hb⟩; have n0_ := Aside0.mk (below_step (by repeat (first | (with_reducible first | exact HB.out | apply below_alloc | apply pw_below_drewN | apply below_drew1) | exact HB.out)) hb); clear HB; have HB := n0_; clear n0_; (try clear hb); (try clear hb2); (try clear hk); (try clear hi)) | (go_at_call 17; (with_reducible refine (token_Unquote.calls k1 ((⟨#[96]⟩ : ByteArray) ++ x6_1) t191 t192 t193 _ ?side1 A68.out).mono ?_); (case side1 => exact Tabs.below HT (by repeat (first | (with_reducible first | exact HB.out | apply below_alloc | apply pw_below_drewN | apply below_drew1) | exact HB.out))); rintro e w89 ⟨rfl, hb⟩; have n0_ := Aside0.mk (below_step (by repeat (first | (with_reducible first | exact HB.out | apply below_alloc | apply pw_below_drewN | apply below_drew1) | exact HB.out)) hb); clear HB; have HB := n0_; clear n0_; (try clear hb); (try clear hb2); (try clear hk); (try clear hi); have hcv90 := Kd.C_string (P := Tryd.prog) (A := A0) (c := c0) Tryd.underlying34 Tryd.underlying5 Tryd.underlying9 (Kd.C_below HR0.out HB.out))))
                                go_ret
                                exact ⟨by first | rfl | (simp [errW_none, errW_some] <;> rfl) | (simp [*, errW_none, errW_some] <;> rfl), by repeat (first | (with_reducible first | exact HB.out | apply below_alloc | apply pw_below_drewN | apply below_drew1) | exact HB.out)⟩
                            · rw [if_neg c73] at H
                              have c73b0 : (t186 == 0) = false := beq_eq_false_iff_ne.mpr c73
                              have c73b1 : (t186 != 0) = true := bne_iff_ne.mpr c73
                              obtain rfl := Option.some.inj H
                              go_wp2_with (first | (go_at_call 17; (with_reducible refine (token_Unquote.calls k1 (((⟨#[34]⟩ : ByteArray) ++ x5_1) ++ (⟨#[34]⟩ : ByteArray)) t182 t183 t184 _ ?side1 A63.out).mono ?_); (case side1 => exact Tabs.below HT (by repeat (first | (with_reducible first | exact HB.out | apply below_alloc | apply pw_below_drewN | apply below_drew1) | exact HB.out))); rintro e w91 ⟨rfl, hb⟩; have n0_ := Aside0.mk (below_step (by repeat (first | (with_reducible first | exact HB.out | apply below_alloc | apply pw_below_drewN | apply below_drew1) | exact HB.out)) hb); clear HB; have HB := n0_; clear n0_; (try clear hb); (try clear hb2); (try clear hk); (try clear hi)) | (go_at_call 17; (with_reducible refine (token_Unquote.calls k1 (((⟨#[96]⟩ : ByteArray) ++ x6_1) ++ (⟨#[96]⟩ : ByteArray)) t185 t186 t187 _ ?side1 A66.out).mono ?_); (case side1 => exact Tabs.below HT (by repeat (first | (with_reducible first | exact HB.out | apply below_alloc | apply pw_below_drewN | apply below_drew1) | exact HB.out))); rintro e w92 ⟨rfl, hb⟩; have n0_ := Aside0.mk (below_step (by repeat (first | (with_reducible first | exact HB.out | apply below_alloc | apply pw_below_drewN | apply below_drew1) | exact HB.out)) hb); clear HB; have HB := n0_; clear n0_; (try clear hb); (try clear hb2); (try clear hk); (try clear hi)) | (go_at_call 17; (with_reducible refine (token_Unquote.calls k1 ((⟨#[34]⟩ : ByteArray) ++ x5_1) t188 t189 t190 _ ?side1 A67.out).mono ?_); (case side1 => exact Tabs.below HT (by repeat (first | (with_reducible first | exact HB.out | apply below_alloc | apply pw_below_drewN | apply below_drew1) | exact HB.out))); rintro e w93 ⟨rfl, hb⟩; have n0_ := Aside0.mk (below_step (by repeat (first | (with_reducible first | exact HB.out | apply below_alloc | apply pw_below_drewN | apply below_drew1) | exact HB.out)) hb); clear HB; have HB := n0_; clear n0_; (try clear hb); (try clear hb2); (try clear hk); (try clear hi)) | (go_at_call 17; (with_reducible refine (token_Unquote.calls k1 ((⟨#[96]⟩ : ByteArray) ++ x6_1) t191 t192 t193 _ ?side1 A68.out).mono ?_); (case side1 => exact Tabs.below HT (by repeat (first | (with_reducible first | exact HB.out | apply below_alloc | apply pw_below_drewN | apply below_drew1) | exact HB.out))); rintro e w94 ⟨rfl, hb⟩; have n0_ := Aside0.mk (below_step (by repeat (first | (with_reducible first | exact HB.out | apply below_alloc | apply pw_below_drewN | apply below_drew1) | exact HB.out)) hb); clear HB; have HB := n0_; clear n0_; (try clear hb); (try clear hb2); (try clear hk); (try clear hi); have hcv95 := Kd.C_string (P := Tryd.prog) (A := A0) (c := c0) Tryd.underlying34 Tryd.underlying5 Tryd.underlying9 (Kd.C_below HR0.out HB.out)))
                              repeat (go_quiet (first | (go_at_call 17; (with_reducible refine (token_Unquote.calls k1 (((⟨#[34]⟩ : ByteArray) ++ x5_1) ++ (⟨#[34]⟩ : ByteArray)) t182 t183 t184 _ ?side1 A63.out).mono ?_); (case side1 => exact Tabs.below HT (by repeat (first | (with_reducible first | exact HB.out | apply below_alloc | apply pw_below_drewN | apply below_drew1) | exact HB.out))); rintro e w91 ⟨rfl, hb⟩; have n0_ := Aside0.mk (below_step (by repeat (first | (with_reducible first | exact HB.out | apply below_alloc | apply pw_below_drewN | apply below_drew1) | exact HB.out)) hb); clear HB; have HB := n0_; clear n0_; (try clear hb); (try clear hb2); (try clear hk); (try clear hi)) | (go_at_call 17; (with_reducible refine (token_Unquote.calls k1 (((⟨#[96]⟩ : ByteArray) ++ x6_1) ++ (⟨#[96]⟩ : ByteArray)) t185 t186 t187 _ ?side1 A66.out).mono ?_); (case side1 => exact Tabs.below HT (by repeat (first | (with_reducible first | exact HB.out | apply below_alloc | apply pw_below_drewN | apply below_drew1) | exact HB.out))); rintro e w92 ⟨rfl, hb⟩; have n0_ := Aside0.mk (below_step (by repeat (first | (with_reducible first | exact HB.out | apply below_alloc | apply pw_below_drewN | apply below_drew1) | exact HB.out)) hb); clear HB; have HB := n0_; clear n0_; (try clear hb); (try clear hb2); (try clear hk); (try clear hi)) | (go_at_call 17; (with_reducible refine (token_Unquote.calls k1 ((⟨#[34]⟩ : ByteArray) ++ x5_1) t188 t189 t190 _ ?side1 A67.out).mono ?_); (case side1 => exact Tabs.below HT (by repeat (first | (with_reducible first | exact HB.out | apply below_alloc | apply pw_below_drewN | apply below_drew1) | exact HB.out))); rintro e w93 ⟨rfl, hb⟩; have n0_ := Aside0.mk (below_step (by repeat (first | (with_reducible first | exact HB.out | apply below_alloc | apply pw_below_drewN | apply below_drew1) | exact HB.out)) hb); clear HB; have HB := n0_; clear n0_; (try clear hb); (try clear hb2); (try clear hk); (try clear hi)) | (go_at_call 17; (with_reducible refine (token_Unquote.calls k1 ((⟨#[96]⟩ : ByteArray) ++ x6_1) t191 t192 t193 _ ?side1 A68.out).mono ?_); (case side1 => exact Tabs.below HT (by repeat (first | (with_reducible first | exact HB.out | apply below_alloc | apply pw_below_drewN | apply below_drew1) | exact HB.out))); rintro e w94 ⟨rfl, hb⟩; have n0_ := Aside0.mk (below_step (by repeat (first | (with_reducible first | exact HB.out | apply below_alloc | apply pw_below_drewN | apply below_drew1) | exact HB.out)) hb); clear HB; have HB := n0_; clear n0_; (try clear hb); (try clear hb2); (try clear hk); (try clear hi); have hcv95 := Kd.C_string (P := Tryd.prog) (A := A0) (c := c0) Tryd.underlying34 Tryd.underlying5 Tryd.underlying9 (Kd.C_below HR0.out HB.out))); try go_wp2_with (first | (go_at_call 17; (with_reducible refine (token_Unquote.calls k1 (((⟨#[34]⟩ : ByteArray) ++ x5_1) ++ (⟨#[34]⟩ : ByteArray)) t182 t183 t184 _ ?side1 A63.out).mono ?_); (case side1 => exact Tabs.below HT (by repeat (first | (with_reducible first | exact HB.out | apply below_alloc | apply pw_below_drewN | apply below_drew1) | exact HB.out))); rintro e w91 ⟨rfl, hb⟩; have n0_ := Aside0.mk (below_step (by repeat (first | (with_reducible first | exact HB.out | apply below_alloc | apply pw_below_drewN | apply below_drew1) | exact HB.out)) hb); clear HB; have HB := n0_; clear n0_; (try clear hb); (try clear hb2); (try clear hk); (try clear hi)) | (go_at_call 17; (with_reducible refine (token_Unquote.calls k1 (((⟨#[96]⟩ : ByteArray) ++ x6_1) ++ (⟨#[96]⟩ : ByteArray)) t185 t186 t187 _ ?side1 A66.out).mono ?_); (case side1 => exact Tabs.below HT (by repeat (first | (with_reducible first | exact HB.out | apply below_alloc | apply pw_below_drewN | apply below_drew1) | exact HB.out))); rintro e w92 ⟨rfl, hb⟩; have n0_ := Aside0.mk (below_step (by repeat (first | (with_reducible first | exact HB.out | apply below_alloc | apply pw_below_drewN | apply below_drew1) | exact HB.out)) hb); clear HB; have HB := n0_; clear n0_; (try clear hb); (try clear hb2); (try clear hk); (try clear hi)) | (go_at_call 17; (with_reducible refine (token_Unquote.calls k1 ((⟨#[34]⟩ : ByteArray) ++ x5_1) t188 t189 t190 _ ?side1 A67.out).mono ?_); (case side1 => exact Tabs.below HT (by repeat (first | (with_reducible first | exact HB.out | apply below_alloc | apply pw_below_drewN | apply below_drew1) | exact HB.out))); rintro e w93 ⟨rfl, hb⟩; have n0_ := Aside0.mk (below_step (by repeat (first | (with_reducible first | exact HB.out | apply below_alloc | apply pw_below_drewN | apply below_drew1) | exact HB.out)) hb); clear HB; have HB := n0_; clear n0_; (try clear hb); (try clear hb2); (try clear hk); (try clear hi)) | (go_at_call 17; (with_reducible refine (token_Unquote.calls k1 ((⟨#[96]⟩ : ByteArray) ++ x6_1) t191 t192 t193 _ ?side1 A68.out).mono ?_); (case side1 => exact Tabs.below HT (by repeat (first | (with_reducible first | exact HB.out | apply below_alloc | apply pw_below_drewN | apply below_drew1) | exact HB.out))); rintro e w94 ⟨rfl, hb⟩; have n0_ := Aside0.mk (below_step (by repeat (first | (with_reducible first | exact HB.out | apply below_alloc | apply pw_below_drewN | apply below_drew1) | exact HB.out)) hb); clear HB; have HB := n0_; clear n0_; (try clear hb); (try clear hb2); (try clear hk); (try clear hi); have hcv95 := Kd.C_string (P := Tryd.prog) (A := A0) (c := c0) Tryd.underlying34 Tryd.underlying5 Tryd.underlying9 (Kd.C_below HR0.out HB.out))))
                              go_ret
                              exact ⟨by first | rfl | (simp [errW_none, errW_some] <;> rfl) | (simp [*, errW_none, errW_some] <;> rfl), by repeat (first | (with_reducible first | exact HB.out | apply below_alloc | apply pw_below_drewN | apply below_drew1) | exact HB.out)⟩
                          · rw [if_neg c72] at H
                            have c72b0 : (t185.toList == x7_1.toList) = false := beq_eq_false_iff_ne.mpr c72
                            have c72b1 : (t185.toList != x7_1.toList) = true := bne_iff_ne.mpr c72
                            obtain rfl := Option.some.inj H
                            go_wp2_with (first | (go_at_call 17; (with_reducible refine (token_Unquote.calls k1 (((⟨#[34]⟩ : ByteArray) ++ x5_1) ++ (⟨#[34]⟩ : ByteArray)) t182 t183 t184 _ ?side1 A63.out).mono ?_); (case side1 => exact Tabs.below HT (by repeat (first | (with_reducible first | exact HB.out | apply below_alloc | apply pw_below_drewN | apply below_drew1) | exact HB.out))); rintro e w96 ⟨rfl, hb⟩; have n0_ := Aside0.mk (below_step (by repeat (first | (with_reducible first | exact HB.out | apply below_alloc | apply pw_below_drewN | apply below_drew1) | exact HB.out)) hb); clear HB; have HB := n0_; clear n0_; (try clear hb); (try clear hb2); (try clear hk); (try clear hi)) | (go_at_call 17; (with_reducible refine (token_Unquote.calls k1 (((⟨#[96]⟩ : ByteArray) ++ x6_1) ++ (⟨#[96]⟩ : ByteArray)) t185 t186 t187 _ ?side1 A66.out).mono ?_); (case side1 => exact Tabs.below HT (by repeat (first | (with_reducible first | exact HB.out | apply below_alloc | apply pw_below_drewN | apply below_drew1) | exact HB.out))); rintro e w97 ⟨rfl, hb⟩; have n0_ := Aside0.mk (below_step (by repeat (first | (with_reducible first | exact HB.out | apply below_alloc | apply pw_below_drewN | apply below_drew1) | exact HB.out)) hb); clear HB; have HB := n0_; clear n0_; (try clear hb); (try clear hb2); (try clear hk); (try clear hi)) | (go_at_call 17; (with_reducible refine (token_Unquote.calls k1 ((⟨#[34]⟩ : ByteArray) ++ x5_1) t188 t189 t190 _ ?side1 A67.out).mono ?_); (case side1 => exact Tabs.below HT (by repeat (first | (with_reducible first | exact HB.out | apply below_alloc | apply pw_below_drewN | apply below_drew1) | exact HB.out))); rintro e w98 ⟨rfl, hb⟩; have n0_ := Aside0.mk (below_step (by repeat (first | (with_reducible first | exact HB.out | apply below_alloc | apply pw_below_drewN | apply below_drew1) | exact HB.out)) hb); clear HB; have HB := n0_; clear n0_; (try clear hb); (try clear hb2); (try clear hk); (try clear hi)) | (go_at_call 17; (with_reducible refine (token_Unquote.calls k1 ((⟨#[96]⟩ : ByteArray) ++ x6_1) t191 t192 t193 _ ?side1 A68.out).mono ?_); (case side1 => exact Tabs.below HT (by repeat (first | (with_reducible first | exact HB.out | apply below_alloc | apply pw_below_drewN | apply below_drew1) | exact HB.out))); rintro e w99 ⟨rfl, hb⟩; have n0_ := Aside0.mk (below_step (by repeat (first | (with_reducible first | exact HB.out | apply below_alloc | apply pw_below_drewN | apply below_drew1) | exact HB.out)) hb); clear HB; have HB := n0_; clear n0_; (try clear hb); (try clear hb2); (try clear hk); (try clear hi); have hcv100 := Kd.C_string (P := Tryd.prog) (A := A0) (c := c0) Tryd.underlying34 Tryd.underlying5 Tryd.underlying9 (Kd.C_below HR0.out HB.out)))
                            repeat (go_quiet (first | (go_at_call 17; (with_reducible refine (token_Unquote.calls k1 (((⟨#[34]⟩ : ByteArray) ++ x5_1) ++ (⟨#[34]⟩ : ByteArray)) t182 t183 t184 _ ?side1 A63.out).mono ?_); (case side1 => exact Tabs.below HT (by repeat (first | (with_reducible first | exact HB.out | apply below_alloc | apply pw_below_drewN | apply below_drew1) | exact HB.out))); rintro e w96 ⟨rfl, hb⟩; have n0_ := Aside0.mk (below_step (by repeat (first | (with_reducible first | exact HB.out | apply below_alloc | apply pw_below_drewN | apply below_drew1) | exact HB.out)) hb); clear HB; have HB := n0_; clear n0_; (try clear hb); (try clear hb2); (try clear hk); (try clear hi)) | (go_at_call 17; (with_reducible refine (token_Unquote.calls k1 (((⟨#[96]⟩ : ByteArray) ++ x6_1) ++ (⟨#[96]⟩ : ByteArray)) t185 t186 t187 _ ?side1 A66.out).mono ?_); (case side1 => exact Tabs.below HT (by repeat (first | (with_reducible first | exact HB.out | apply below_alloc | apply pw_below_drewN | apply below_drew1) | exact HB.out))); rintro e w97 ⟨rfl, hb⟩; have n0_ := Aside0.mk (below_step (by repeat (first | (with_reducible first | exact HB.out | apply below_alloc | apply pw_below_drewN | apply below_drew1) | exact HB.out)) hb); clear HB; have HB := n0_; clear n0_; (try clear hb); (try clear hb2); (try clear hk); (try clear hi)) | (go_at_call 17; (with_reducible refine (token_Unquote.calls k1 ((⟨#[34]⟩ : ByteArray) ++ x5_1) t188 t189 t190 _ ?side1 A67.out).mono ?_); (case side1 => exact Tabs.below HT (by repeat (first | (with_reducible first | exact HB.out | apply below_alloc | apply pw_below_drewN | apply below_drew1) | exact HB.out))); rintro e w98 ⟨rfl, hb⟩; have n0_ := Aside0.mk (below_step (by repeat (first | (with_reducible first | exact HB.out | apply below_alloc | apply pw_below_drewN | apply below_drew1) | exact HB.out)) hb); clear HB; have HB := n0_; clear n0_; (try clear hb); (try clear hb2); (try clear hk); (try clear hi)) | (go_at_call 17; (with_reducible refine (token_Unquote.calls k1 ((⟨#[96]⟩ : ByteArray) ++ x6_1) t191 t192 t193 _ ?side1 A68.out).mono ?_); (case side1 => exact Tabs.below HT (by repeat (first | (with_reducible first | exact HB.out | apply below_alloc | apply pw_below_drewN | apply below_drew1) | exact HB.out))); rintro e w99 ⟨rfl, hb⟩; have n0_ := Aside0.mk (below_step (by repeat (first | (with_reducible first | exact HB.out | apply below_alloc | apply pw_below_drewN | apply below_drew1) | exact HB.out)) hb); clear HB; have HB := n0_; clear n0_; (try clear hb); (try clear hb2); (try clear hk); (try clear hi); have hcv100 := Kd.C_string (P := Tryd.prog) (A := A0) (c := c0) Tryd.underlying34 Tryd.underlying5 Tryd.underlying9 (Kd.C_below HR0.out HB.out))); try go_wp2_with (first | (go_at_call 17; (with_reducible refine (token_Unquote.calls k1 (((⟨#[34]⟩ : ByteArray) ++ x5_1) ++ (⟨#[34]⟩ : ByteArray)) t182 t183 t184 _ ?side1 A63.out).mono ?_); (case side1 => exact Tabs.below HT (by repeat (first | (with_reducible first | exact HB.out | apply below_alloc | apply pw_below_drewN | apply below_drew1) | exact HB.out))); rintro e w96 ⟨rfl, hb⟩; have n0_ := Aside0.mk (below_step (by repeat (first | (with_reducible first | exact HB.out | apply below_alloc | apply pw_below_drewN | apply below_drew1) | exact HB.out)) hb); clear HB; have HB := n0_; clear n0_; (try clear hb); (try clear hb2); (try clear hk); (try clear hi)) | (go_at_call 17; (with_reducible refine (token_Unquote.calls k1 (((⟨#[96]⟩ : ByteArray) ++ x6_1) ++ (⟨#[96]⟩ : ByteArray)) t185 t186 t187 _ ?side1 A66.out).mono ?_); (case side1 => exact Tabs.below HT (by repeat (first | (with_reducible first | exact HB.out | apply below_alloc | apply pw_below_drewN | apply below_drew1) | exact HB.out))); rintro e w97 ⟨rfl, hb⟩; have n0_ := Aside0.mk (below_step (by repeat (first | (with_reducible first | exact HB.out | apply below_alloc | apply pw_below_drewN | apply below_drew1) | exact HB.out)) hb); clear HB; have HB := n0_; clear n0_; (try clear hb); (try clear hb2); (try clear hk); (try clear hi)) | (go_at_call 17; (with_reducible refine (token_Unquote.calls k1 ((⟨#[34]⟩ : ByteArray) ++ x5_1) t188 t189 t190 _ ?side1 A67.out).mono ?_); (case side1 => exact Tabs.below HT (by repeat (first | (with_reducible first | exact HB.out | apply below_alloc | apply pw_below_drewN | apply below_drew1) | exact HB.out))); rintro e w98 ⟨rfl, hb⟩; have n0_ := Aside0.mk (below_step (by repeat (first | (with_reducible first | exact HB.out | apply below_alloc | apply pw_below_drewN | apply below_drew1) | exact HB.out)) hb); clear HB; have HB := n0_; clear n0_; (try clear hb); (try clear hb2); (try clear hk); (try clear hi)) | (go_at_call 17; (with_reducible refine (token_Unquote.calls k1 ((⟨#[96]⟩ : ByteArray) ++ x6_1) t191 t192 t193 _ ?side1 A68.out).mono ?_); (case side1 => exact Tabs.below HT (by repeat (first | (with_reducible first | exact HB.out | apply below_alloc | apply pw_below_drewN | apply below_drew1) | exact HB.out))); rintro e w99 ⟨rfl, hb⟩; have n0_ := Aside0.mk (below_step (by repeat (first | (with_reducible first | exact HB.out | apply below_alloc | apply pw_below_drewN | apply below_drew1) | exact HB.out)) hb); clear HB; have HB := n0_; clear n0_; (try clear hb); (try clear hb2); (try clear hk); (try clear hi); have hcv100 := Kd.C_string (P := Tryd.prog) (A := A0) (c := c0) Tryd.underlying34 Tryd.underlying5 Tryd.underlying9 (Kd.C_below HR0.out HB.out))))
                            go_ret
                            exact ⟨by first | rfl | (simp [errW_none, errW_some] <;> rfl) | (simp [*, errW_none, errW_some] <;> rfl), by repeat (first | (with_reducible first | exact HB.out | apply below_alloc | apply pw_below_drewN | apply below_drew1) | exact HB.out)⟩
                        · rw [if_neg c71] at H
                          have c71b0 : (t184 == 0) = false := beq_eq_false_iff_ne.mpr c71
                          have c71b1 : (t184 != 0) = true := bne_iff_ne.mpr c71
                          obtain rfl := Option.some.inj H
                          go_wp2_with (first | (go_at_call 17; (with_reducible refine (token_Unquote.calls k1 (((⟨#[34]⟩ : ByteArray) ++ x5_1) ++ (⟨#[34]⟩ : ByteArray)) t182 t183 t184 _ ?side1 A63.out).mono ?_); (case side1 => exact Tabs.below HT (by repeat (first | (with_reducible first | exact HB.out | apply below_alloc | apply pw_below_drewN | apply below_drew1) | exact HB.out))); rintro e w101 ⟨rfl, hb⟩; have n0_ := Aside0.mk (below_step (by repeat (first | (with_reducible first | exact HB.out | apply below_alloc | apply pw_below_drewN | apply below_drew1) | exact HB.out)) hb); clear HB; have HB := n0_; clear n0_; (try clear hb); (try clear hb2); (try clear hk); (try clear hi)) | (go_at_call 17; (with_reducible refine (token_Unquote.calls k1 (((⟨#[96]⟩ : ByteArray) ++ x6_1) ++ (⟨#[96]⟩ : ByteArray)) t185 t186 t187 _ ?side1 A66.out).mono ?_); (case side1 => exact Tabs.below HT (by repeat (first | (with_reducible first | exact HB.out | apply below_alloc | apply pw_below_drewN | apply below_drew1) | exact HB.out))); rintro e w102 ⟨rfl, hb⟩; have n0_ := Aside0.mk (below_step (by repeat (first | (with_reducible first | exact HB.out | apply below_alloc | apply pw_below_drewN | apply below_drew1) | exact HB.out)) hb); clear HB; have HB := n0_; clear n0_; (try clear hb); (try clear hb2); (try clear hk); (try clear hi)) | (go_at_call 17; (with_reducible refine (token_Unquote.calls k1 ((⟨#[34]⟩ : ByteArray) ++ x5_1) t188 t189 t190 _ ?side1 A67.out).mono ?_); (case side1 => exact Tabs.below HT (by repeat (first | (with_reducible first | exact HB.out | apply below_alloc | apply pw_below_drewN | apply below_drew1) | exact HB.out))); rintro e w103 ⟨rfl, hb⟩; have n0_ := Aside0.mk (below_step (by repeat (first | (with_reducible first | exact HB.out | apply below_alloc | apply pw_below_drewN | apply below_drew1) | exact HB.out)) hb); clear HB; have HB := n0_; clear n0_; (try clear hb); (try clear hb2); (try clear hk); (try clear hi)) | (go_at_call 17; (with_reducible refine (token_Unquote.calls k1 ((⟨#[96]⟩ : ByteArray) ++ x6_1) t191 t192 t193 _ ?side1 A68.out).mono ?_); (case side1 => exact Tabs.below HT (by repeat (first | (with_reducible first | exact HB.out | apply below_alloc | apply pw_below_drewN | apply below_drew1) | exact HB.out))); rintro e w104 ⟨rfl, hb⟩; have n0_ := Aside0.mk (below_step (by repeat (first | (with_reducible first | exact HB.out | apply below_alloc | apply pw_below_drewN | apply below_drew1) | exact HB.out)) hb); clear HB; have HB := n0_; clear n0_; (try clear hb); (try clear hb2); (try clear hk); (try clear hi); have hcv105 := Kd.C_string (P := Tryd.prog) (A := A0) (c := c0) Tryd.underlying34 Tryd.underlying5 Tryd.underlying9 (Kd.C_below HR0.out HB.out)))
                          repeat (go_quiet (first | (go_at_call 17; (with_reducible refine (token_Unquote.calls k1 (((⟨#[34]⟩ : ByteArray) ++ x5_1) ++ (⟨#[34]⟩ : ByteArray)) t182 t183 t184 _ ?side1 A63.out).mono ?_); (case side1 => exact Tabs.below HT (by repeat (first | (with_reducible first | exact HB.out | apply below_alloc | apply pw_below_drewN | apply below_drew1) | exact HB.out))); rintro e w101 ⟨rfl, hb⟩; have n0_ := Aside0.mk (below_step (by repeat (first | (with_reducible first | exact HB.out | apply below_alloc | apply pw_below_drewN | apply below_drew1) | exact HB.out)) hb); clear HB; have HB := n0_; clear n0_; (try clear hb); (try clear hb2); (try clear hk); (try clear hi)) | (go_at_call 17; (with_reducible refine (token_Unquote.calls k1 (((⟨#[96]⟩ : ByteArray) ++ x6_1) ++ (⟨#[96]⟩ : ByteArray)) t185 t186 t187 _ ?side1 A66.out).mono ?_); (case side1 => exact Tabs.below HT (by repeat (first | (with_reducible first | exact HB.out | apply below_alloc | apply pw_below_drewN | apply below_drew1) | exact HB.out))); rintro e w102 ⟨rfl, hb⟩; have n0_ := Aside0.mk (below_step (by repeat (first | (with_reducible first | exact HB.out | apply below_alloc | apply pw_below_drewN | apply below_drew1) | exact HB.out)) hb); clear HB; have HB := n0_; clear n0_; (try clear hb); (try clear hb2); (try clear hk); (try clear hi)) | (go_at_call 17; (with_reducible refine (token_Unquote.calls k1 ((⟨#[34]⟩ : ByteArray) ++ x5_1) t188 t189 t190 _ ?side1 A67.out).mono ?_); (case side1 => exact Tabs.below HT (by repeat (first | (with_reducible first | exact HB.out | apply below_alloc | apply pw_below_drewN | apply below_drew1) | exact HB.out))); rintro e w103 ⟨rfl, hb⟩; have n0_ := Aside0.mk (below_step (by repeat (first | (with_reducible first | exact HB.out | apply below_alloc | apply pw_below_drewN | apply below_drew1) | exact HB.out)) hb); clear HB; have HB := n0_; clear n0_; (try clear hb); (try clear hb2); (try clear hk); (try clear hi)) | (go_at_call 17; (with_reducible refine (token_Unquote.calls k1 ((⟨#[96]⟩ : ByteArray) ++ x6_1) t191 t192 t193 _ ?side1 A68.out).mono ?_); (case side1 => exact Tabs.below HT (by repeat (first | (with_reducible first | exact HB.out | apply below_alloc | apply pw_below_drewN | apply below_drew1) | exact HB.out))); rintro e w104 ⟨rfl, hb⟩; have n0_ := Aside0.mk (below_step (by repeat (first | (with_reducible first | exact HB.out | apply below_alloc | apply pw_below_drewN | apply below_drew1) | exact HB.out)) hb); clear HB; have HB := n0_; clear n0_; (try clear hb); (try clear hb2); (try clear hk); (try clear hi); have hcv105 := Kd.C_string (P := Tryd.prog) (A := A0) (c := c0) Tryd.underlying34 Tryd.underlying5 Tryd.underlying9 (Kd.C_below HR0.out HB.out))); try go_wp2_with (first | (go_at_call 17; (with_reducible refine (token_Unquote.calls k1 (((⟨#[34]⟩ : ByteArray) ++ x5_1) ++ (⟨#[34]⟩ : ByteArray)) t182 t183 t184 _ ?side1 A63.out).mono ?_); (case side1 => exact Tabs.below HT (by repeat (first | (with_reducible first | exact HB.out | apply below_alloc | apply pw_below_drewN | apply below_drew1) | exact HB.out))); rintro e w101 ⟨rfl, hb⟩; have n0_ := Aside0.mk (below_step (by repeat (first | (with_reducible first | exact HB.out | apply below_alloc | apply pw_below_drewN | apply below_drew1) | exact HB.out)) hb); clear HB; have HB := n0_; clear n0_; (try clear hb); (try clear hb2); (try clear hk); (try clear hi)) | (go_at_call 17; (with_reducible refine (token_Unquote.calls k1 (((⟨#[96]⟩ : ByteArray) ++ x6_1) ++ (⟨#[96]⟩ : ByteArray)) t185 t186 t187 _ ?side1 A66.out).mono ?_); (case side1 => exact Tabs.below HT (by repeat (first | (with_reducible first | exact HB.out | apply below_alloc | apply pw_below_drewN | apply below_drew1) | exact HB.out))); rintro e w102 ⟨rfl, hb⟩; have n0_ := Aside0.mk (below_step (by repeat (first | (with_reducible first | exact HB.out | apply below_alloc | apply pw_below_drewN | apply below_drew1) | exact HB.out)) hb); clear HB; have HB := n0_; clear n0_; (try clear hb); (try clear hb2); (try clear hk); (try clear hi)) | (go_at_call 17; (with_reducible refine (token_Unquote.calls k1 ((⟨#[34]⟩ : ByteArray) ++ x5_1) t188 t189 t190 _ ?side1 A67.out).mono ?_); (case side1 => exact Tabs.below HT (by repeat (first | (with_reducible first | exact HB.out | apply below_alloc | apply pw_below_drewN | apply below_drew1) | exact HB.out))); rintro e w103 ⟨rfl, hb⟩; have n0_ := Aside0.mk (below_step (by repeat (first | (with_reducible first | exact HB.out | apply below_alloc | apply pw_below_drewN | apply below_drew1) | exact HB.out)) hb); clear HB; have HB := n0_; clear n0_; (try clear hb); (try clear hb2); (try clear hk); (try clear hi)) | (go_at_call 17; (with_reducible refine (token_Unquote.calls k1 ((⟨#[96]⟩ : ByteArray) ++ x6_1) t191 t192 t193 _ ?side1 A68.out).mono ?_); (case side1 => exact Tabs.below HT (by repeat (first | (with_reducible first | exact HB.out | apply below_alloc | apply pw_below_drewN | apply below_drew1) | exact HB.out))); rintro e w104 ⟨rfl, hb⟩; have n0_ := Aside0.mk (below_step (by repeat (first | (with_reducible first | exact HB.out | apply below_alloc | apply pw_below_drewN | apply below_drew1) | exact HB.out)) hb); clear HB; have HB := n0_; clear n0_; (try clear hb); (try clear hb2); (try clear hk); (try clear hi); have hcv105 := Kd.C_string (P := Tryd.prog) (A := A0) (c := c0) Tryd.underlying34 Tryd.underlying5 Tryd.underlying9 (Kd.C_below HR0.out HB.out))))
                          go_ret
                          exact ⟨by first | rfl | (simp [errW_none, errW_some] <;> rfl) | (simp [*, errW_none, errW_some] <;> rfl), by repeat (first | (with_reducible first | exact HB.out | apply below_alloc | apply pw_below_drewN | apply below_drew1) | exact HB.out)⟩
                      · rw [if_neg c70] at H
                        have c70b0 : (t183 == 0) = false := beq_eq_false_iff_ne.mpr c70
                        have c70b1 : (t183 != 0) = true := bne_iff_ne.mpr c70
                        obtain rfl := Option.some.inj H
                        go_wp2_with (first | (go_at_call 17; (with_reducible refine (token_Unquote.calls k1 (((⟨#[34]⟩ : ByteArray) ++ x5_1) ++ (⟨#[34]⟩ : ByteArray)) t182 t183 t184 _ ?side1 A63.out).mono ?_); (case side1 => exact Tabs.below HT (by repeat (first | (with_reducible first | exact HB.out | apply below_alloc | apply pw_below_drewN | apply below_drew1) | exact HB.out))); rintro e w106 ⟨rfl, hb⟩; have n0_ := Aside0.mk (below_step (by repeat (first | (with_reducible first | exact HB.out | apply below_alloc | apply pw_below_drewN | apply below_drew1) | exact HB.out)) hb); clear HB; have HB := n0_; clear n0_; (try clear hb); (try clear hb2); (try clear hk); (try clear hi)) | (go_at_call 17; (with_reducible refine (token_Unquote.calls k1 (((⟨#[96]⟩ : ByteArray) ++ x6_1) ++ (⟨#[96]⟩ : ByteArray)) t185 t186 t187 _ ?side1 A66.out).mono ?_); (case side1 => exact Tabs.below HT (by repeat (first | (with_reducible first | exact HB.out | apply below_alloc | apply pw_below_drewN | apply below_drew1) | exact HB.out))); rintro e w107 ⟨rfl, hb⟩; have n0_ := Aside0.mk (below_step (by repeat (first | (with_reducible first | exact HB.out | apply below_alloc | apply pw_below_drewN | apply below_drew1) | exact HB.out)) hb); clear HB; have HB := n0_; clear n0_; (try clear hb); (try clear hb2); (try clear hk); (try clear hi)) | (go_at_call 17; (with_reducible refine (token_Unquote.calls k1 ((⟨#[34]⟩ : ByteArray) ++ x5_1) t188 t189 t190 _ ?side1 A67.out).mono ?_); (case side1 => exact Tabs.below HT (by repeat (first | (with_reducible first | exact HB.out | apply below_alloc | apply pw_below_drewN | apply below_drew1) | exact HB.out))); rintro e w108 ⟨rfl, hb⟩; have n0_ := Aside0.mk (below_step (by repeat (first | (with_reducible first | exact HB.out | apply below_alloc | apply pw_below_drewN | apply below_drew1) | exact HB.out)) hb); clear HB; have HB := n0_; clear n0_; (try clear hb); (try clear hb2); (try clear hk); (try clear hi)) | (go_at_call 17; (with_reducible refine (token_Unquote.calls k1 ((⟨#[96]⟩ : ByteArray) ++ x6_1) t191 t192 t193 _ ?side1 A68.out).mono ?_); (case side1 => exact Tabs.below HT (by repeat (first | (with_reducible first | exact HB.out | apply below_alloc | apply pw_below_drewN | apply below_drew1) | exact HB.out))); rintro e w109 ⟨rfl, hb⟩; have n0_ := Aside0.mk (below_step (by repeat (first | (with_reducible first | exact HB.out | apply below_alloc | apply pw_below_drewN | apply below_drew1) | exact HB.out)) hb); clear HB; have HB := n0_; clear n0_; (try clear hb); (try clear hb2); (try clear hk); (try clear hi); have hcv110 := Kd.C_string (P := Tryd.prog) (A := A0) (c := c0) Tryd.underlying34 Tryd.underlying5 Tryd.underlying9 (Kd.C_below HR0.out HB.out)))
                        repeat (go_quiet (first | (go_at_call 17; (with_reducible refine (token_Unquote.calls k1 (((⟨#[34]⟩ : ByteArray) ++ x5_1) ++ (⟨#[34]⟩ : ByteArray)) t182 t183 t184 _ ?side1 A63.out).mono ?_); (case side1 => exact Tabs.below HT (by repeat (first | (with_reducible first | exact HB.out | apply below_alloc | apply pw_below_drewN | apply below_drew1) | exact HB.out))); rintro e w106 ⟨rfl, hb⟩; have n0_ := Aside0.mk (below_step (by repeat (first | (with_reducible first | exact HB.out | apply below_alloc | apply pw_below_drewN | apply below_drew1) | exact HB.out)) hb); clear HB; have HB := n0_; clear n0_; (try clear hb); (try clear hb2); (try clear hk); (try clear hi)) | (go_at_call 17; (with_reducible refine (token_Unquote.calls k1 (((⟨#[96]⟩ : ByteArray) ++ x6_1) ++ (⟨#[96]⟩ : ByteArray)) t185 t186 t187 _ ?side1 A66.out).mono ?_); (case side1 => exact Tabs.below HT (by repeat (first | (with_reducible first | exact HB.out | apply below_alloc | apply pw_below_drewN | apply below_drew1) | exact HB.out))); rintro e w107 ⟨rfl, hb⟩; have n0_ := Aside0.mk (below_step (by repeat (first | (with_reducible first | exact HB.out | apply below_alloc | apply pw_below_drewN | apply below_drew1) | exact HB.out)) hb); clear HB; have HB := n0_; clear n0_; (try clear hb); (try clear hb2); (try clear hk); (try clear hi)) | (go_at_call 17; (with_reducible refine (token_Unquote.calls k1 ((⟨#[34]⟩ : ByteArray) ++ x5_1) t188 t189 t190 _ ?side1 A67.out).mono ?_); (case side1 => exact Tabs.below HT (by repeat (first | (with_reducible first | exact HB.out | apply below_alloc | apply pw_below_drewN | apply below_drew1) | exact HB.out))); rintro e w108 ⟨rfl, hb⟩; have n0_ := Aside0.mk (below_step (by repeat (first | (with_reducible first | exact HB.out | apply below_alloc | apply pw_below_drewN | apply below_drew1) | exact HB.out)) hb); clear HB; have HB := n0_; clear n0_; (try clear hb); (try clear hb2); (try clear hk); (try clear hi)) | (go_at_call 17; (with_reducible refine (token_Unquote.calls k1 ((⟨#[96]⟩ : ByteArray) ++ x6_1) t191 t192 t193 _ ?side1 A68.out).mono ?_); (case side1 => exact Tabs.below HT (by repeat (first | (with_reducible first | exact HB.out | apply below_alloc | apply pw_below_drewN | apply below_drew1) | exact HB.out))); rintro e w109 ⟨rfl, hb⟩; have n0_ := Aside0.mk (below_step (by repeat (first | (with_reducible first | exact HB.out | apply below_alloc | apply pw_below_drewN | apply below_drew1) | exact HB.out)) hb); clear HB; have HB := n0_; clear n0_; (try clear hb); (try clear hb2); (try clear hk); (try clear hi); have hcv110 := Kd.C_string (P := Tryd.prog) (A := A0) (c := c0) Tryd.underlying34 Tryd.underlying5 Tryd.underlying9 (Kd.C_below HR0.out HB.out))); try go_wp2_with (first | (go_at_call 17; (with_reducible refine (token_Unquote.calls k1 (((⟨#[34]⟩ : ByteArray) ++ x5_1) ++ (⟨#[34]⟩ : ByteArray)) t182 t183 t184 _ ?side1 A63.out).mono ?_); (case side1 => exact Tabs.below HT (by repeat (first | (with_reducible first | exact HB.out | apply below_alloc | apply pw_below_drewN | apply below_drew1) | exact HB.out))); rintro e w106 ⟨rfl, hb⟩; have n0_ := Aside0.mk (below_step (by repeat (first | (with_reducible first | exact HB.out | apply below_alloc | apply pw_below_drewN | apply below_drew1) | exact HB.out)) hb); clear HB; have HB := n0_; clear n0_; (try clear hb); (try clear hb2); (try clear hk); (try clear hi)) | (go_at_call 17; (with_reducible refine (token_Unquote.calls k1 (((⟨#[96]⟩ : ByteArray) ++ x6_1) ++ (⟨#[96]⟩ : ByteArray)) t185 t186 t187 _ ?side1 A66.out).mono ?_); (case side1 => exact Tabs.below HT (by repeat (first | (with_reducible first | exact HB.out | apply below_alloc | apply pw_below_drewN | apply below_drew1) | exact HB.out))); rintro e w107 ⟨rfl, hb⟩; have n0_ := Aside0.mk (below_step (by repeat (first | (with_reducible first | exact HB.out | apply below_alloc | apply pw_below_drewN | apply below_drew1) | exact HB.out)) hb); clear HB; have HB := n0_; clear n0_; (try clear hb); (try clear hb2); (try clear hk); (try clear hi)) | (go_at_call 17; (with_reducible refine (token_Unquote.calls k1 ((⟨#[34]⟩ : ByteArray) ++ x5_1) t188 t189 t190 _ ?side1 A67.out).mono ?_); (case side1 => exact Tabs.below HT (by repeat (first | (with_reducible first | exact HB.out | apply below_alloc | apply pw_below_drewN | apply below_drew1) | exact HB.out))); rintro e w108 ⟨rfl, hb⟩; have n0_ := Aside0.mk (below_step (by repeat (first | (with_reducible first | exact HB.out | apply below_alloc | apply pw_below_drewN | apply below_drew1) | exact HB.out)) hb); clear HB; have HB := n0_; clear n0_; (try clear hb); (try clear hb2); (try clear hk); (try clear hi)) | (go_at_call 17; (with_reducible refine (token_Unquote.calls k1 ((⟨#[96]⟩ : ByteArray) ++ x6_1) t191 t192 t193 _ ?side1 A68.out).mono ?_); (case side1 => exact Tabs.below HT (by repeat (first | (with_reducible first | exact HB.out | apply below_alloc | apply pw_below_drewN | apply below_drew1) | exact HB.out))); rintro e w109 ⟨rfl, hb⟩; have n0_ := Aside0.mk (below_step (by repeat (first | (with_reducible first | exact HB.out | apply below_alloc | apply pw_below_drewN | apply below_drew1) | exact HB.out)) hb); clear HB; have HB := n0_; clear n0_; (try clear hb); (try clear hb2); (try clear hk); (try clear hi); have hcv110 := Kd.C_string (P := Tryd.prog) (A := A0) (c := c0) Tryd.underlying34 Tryd.underlying5 Tryd.underlying9 (Kd.C_below HR0.out HB.out))))
                        go_ret
                        exact ⟨by first | rfl | (simp [errW_none, errW_some] <;> rfl) | (simp [*, errW_none, errW_some] <;> rfl), by repeat (first | (with_reducible first | exact HB.out | apply below_alloc | apply pw_below_drewN | apply below_drew1) | exact HB.out)⟩
                    · rw [if_neg c69] at H
                      have c69b0 : (t182.toList == (strOfNums l0).toList) = false := beq_eq_false_iff_ne.mpr c69
                      have c69b1 : (t182.toList != (strOfNums l0).toList) = true := bne_iff_ne.mpr c69
                      obtain rfl := Option.some.inj H
                      go_wp2_with (first | (go_at_call 17; (with_reducible refine (token_Unquote.calls k1 (((⟨#[34]⟩ : ByteArray) ++ x5_1) ++ (⟨#[34]⟩ : ByteArray)) t182 t183 t184 _ ?side1 A63.out).mono ?_); (case side1 => exact Tabs.below HT (by repeat (first | (with_reducible first | exact HB.out | apply below_alloc | apply pw_below_drewN | apply below_drew1) | exact HB.out))); rintro e w111 ⟨rfl, hb⟩; have n0_ := Aside0.mk (below_step (by repeat (first | (with_reducible first | exact HB.out | apply below_alloc | apply pw_below_drewN | apply below_drew1) | exact HB.out)) hb); clear HB; have HB := n0_; clear n0_; (try clear hb); (try clear hb2); (try clear hk); (try clear hi)) | (go_at_call 17; (with_reducible refine (token_Unquote.calls k1 (((⟨#[96]⟩ : ByteArray) ++ x6_1) ++ (⟨#[96]⟩ : ByteArray)) t185 t186 t187 _ ?side1 A66.out).mono ?_); (case side1 => exact Tabs.below HT (by repeat (first | (with_reducible first | exact HB.out | apply below_alloc | apply pw_below_drewN | apply below_drew1) | exact HB.out))); rintro e w112 ⟨rfl, hb⟩; have n0_ := Aside0.mk (below_step (by repeat (first | (with_reducible first | exact HB.out | apply below_alloc | apply pw_below_drewN | apply below_drew1) | exact HB.out)) hb); clear HB; have HB := n0_; clear n0_; (try clear hb); (try clear hb2); (try clear hk); (try clear hi)) | (go_at_call 17; (with_reducible refine (token_Unquote.calls k1 ((⟨#[34]⟩ : ByteArray) ++ x5_1) t188 t189 t190 _ ?side1 A67.out).mono ?_); (case side1 => exact Tabs.below HT (by repeat (first | (with_reducible first | exact HB.out | apply below_alloc | apply pw_below_drewN | apply below_drew1) | exact HB.out))); rintro e w113 ⟨rfl, hb⟩; have n0_ := Aside0.mk (below_step (by repeat (first | (with_reducible first | exact HB.out | apply below_alloc | apply pw_below_drewN | apply below_drew1) | exact HB.out)) hb); clear HB; have HB := n0_; clear n0_; (try clear hb); (try clear hb2); (try clear hk); (try clear hi)) | (go_at_call 17; (with_reducible refine (token_Unquote.calls k1 ((⟨#[96]⟩ : ByteArray) ++ x6_1) t191 t192 t193 _ ?side1 A68.out).mono ?_); (case side1 => exact Tabs.below HT (by repeat (first | (with_reducible first | exact HB.out | apply below_alloc | apply pw_below_drewN | apply below_drew1) | exact HB.out))); rintro e w114 ⟨rfl, hb⟩; have n0_ := Aside0.mk (below_step (by repeat (first | (with_reducible first | exact HB.out | apply below_alloc | apply pw_below_drewN | apply below_drew1) | exact HB.out)) hb); clear HB; have HB := n0_; clear n0_; (try clear hb); (try clear hb2); (try clear hk); (try clear hi); have hcv115 := Kd.C_string (P := Tryd.prog) (A := A0) (c := c0) Tryd.underlying34 Tryd.underlying5 Tryd.underlying9 (Kd.C_below HR0.out HB.out)))
                      repeat (go_quiet (first | (go_at_call 17; (with_reducible refine (token_Unquote.calls k1 (((⟨#[34]⟩ : ByteArray) ++ x5_1) ++ (⟨#[34]⟩ : ByteArray)) t182 t183 t184 _ ?side1 A63.out).mono ?_); (case side1 => exact Tabs.below HT (by repeat (first | (with_reducible first | exact HB.out | apply below_alloc | apply pw_below_drewN | apply below_drew1) | exact HB.out))); rintro e w111 ⟨rfl, hb⟩; have n0_ := Aside0.mk (below_step (by repeat (first | (with_reducible first | exact HB.out | apply below_alloc | apply pw_below_drewN | apply below_drew1) | exact HB.out)) hb); clear HB; have HB := n0_; clear n0_; (try clear hb); (try clear hb2); (try clear hk); (try clear hi)) | (go_at_call 17; (with_reducible refine (token_Unquote.calls k1 (((⟨#[96]⟩ : ByteArray) ++ x6_1) ++ (⟨#[96]⟩ : ByteArray)) t185 t186 t187 _ ?side1 A66.out).mono ?_); (case side1 => exact Tabs.below HT (by repeat (first | (with_reducible first | exact HB.out | apply below_alloc | apply pw_below_drewN | apply below_drew1) | exact HB.out))); rintro e w112 ⟨rfl, hb⟩; have n0_ := Aside0.mk (below_step (by repeat (first | (with_reducible first | exact HB.out | apply below_alloc | apply pw_below_drewN | apply below_drew1) | exact HB.out)) hb); clear HB; have HB := n0_; clear n0_; (try clear hb); (try clear hb2); (try clear hk); (try clear hi)) | (go_at_call 17; (with_reducible refine (token_Unquote.calls k1 ((⟨#[34]⟩ : ByteArray) ++ x5_1) t188 t189 t190 _ ?side1 A67.out).mono ?_); (case side1 => exact Tabs.below HT (by repeat (first | (with_reducible first | exact HB.out | apply below_alloc | apply pw_below_drewN | apply below_drew1) | exact HB.out))); rintro e w113 ⟨rfl, hb⟩; have n0_ := Aside0.mk (below_step (by repeat (first | (with_reducible first | exact HB.out | apply below_alloc | apply pw_below_drewN | apply below_drew1) | exact HB.out)) hb); clear HB; have HB := n0_; clear n0_; (try clear hb); (try clear hb2); (try clear hk); (try clear hi)) | (go_at_call 17; (with_reducible refine (token_Unquote.calls k1 ((⟨#[96]⟩ : ByteArray) ++ x6_1) t191 t192 t193 _ ?side1 A68.out).mono ?_); (case side1 => exact Tabs.below HT (by repeat (first | (with_reducible first | exact HB.out | apply below_alloc | apply pw_below_drewN | apply below_drew1) | exact HB.out))); rintro e w114 ⟨rfl, hb⟩; have n0_ := Aside0.mk (below_step (by repeat (first | (with_reducible first | exact HB.out | apply below_alloc | apply pw_below_drewN | apply below_drew1) | exact HB.out)) hb); clear HB; have HB := n0_; clear n0_; (try clear hb); (try clear hb2); (try clear hk); (try clear hi); have hcv115 := Kd.C_string (P := Tryd.prog) (A := A0) (c := c0) Tryd.underlying34 Tryd.underlying5 Tryd.underlying9 (Kd.C_below HR0.out HB.out))); try go_wp2_with (first | (go_at_call 17; (with_reducible refine (token_Unquote.calls k1 (((⟨#[34]⟩ : ByteArray) ++ x5_1) ++ (⟨#[34]⟩ : ByteArray)) t182 t183 t184 _ ?side1 A63.out).mono ?_); (case side1 => exact Tabs.below HT (by repeat (first | (with_reducible first | exact HB.out | apply below_alloc | apply pw_below_drewN | apply below_drew1) | exact HB.out))); rintro e w111 ⟨rfl, hb⟩; have n0_ := Aside0.mk (below_step (by repeat (first | (with_reducible first | exact HB.out | apply below_alloc | apply pw_below_drewN | apply below_drew1) | exact HB.out)) hb); clear HB; have HB := n0_; clear n0_; (try clear hb); (try clear hb2); (try clear hk); (try clear hi)) | (go_at_call 17; (with_reducible refine (token_Unquote.calls k1 (((⟨#[96]⟩ : ByteArray) ++ x6_1) ++ (⟨#[96]⟩ : ByteArray)) t185 t186 t187 _ ?side1 A66.out).mono ?_); (case side1 => exact Tabs.below HT (by repeat (first | (with_reducible first | exact HB.out | apply below_alloc | apply pw_below_drewN | apply below_drew1) | exact HB.out))); rintro e w112 ⟨rfl, hb⟩; have n0_ := Aside0.mk (below_step (by repeat (first | (with_reducible first | exact HB.out | apply below_alloc | apply pw_below_drewN | apply below_drew1) | exact HB.out)) hb); clear HB; have HB := n0_; clear n0_; (try clear hb); (try clear hb2); (try clear hk); (try clear hi)) | (go_at_call 17; (with_reducible refine (token_Unquote.calls k1 ((⟨#[34]⟩ : ByteArray) ++ x5_1) t188 t189 t190 _ ?side1 A67.out).mono ?_); (case side1 => exact Tabs.below HT (by repeat (first | (with_reducible first | exact HB.out | apply below_alloc | apply pw_below_drewN | apply below_drew1) | exact HB.out))); rintro e w113 ⟨rfl, hb⟩; have n0_ := Aside0.mk (below_step (by repeat (first | (with_reducible first | exact HB.out | apply below_alloc | apply pw_below_drewN | apply below_drew1) | exact HB.out)) hb); clear HB; have HB := n0_; clear n0_; (try clear hb); (try clear hb2); (try clear hk); (try clear hi)) | (go_at_call 17; (with_reducible refine (token_Unquote.calls k1 ((⟨#[96]⟩ : ByteArray) ++ x6_1) t191 t192 t193 _ ?side1 A68.out).mono ?_); (case side1 => exact Tabs.below HT (by repeat (first | (with_reducible first | exact HB.out | apply below_alloc | apply pw_below_drewN | apply below_drew1) | exact HB.out))); rintro e w114 ⟨rfl, hb⟩; have n0_ := Aside0.mk (below_step (by repeat (first | (with_reducible first | exact HB.out | apply below_alloc | apply pw_below_drewN | apply below_drew1) | exact HB.out)) hb); clear HB; have HB := n0_; clear n0_; (try clear hb); (try clear hb2); (try clear hk); (try clear hi); have hcv115 := Kd.C_string (P := Tryd.prog) (A := A0) (c := c0) Tryd.underlying34 Tryd.underlying5 Tryd.underlying9 (Kd.C_below HR0.out HB.out))))
                      go_ret
                      exact ⟨by first | rfl | (simp [errW_none, errW_some] <;> rfl) | (simp [*, errW_none, errW_some] <;> rfl), by repeat (first | (with_reducible first | exact HB.out | apply below_alloc | apply pw_below_drewN | apply below_drew1) | exact HB.out)⟩
                  · rw [if_neg c65] at H
                    exact absurd H (by simp)
                · rw [if_neg c64] at H
                  exact absurd H (by simp)
              · rw [if_neg c62] at H
                exact absurd H (by simp)
            · rw [if_neg c61] at H
              exact absurd H (by simp)
    · replace c5 := Bool.eq_false_iff.mpr c5
      subst c5
      have H1 : (some false) = some r := by rw [if_neg (show ¬ (false = true) by decide)] at H; exact H
      clear H
      have H := H1
      clear H1
      obtain rfl := Option.some.inj H
      go_enter Tryd.func7, Tryd.ntmps7
      go_wp2_with (first | (go_at_call 10; (with_reducible refine (scholiastlaw02_shown.calls k  false _ ?side1 A4.out).mono ?_); (case side1 => exact Tabs.below HT (by repeat (first | (with_reducible first | exact HB.out | apply below_alloc | apply pw_below_drewN | apply below_drew1) | exact HB.out))); rintro e w116 ⟨rfl, hb⟩; have n0_ := Aside0.mk (below_step (by repeat (first | (with_reducible first | exact HB.out | apply below_alloc | apply pw_below_drewN | apply below_drew1) | exact HB.out)) hb); clear HB; have HB := n0_; clear n0_; (try clear hb); (try clear hb2); (try clear hk); (try clear hi)))
      repeat (go_quiet (first | (go_at_call 10; (with_reducible refine (scholiastlaw02_shown.calls k  false _ ?side1 A4.out).mono ?_); (case side1 => exact Tabs.below HT (by repeat (first | (with_reducible first | exact HB.out | apply below_alloc | apply pw_below_drewN | apply below_drew1) | exact HB.out))); rintro e w116 ⟨rfl, hb⟩; have n0_ := Aside0.mk (below_step (by repeat (first | (with_reducible first | exact HB.out | apply below_alloc | apply pw_below_drewN | apply below_drew1) | exact HB.out)) hb); clear HB; have HB := n0_; clear n0_; (try clear hb); (try clear hb2); (try clear hk); (try clear hi))); try go_wp2_with (first | (go_at_call 10; (with_reducible refine (scholiastlaw02_shown.calls k  false _ ?side1 A4.out).mono ?_); (case side1 => exact Tabs.below HT (by repeat (first | (with_reducible first | exact HB.out | apply below_alloc | apply pw_below_drewN | apply below_drew1) | exact HB.out))); rintro e w116 ⟨rfl, hb⟩; have n0_ := Aside0.mk (below_step (by repeat (first | (with_reducible first | exact HB.out | apply below_alloc | apply pw_below_drewN | apply below_drew1) | exact HB.out)) hb); clear HB; have HB := n0_; clear n0_; (try clear hb); (try clear hb2); (try clear hk); (try clear hi))))
      go_ret
      exact ⟨by first | rfl | (simp [errW_none, errW_some] <;> rfl) | (simp [*, errW_none, errW_some] <;> rfl), by repeat (first | (with_reducible first | exact HB.out | apply below_alloc | apply pw_below_drewN | apply below_drew1) | exact HB.out)⟩

/-- THE ONE PURE STATEMENT of scholiastlaw02_TokenQuotes: yours. -/
def scholiastlaw02_TokenQuotes.Pure : Prop := ∀ (l0 : List Int) (l1 : List Int), l0.length ≤ maxLen → l0.length * 1 ≤ 140737488351232 → (∀ x ∈ l0, (Lit.int .u8 x).wf = true) → l1.length ≤ maxLen → l1.length * 8 ≤ 140737488351232 → (∀ x ∈ l1, (Lit.int .i64 x).wf = true) → ∃ k, scholiastlaw02_TokenQuotes.f k l0 l1 = some true
theorem scholiastlaw02_TokenQuotes.walk (P : scholiastlaw02_TokenQuotes.Pure) (a0 : Option Addr) (len0 cap0 : Nat) (z0 : List Int) (a1 : Option Addr) (len1 cap1 : Nat) (z1 : List Int) (w : World) (w0 : (a0 = none ∧ len0 = 0 ∧ cap0 = 0 ∧ z0 = []) ∨ ∃ x, a0 = some x ∧ len0 ≤ cap0 ∧ cap0 ≤ maxLen ∧ z0.length = cap0 ∧ (∀ i, i < z0.length → w.cell? (x.add i) = some (.int .u8 (z0.getD i 0))) ∧ ∀ n ∈ z0, (Lit.int .u8 n).wf = true) (y0 : len0 * 1 ≤ 140737488351232) (w1 : (a1 = none ∧ len1 = 0 ∧ cap1 = 0 ∧ z1 = []) ∨ ∃ x, a1 = some x ∧ len1 ≤ cap1 ∧ cap1 ≤ maxLen ∧ z1.length = cap1 ∧ (∀ i, i < z1.length → w.cell? (x.add i) = some (.int .i64 (z1.getD i 0))) ∧ ∀ n ∈ z1, (Lit.int .i64 n).wf = true) (y1 : len1 * 8 ≤ 140737488351232)(HT : Tabs w) :
    Calls Tryd.prog 7 #[.slice a0 len0 cap0, .slice a1 len1 cap1] w fun e w' => e = .returned (.bool true) ∧ Below w.heap.size w w' := by
  obtain ⟨l0, rfl, hr0, hm0, hw0, hc0⟩ := ReadsInt.ofRowC w0
  obtain ⟨l1, rfl, hr1, hm1, hw1, hc1⟩ := ReadsInt.ofRowC w1
  obtain ⟨k, h⟩ := P l0 l1 hm0 y0 hw0 hm1 y1 hw1
  refine (scholiastlaw02_TokenQuotes.calls k _ _ l0 _ _ l1 true w (Kd.C_of_reads (d := (0 : Int)) (h1 := fun _ => rfl) hr0) hc0 (Kd.C_of_reads (d := (0 : Int)) (h1 := fun _ => rfl) hr1) hc1 HT h).mono ?_
  rintro e w' ⟨rfl, hd⟩
  exact ⟨rfl, hd⟩

end Go.Proofs.YtkpceagbjodbbaaDoor.PB
