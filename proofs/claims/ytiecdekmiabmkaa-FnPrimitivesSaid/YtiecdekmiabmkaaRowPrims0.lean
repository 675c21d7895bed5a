/-
  Bytes read.
-/
import Derived.Test.YtiecdekmiabmkaaLawPrims
import Derived.Test.YtiecdekmiabmkaaDecPairs
set_option linter.unusedVariables false
set_option linter.unusedSimpArgs false
namespace Go.Proofs.Ytiecdekmiabmkaa
open Go.Abs Go.ChangeShapes Go.WideShapes Go.ChangeAt Go.RowKit

theorem dec_byte (N : Nat) : Dec Try.prog N 5 (fun _ : UInt8 => True) byteEnc := fun H enc C w sp held fuel cs d hG hf ht => by
  obtain ⟨n, hn, hr⟩ := dec_int (N := N) (k := .u8) Try.underlying5 H enc C w sp held fuel cs d hG hf ht
  refine ⟨UInt8.ofNat n.toNat, trivial, ?_⟩
  have h1 : IntKind.u8.min = 0 := rfl
  have h2 : IntKind.u8.max = 255 := rfl
  rw [h1, h2] at hn
  have : (((UInt8.ofNat n.toNat).toNat : Nat) : Int) = n := by
    rw [UInt8.toNat_ofNat']
    omega
  unfold byteEnc
  rw [this]
  exact hr

theorem dec_bytes : DecA Try.prog 22 bytesWf (fun bs => .psl 0 1 (bs.map byteEnc)) :=
  decA_cell (fun N => dec_slice Try.underlying22 (by kernel_rfl) (by decide) (dec_byte _)) (fun fs h => by rw [Try.underlying22] at h; cases h) (fun n e h => by rw [Try.underlying22] at h; cases h)

end Go.Proofs.Ytiecdekmiabmkaa
