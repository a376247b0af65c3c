/- Every printed function, at what is known of the world. -/
import Derived.Test.YtpffibjemegioaaGreatDoorQPa
import Derived.Test.YtpffibjemegioaaGreatDoorQPb
import Derived.Test.YtpffibjemegioaaGreatDoorQPc
import Derived.Test.YtpffibjemegioaaGreatDoorQKnown
import Derived.Shelf.Strings.SlTrimAscii
set_option linter.unusedVariables false
namespace Go.Proofs.YtpffibjemegioaaGreatDoor
open Go Go.RowKit Go.PB
theorem f143_y : (Tryz.f143.body.isSome = true) := by kernel_rfl
theorem f143_z : (Tryz.f143.name == "runtime.NumGoroutine") = false := by kernel_rfl
theorem f143_all {G : Gv} (hK : ∀ w, G w → Kz w) (hL : Lasting G) (k : Nat) : EntOk Tryz.prog G (f143_e k) := EntOk.weaken (G := gvOf fun w => w.ShapedOpen Tryz.prog) (fun w h => ⟨(hK w h).shape, Nat.zero_le _⟩) (split_ok ⟨_, Tryz.func143, f143_y, f143_z⟩ Tryz.strings_Split_shaped)
theorem f181_y : (Tryz.f181.body.isSome = true) := by kernel_rfl
theorem f181_z : (Tryz.f181.name == "runtime.NumGoroutine") = false := by kernel_rfl
theorem f181_all {G : Gv} (hK : ∀ w, G w → Kz w) (hL : Lasting G) (k : Nat) : EntOk Tryz.prog G (f181_e k) := EntOk.weaken (G := gvOf fun w => w.ShapedOpen Tryz.prog) (fun w h => ⟨(hK w h).shape, Nat.zero_le _⟩) (cut_ok ⟨_, Tryz.func181, f181_y, f181_z⟩ Tryz.strings_Cut_shaped)
theorem f199_y : (Tryz.f199.body.isSome = true) := by kernel_rfl
theorem f199_z : (Tryz.f199.name == "runtime.NumGoroutine") = false := by kernel_rfl
theorem f199_all {G : Gv} (hK : ∀ w, G w → Kz w) (hL : Lasting G) (k : Nat) : EntOk Tryz.prog G (f199_e k) := join_ok ⟨_, Tryz.func199, f199_y, f199_z⟩ Tryz.strings_Join_none Tryz.strings_Join
theorem f197_y : (Tryz.f197.body.isSome = true) := by kernel_rfl
theorem f197_z : (Tryz.f197.name == "runtime.NumGoroutine") = false := by kernel_rfl
theorem f197_all {G : Gv} (hK : ∀ w, G w → Kz w) (hL : Lasting G) (k : Nat) : EntOk Tryz.prog G (f197_e k) := EntOk.weaken (G := gvOf fun w => w.ShapedOpen Tryz.prog) (fun w h => ⟨(hK w h).shape, Nat.zero_le _⟩) (trim_ok ⟨_, Tryz.func197, f197_y, f197_z⟩ (Any.strings_Trim_laid Tryz.lays160 (by kernel_rfl)))
theorem f90_y : (Tryz.f90.body.isSome = true) := by kernel_rfl
theorem f90_z : (Tryz.f90.name == "runtime.NumGoroutine") = false := by kernel_rfl
theorem f90_all {G : Gv} (hK : ∀ w, G w → Kz w) (hL : Lasting G) (k : Nat) : EntOk Tryz.prog G (f90_e k) := compare_ok ⟨_, Tryz.func90, f90_y, f90_z⟩ Tryz.strings_Compare
theorem f183_allk {G : Gv} (hK : ∀ w, G w → Kz w) (hL : Lasting G) (k : Nat) : EntOk Tryz.prog G (f183_e k) := EntOk.weaken (G := gvOf Kz) (fun w h => ⟨hK w h, Nat.zero_le _⟩) f183_all
theorem f182_allk {G : Gv} (hK : ∀ w, G w → Kz w) (hL : Lasting G) (k : Nat) : EntOk Tryz.prog G (f182_e k) := EntOk.weaken (G := gvOf Kz) (fun w h => ⟨hK w h, Nat.zero_le _⟩) f182_all
theorem f185_allk {G : Gv} (hK : ∀ w, G w → Kz w) (hL : Lasting G) (k : Nat) : EntOk Tryz.prog G (f185_e k) := EntOk.weaken (G := gvOf Kz) (fun w h => ⟨hK w h, Nat.zero_le _⟩) f185_all
theorem f246_allk {G : Gv} (hK : ∀ w, G w → Kz w) (hL : Lasting G) (k : Nat) : EntOk Tryz.prog G (f246_e k) := EntOk.weaken (G := gvOf Kz) (fun w h => ⟨hK w h, Nat.zero_le _⟩) f246_byte
theorem f64_all {G : Gv} (hK : ∀ w, G w → Kz w) (hL : Lasting G) (k : Nat) : EntOk Tryz.prog G (f64_e k) := f64_clone
theorem f65_all {G : Gv} (hK : ∀ w, G w → Kz w) (hL : Lasting G) (k : Nat) : EntOk Tryz.prog G (f65_e k) := f65_clone
theorem f66_all {G : Gv} (hK : ∀ w, G w → Kz w) (hL : Lasting G) (k : Nat) : EntOk Tryz.prog G (f66_e k) := f66_clone
theorem f39_all {G : Gv} (hK : ∀ w, G w → Kz w) (hL : Lasting G) (k : Nat) : EntOk Tryz.prog G (f39_e k) := f39_ok k hTab hL
theorem f58_all {G : Gv} (hK : ∀ w, G w → Kz w) (hL : Lasting G) (k : Nat) : EntOk Tryz.prog G (f58_e k) := f58_ok k hTab hL
theorem f59_all {G : Gv} (hK : ∀ w, G w → Kz w) (hL : Lasting G) (k : Nat) : EntOk Tryz.prog G (f59_e k) := f59_ok k hTab hL
theorem f60_all {G : Gv} (hK : ∀ w, G w → Kz w) (hL : Lasting G) (k : Nat) : EntOk Tryz.prog G (f60_e k) := f60_ok k hTab hL
theorem f61_all {G : Gv} (hK : ∀ w, G w → Kz w) (hL : Lasting G) (k : Nat) : EntOk Tryz.prog G (f61_e k) := f61_ok k hTab hL
theorem f15_all {G : Gv} (hK : ∀ w, G w → Kz w) (hL : Lasting G) (k : Nat) : EntOk Tryz.prog G (f15_e k) := f15_ok k hTab hL (f58_all hK hL k) (f59_all hK hL k) (f60_all hK hL k) (f61_all hK hL k)
theorem f40_all {G : Gv} (hK : ∀ w, G w → Kz w) (hL : Lasting G) (k : Nat) : EntOk Tryz.prog G (f40_e k) := f40_ok k hTab hL
theorem f93_all {G : Gv} (hK : ∀ w, G w → Kz w) (hL : Lasting G) (k : Nat) : EntOk Tryz.prog G (f93_e k) := f93_ok k hTab hL
theorem f134_all {G : Gv} (hK : ∀ w, G w → Kz w) (hL : Lasting G) (k : Nat) : EntOk Tryz.prog G (f134_e k) := f134_ok k hTab hL (f93_all hK hL k)
theorem f92_all {G : Gv} (hK : ∀ w, G w → Kz w) (hL : Lasting G) (k : Nat) : EntOk Tryz.prog G (f92_e k) := f92_ok k hTab hL (f134_all hK hL k)
theorem f41_all {G : Gv} (hK : ∀ w, G w → Kz w) (hL : Lasting G) (k : Nat) : EntOk Tryz.prog G (f41_e k) := f41_ok k hTab hL (f92_all hK hL k)
theorem f95_all {G : Gv} (hK : ∀ w, G w → Kz w) (hL : Lasting G) (k : Nat) : EntOk Tryz.prog G (f95_e k) := f95_ok k hTab hL
theorem f135_all {G : Gv} (hK : ∀ w, G w → Kz w) (hL : Lasting G) (k : Nat) : EntOk Tryz.prog G (f135_e k) := f135_ok k hTab hL (f95_all hK hL k)
theorem f94_all {G : Gv} (hK : ∀ w, G w → Kz w) (hL : Lasting G) (k : Nat) : EntOk Tryz.prog G (f94_e k) := f94_ok k hTab hL (f135_all hK hL k)
theorem f42_all {G : Gv} (hK : ∀ w, G w → Kz w) (hL : Lasting G) (k : Nat) : EntOk Tryz.prog G (f42_e k) := f42_ok k hTab hL (f94_all hK hL k)
theorem f11_all {G : Gv} (hK : ∀ w, G w → Kz w) (hL : Lasting G) (k : Nat) : EntOk Tryz.prog G (f11_e k) := f11_ok k hTab hL (f39_all hK hL k) (f15_all hK hL k) (f40_all hK hL k) (f41_all hK hL k) (f42_all hK hL k)
theorem f97_all {G : Gv} (hK : ∀ w, G w → Kz w) (hL : Lasting G) (k : Nat) : EntOk Tryz.prog G (f97_e k) := f97_ok k hTab hL
theorem f136_all {G : Gv} (hK : ∀ w, G w → Kz w) (hL : Lasting G) (k : Nat) : EntOk Tryz.prog G (f136_e k) := f136_ok k hTab hL
theorem f96_all {G : Gv} (hK : ∀ w, G w → Kz w) (hL : Lasting G) (k : Nat) : EntOk Tryz.prog G (f96_e k) := f96_ok k hTab hL (f97_all hK hL k) (f136_all hK hL k)
theorem f46_all {G : Gv} (hK : ∀ w, G w → Kz w) (hL : Lasting G) (k : Nat) : EntOk Tryz.prog G (f46_e k) := f46_ok k hTab hL (f96_all hK hL k)
theorem f137_all {G : Gv} (hK : ∀ w, G w → Kz w) (hL : Lasting G) (k : Nat) : EntOk Tryz.prog G (f137_e k) := f137_ok k hTab hL (f97_all hK hL k)
theorem f96a_all {G : Gv} (hK : ∀ w, G w → Kz w) (hL : Lasting G) (k : Nat) : EntOk Tryz.prog G (f96a_e k) := f96a_ok k hTab hL (f137_all hK hL k) (f136_all hK hL k)
theorem f98_all {G : Gv} (hK : ∀ w, G w → Kz w) (hL : Lasting G) (k : Nat) : EntOk Tryz.prog G (f98_e k) := f98_ok k hTab hL (f96a_all hK hL k)
theorem f99_all {G : Gv} (hK : ∀ w, G w → Kz w) (hL : Lasting G) (k : Nat) : EntOk Tryz.prog G (f99_e k) := f99_ok k hTab hL (f96a_all hK hL k)
theorem f47_all {G : Gv} (hK : ∀ w, G w → Kz w) (hL : Lasting G) (k : Nat) : EntOk Tryz.prog G (f47_e k) := f47_ok k hTab hL (f98_all hK hL k) (f99_all hK hL k)
theorem f48_all {G : Gv} (hK : ∀ w, G w → Kz w) (hL : Lasting G) (k : Nat) : EntOk Tryz.prog G (f48_e k) := f48_ok k hTab hL (f46_all hK hL k)
theorem f186_all {G : Gv} (hK : ∀ w, G w → Kz w) (hL : Lasting G) (k : Nat) : EntOk Tryz.prog G (f186_e k) := f186_ok k hTab hL (f143_all hK hL k) (f246_allk hK hL k) (f183_allk hK hL k)
theorem f247_all {G : Gv} (hK : ∀ w, G w → Kz w) (hL : Lasting G) (k : Nat) : EntOk Tryz.prog G (f247_e k) := f247_ok k hTab hL
theorem f187_all {G : Gv} (hK : ∀ w, G w → Kz w) (hL : Lasting G) (k : Nat) : EntOk Tryz.prog G (f187_e k) := f187_ok k hTab hL (f247_all hK hL k)
theorem f248_all {G : Gv} (hK : ∀ w, G w → Kz w) (hL : Lasting G) (k : Nat) : EntOk Tryz.prog G (f248_e k) := f248_ok k hTab hL
theorem f188_all {G : Gv} (hK : ∀ w, G w → Kz w) (hL : Lasting G) (k : Nat) : EntOk Tryz.prog G (f188_e k) := f188_ok k hTab hL (f143_all hK hL k) (f185_allk hK hL k) (f186_all hK hL k) (f248_all hK hL k) (f246_allk hK hL k)
theorem f189_all {G : Gv} (hK : ∀ w, G w → Kz w) (hL : Lasting G) (k : Nat) : EntOk Tryz.prog G (f189_e k) := f189_ok k hTab hL
theorem f141_all {G : Gv} (hK : ∀ w, G w → Kz w) (hL : Lasting G) (k : Nat) : EntOk Tryz.prog G (f141_e k) := f141_ok k hTab hL (f185_allk hK hL k) (f186_all hK hL k) (f187_all hK hL k) (f181_all hK hL k) (f188_all hK hL k) (f189_all hK hL k)
theorem f234_all {G : Gv} (hK : ∀ w, G w → Kz w) (hL : Lasting G) (k : Nat) : EntOk Tryz.prog G (f234_e k) := f234_ok k hTab hL
theorem f252_all {G : Gv} (hK : ∀ w, G w → Kz w) (hL : Lasting G) (k : Nat) : EntOk Tryz.prog G (f252_e k) := f252_ok k hTab hL (f234_all hK hL k)
theorem f242_all {G : Gv} (hK : ∀ w, G w → Kz w) (hL : Lasting G) (k : Nat) : EntOk Tryz.prog G (f242_e k) := f242_ok k hTab hL
theorem f190_all {G : Gv} (hK : ∀ w, G w → Kz w) (hL : Lasting G) (k : Nat) : EntOk Tryz.prog G (f190_e k) := f190_ok k hTab hL (f252_all hK hL k) (f242_all hK hL k)
theorem f311_all {G : Gv} (hK : ∀ w, G w → Kz w) (hL : Lasting G) (k : Nat) : EntOk Tryz.prog G (f311_e k) := f311_ok k hTab hL
theorem f254_all {G : Gv} (hK : ∀ w, G w → Kz w) (hL : Lasting G) (k : Nat) : EntOk Tryz.prog G (f254_e k) := f254_ok k hTab hL
theorem f251_all {G : Gv} (hK : ∀ w, G w → Kz w) (hL : Lasting G) (k : Nat) : EntOk Tryz.prog G (f251_e k) := f251_ok k hTab hL (f254_all hK hL k)
theorem f287_all {G : Gv} (hK : ∀ w, G w → Kz w) (hL : Lasting G) (k : Nat) : EntOk Tryz.prog G (f287_e k) := f287_ok k hTab hL (f311_all hK hL k) (f251_all hK hL k)
theorem f244_all {G : Gv} (hK : ∀ w, G w → Kz w) (hL : Lasting G) (k : Nat) : EntOk Tryz.prog G (f244_e k) := f244_ok k hTab hL (f242_all hK hL k) (f287_all hK hL k)
theorem f243_all {G : Gv} (hK : ∀ w, G w → Kz w) (hL : Lasting G) (k : Nat) : EntOk Tryz.prog G (f243_e k) := f243_ok k hTab hL
theorem f184_all {G : Gv} (hK : ∀ w, G w → Kz w) (hL : Lasting G) (k : Nat) : EntOk Tryz.prog G (f184_e k) := f184_ok k hTab hL (f190_all hK hL k) (f242_all hK hL k) (f244_all hK hL k) (f243_all hK hL k)
theorem f138_all {G : Gv} (hK : ∀ w, G w → Kz w) (hL : Lasting G) (k : Nat) : EntOk Tryz.prog G (f138_e k) := f138_ok k hTab hL (f181_all hK hL k) (f141_all hK hL k) (f182_allk hK hL k) (f183_allk hK hL k) (f184_all hK hL k)
theorem f253_all {G : Gv} (hK : ∀ w, G w → Kz w) (hL : Lasting G) (k : Nat) : EntOk Tryz.prog G (f253_e k) := f253_ok k hTab hL (f190_all hK hL k) (f242_all hK hL k) (f254_all hK hL k)
theorem f191_all {G : Gv} (hK : ∀ w, G w → Kz w) (hL : Lasting G) (k : Nat) : EntOk Tryz.prog G (f191_e k) := f191_ok k hTab hL (f253_all hK hL k) (f183_allk hK hL k) (f199_all hK hL k)
theorem f192_all {G : Gv} (hK : ∀ w, G w → Kz w) (hL : Lasting G) (k : Nat) : EntOk Tryz.prog G (f192_e k) := f192_ok k hTab hL (f254_all hK hL k)
theorem f193_all {G : Gv} (hK : ∀ w, G w → Kz w) (hL : Lasting G) (k : Nat) : EntOk Tryz.prog G (f193_e k) := f193_ok k hTab hL
theorem f307_all {G : Gv} (hK : ∀ w, G w → Kz w) (hL : Lasting G) (k : Nat) : EntOk Tryz.prog G (f307_e k) := f307_ok k hTab hL
theorem f320_all {G : Gv} (hK : ∀ w, G w → Kz w) (hL : Lasting G) (k : Nat) : EntOk Tryz.prog G (f320_e k) := f320_ok k hTab hL
theorem f322_all {G : Gv} (hK : ∀ w, G w → Kz w) (hL : Lasting G) (k : Nat) : EntOk Tryz.prog G (f322_e k) := f322_ok k hTab hL
theorem f327_all {G : Gv} (hK : ∀ w, G w → Kz w) (hL : Lasting G) (k : Nat) : EntOk Tryz.prog G (f327_e k) := f327_ok k hTab hL
theorem f323_all {G : Gv} (hK : ∀ w, G w → Kz w) (hL : Lasting G) (k : Nat) : EntOk Tryz.prog G (f323_e k) := f323_ok k hTab hL (f327_all hK hL k)
theorem f310_all {G : Gv} (hK : ∀ w, G w → Kz w) (hL : Lasting G) (k : Nat) : EntOk Tryz.prog G (f310_e k) := f310_ok k hTab hL (f322_all hK hL k) (f323_all hK hL k)
theorem f289_all {G : Gv} (hK : ∀ w, G w → Kz w) (hL : Lasting G) (k : Nat) : EntOk Tryz.prog G (f289_e k) := f289_ok k hTab hL (f307_all hK hL k) (f310_all hK hL k)
theorem f255_all {G : Gv} (hK : ∀ w, G w → Kz w) (hL : Lasting G) (k : Nat) : EntOk Tryz.prog G (f255_e k) := f255_ok k hTab hL (f289_all hK hL k)
theorem f194_all {G : Gv} (hK : ∀ w, G w → Kz w) (hL : Lasting G) (k : Nat) : EntOk Tryz.prog G (f194_e k) := f194_ok k hTab hL (f255_all hK hL k) (f199_all hK hL k)
theorem f142_all {G : Gv} (hK : ∀ w, G w → Kz w) (hL : Lasting G) (k : Nat) : EntOk Tryz.prog G (f142_e k) := f142_ok k hTab hL (f190_all hK hL k) (f191_all hK hL k) (f192_all hK hL k) (f193_all hK hL k) (f194_all hK hL k)
theorem f139_all {G : Gv} (hK : ∀ w, G w → Kz w) (hL : Lasting G) (k : Nat) : EntOk Tryz.prog G (f139_e k) := f139_ok k hTab hL (f184_all hK hL k) (f142_all hK hL k) (f183_allk hK hL k)
theorem f100_all {G : Gv} (hK : ∀ w, G w → Kz w) (hL : Lasting G) (k : Nat) : EntOk Tryz.prog G (f100_e k) := f100_ok k hTab hL (f138_all hK hL k) (f139_all hK hL k)
theorem f101_all {G : Gv} (hK : ∀ w, G w → Kz w) (hL : Lasting G) (k : Nat) : EntOk Tryz.prog G (f101_e k) := f101_ok k hTab hL
theorem f49_all {G : Gv} (hK : ∀ w, G w → Kz w) (hL : Lasting G) (k : Nat) : EntOk Tryz.prog G (f49_e k) := f49_ok k hTab hL (f100_all hK hL k) (f101_all hK hL k)
theorem f140_all {G : Gv} (hK : ∀ w, G w → Kz w) (hL : Lasting G) (k : Nat) : EntOk Tryz.prog G (f140_e k) := f140_ok k hTab hL
theorem f102_all {G : Gv} (hK : ∀ w, G w → Kz w) (hL : Lasting G) (k : Nat) : EntOk Tryz.prog G (f102_e k) := f102_ok k hTab hL (f140_all hK hL k)
theorem f103_all {G : Gv} (hK : ∀ w, G w → Kz w) (hL : Lasting G) (k : Nat) : EntOk Tryz.prog G (f103_e k) := f103_ok k hTab hL (f141_all hK hL k) (f142_all hK hL k)
theorem f50_all {G : Gv} (hK : ∀ w, G w → Kz w) (hL : Lasting G) (k : Nat) : EntOk Tryz.prog G (f50_e k) := f50_ok k hTab hL (f40_all hK hL k) (f102_all hK hL k) (f103_all hK hL k) (f101_all hK hL k)
theorem f293_all {G : Gv} (hK : ∀ w, G w → Kz w) (hL : Lasting G) (k : Nat) : EntOk Tryz.prog G (f293_e k) := f293_ok k hTab hL
theorem f258_all {G : Gv} (hK : ∀ w, G w → Kz w) (hL : Lasting G) (k : Nat) : EntOk Tryz.prog G (f258_e k) := f258_ok k hTab hL (f293_all hK hL k)
theorem f196_all {G : Gv} (hK : ∀ w, G w → Kz w) (hL : Lasting G) (k : Nat) : EntOk Tryz.prog G (f196_e k) := f196_ok k hTab hL (f258_all hK hL k)
theorem f144_all {G : Gv} (hK : ∀ w, G w → Kz w) (hL : Lasting G) (k : Nat) : EntOk Tryz.prog G (f144_e k) := f144_ok k hTab hL (f196_all hK hL k) (f181_all hK hL k) (f197_all hK hL k) (f143_all hK hL k)
theorem f236_all {G : Gv} (hK : ∀ w, G w → Kz w) (hL : Lasting G) (k : Nat) : EntOk Tryz.prog G (f236_e k) := f236_ok k hTab hL
theorem f237_all {G : Gv} (hK : ∀ w, G w → Kz w) (hL : Lasting G) (k : Nat) : EntOk Tryz.prog G (f237_e k) := f237_ok k hTab hL (f99_all hK hL k)
theorem f179_all {G : Gv} (hK : ∀ w, G w → Kz w) (hL : Lasting G) (k : Nat) : EntOk Tryz.prog G (f179_e k) := f179_ok k hTab hL (f98_all hK hL k) (f236_all hK hL k) (f237_all hK hL k)
theorem f178_all {G : Gv} (hK : ∀ w, G w → Kz w) (hL : Lasting G) (k : Nat) : EntOk Tryz.prog G (f178_e k) := f178_ok k hTab hL (f179_all hK hL k)
theorem f235_all {G : Gv} (hK : ∀ w, G w → Kz w) (hL : Lasting G) (k : Nat) : EntOk Tryz.prog G (f235_e k) := f235_ok k hTab hL (f178_all hK hL k)
theorem f177_all {G : Gv} (hK : ∀ w, G w → Kz w) (hL : Lasting G) (k : Nat) : EntOk Tryz.prog G (f177_e k) := f177_ok k hTab hL (f235_all hK hL k)
theorem f132_all {G : Gv} (hK : ∀ w, G w → Kz w) (hL : Lasting G) (k : Nat) : EntOk Tryz.prog G (f132_e k) := f132_ok k hTab hL (f177_all hK hL k)
theorem f198_all {G : Gv} (hK : ∀ w, G w → Kz w) (hL : Lasting G) (k : Nat) : EntOk Tryz.prog G (f198_e k) := f198_ok k hTab hL (f199_all hK hL k)
theorem f145_all {G : Gv} (hK : ∀ w, G w → Kz w) (hL : Lasting G) (k : Nat) : EntOk Tryz.prog G (f145_e k) := f145_ok k hTab hL (f132_all hK hL k) (f198_all hK hL k) (f199_all hK hL k)
theorem f104_all {G : Gv} (hK : ∀ w, G w → Kz w) (hL : Lasting G) (k : Nat) : EntOk Tryz.prog G (f104_e k) := f104_ok k hTab hL (f143_all hK hL k) (f144_all hK hL k) (f145_all hK hL k)
theorem f200_all {G : Gv} (hK : ∀ w, G w → Kz w) (hL : Lasting G) (k : Nat) : EntOk Tryz.prog G (f200_e k) := f200_ok k hTab hL (f184_all hK hL k) (f242_all hK hL k)
theorem f201_all {G : Gv} (hK : ∀ w, G w → Kz w) (hL : Lasting G) (k : Nat) : EntOk Tryz.prog G (f201_e k) := f201_ok k hTab hL (f247_all hK hL k) (f251_all hK hL k)
theorem f146_all {G : Gv} (hK : ∀ w, G w → Kz w) (hL : Lasting G) (k : Nat) : EntOk Tryz.prog G (f146_e k) := f146_ok k hTab hL (f200_all hK hL k) (f201_all hK hL k)
theorem f147_all {G : Gv} (hK : ∀ w, G w → Kz w) (hL : Lasting G) (k : Nat) : EntOk Tryz.prog G (f147_e k) := f147_ok k hTab hL
theorem f105_all {G : Gv} (hK : ∀ w, G w → Kz w) (hL : Lasting G) (k : Nat) : EntOk Tryz.prog G (f105_e k) := f105_ok k hTab hL (f100_all hK hL k) (f146_all hK hL k) (f147_all hK hL k)
theorem f51_all {G : Gv} (hK : ∀ w, G w → Kz w) (hL : Lasting G) (k : Nat) : EntOk Tryz.prog G (f51_e k) := f51_ok k hTab hL (f104_all hK hL k) (f105_all hK hL k)
theorem f13_all {G : Gv} (hK : ∀ w, G w → Kz w) (hL : Lasting G) (k : Nat) : EntOk Tryz.prog G (f13_e k) := f13_ok k hTab hL (f11_all hK hL k) (f46_all hK hL k) (f47_all hK hL k) (f48_all hK hL k) (f49_all hK hL k) (f50_all hK hL k) (f51_all hK hL k)
theorem f36_all {G : Gv} (hK : ∀ w, G w → Kz w) (hL : Lasting G) (k : Nat) : EntOk Tryz.prog G (f36_e k) := f36_ok k hTab hL
theorem f9_all {G : Gv} (hK : ∀ w, G w → Kz w) (hL : Lasting G) (k : Nat) : EntOk Tryz.prog G (f9_e k) := f9_ok k hTab hL (f13_all hK hL k) (f36_all hK hL k) (f11_all hK hL k)
theorem f37_all {G : Gv} (hK : ∀ w, G w → Kz w) (hL : Lasting G) (k : Nat) : EntOk Tryz.prog G (f37_e k) := f37_ok k hTab hL
theorem f38_all {G : Gv} (hK : ∀ w, G w → Kz w) (hL : Lasting G) (k : Nat) : EntOk Tryz.prog G (f38_e k) := f38_ok k hTab hL
theorem f10_all {G : Gv} (hK : ∀ w, G w → Kz w) (hL : Lasting G) (k : Nat) : EntOk Tryz.prog G (f10_e k) := f10_ok k hTab hL (f37_all hK hL k) (f38_all hK hL k)
theorem f62_all {G : Gv} (hK : ∀ w, G w → Kz w) (hL : Lasting G) (k : Nat) : EntOk Tryz.prog G (f62_e k) := f62_ok k hTab hL
theorem f63_all {G : Gv} (hK : ∀ w, G w → Kz w) (hL : Lasting G) (k : Nat) : EntOk Tryz.prog G (f63_e k) := f63_ok k hTab hL
theorem f16_all {G : Gv} (hK : ∀ w, G w → Kz w) (hL : Lasting G) (k : Nat) : EntOk Tryz.prog G (f16_e k) := f16_ok k hTab hL (f62_all hK hL k) (f63_all hK hL k)
theorem f17_all {G : Gv} (hK : ∀ w, G w → Kz w) (hL : Lasting G) (k : Nat) : EntOk Tryz.prog G (f17_e k) := f17_ok k f17_t hL (f64_all hK hL k) (f65_all hK hL k) (f66_all hK hL k)
theorem f4_all {G : Gv} (hK : ∀ w, G w → Kz w) (hL : Lasting G) (k : Nat) : EntOk Tryz.prog G (f4_e k) := f4_ok k f4_t hL (f9_all hK hL k) (f10_all hK hL k) (f15_all hK hL k) (f16_all hK hL k) (f17_all hK hL k)
end Go.Proofs.YtpffibjemegioaaGreatDoor
