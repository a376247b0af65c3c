/- Every printed function, at what is known of the world. -/
import Derived.Test.YtldlhoapojaljaaGreatDoorQPa
import Derived.Test.YtldlhoapojaljaaGreatDoorQPb
import Derived.Test.YtldlhoapojaljaaGreatDoorQKnown
set_option linter.unusedVariables false
namespace Go.Proofs.YtldlhoapojaljaaGreatDoor
open Go Go.RowKit Go.PB
theorem f49_all {G : Gv} (hK : ∀ w, G w → Kz w) (hL : Lasting G) (k : Nat) : EntOk Tryz.prog G (f49_e k) := f49_clone
theorem f50_all {G : Gv} (hK : ∀ w, G w → Kz w) (hL : Lasting G) (k : Nat) : EntOk Tryz.prog G (f50_e k) := f50_clone
theorem f51_all {G : Gv} (hK : ∀ w, G w → Kz w) (hL : Lasting G) (k : Nat) : EntOk Tryz.prog G (f51_e k) := f51_clone
theorem f17_all {G : Gv} (hK : ∀ w, G w → Kz w) (hL : Lasting G) (k : Nat) : EntOk Tryz.prog G (f17_e k) := f17_ok k f17_t hL
theorem f20_all {G : Gv} (hK : ∀ w, G w → Kz w) (hL : Lasting G) (k : Nat) : EntOk Tryz.prog G (f20_e k) := f20_ok k hTab hL
theorem f45_all {G : Gv} (hK : ∀ w, G w → Kz w) (hL : Lasting G) (k : Nat) : EntOk Tryz.prog G (f45_e k) := f45_ok k hTab hL
theorem f73_all {G : Gv} (hK : ∀ w, G w → Kz w) (hL : Lasting G) (k : Nat) : EntOk Tryz.prog G (f73_e k) := f73_ok k hTab hL
theorem f43_all {G : Gv} (hK : ∀ w, G w → Kz w) (hL : Lasting G) (k : Nat) : EntOk Tryz.prog G (f43_e k) := f43_ok k hTab hL
theorem f74_all {G : Gv} (hK : ∀ w, G w → Kz w) (hL : Lasting G) (k : Nat) : EntOk Tryz.prog G (f74_e k) := f74_ok k hTab hL
theorem f75_all {G : Gv} (hK : ∀ w, G w → Kz w) (hL : Lasting G) (k : Nat) : EntOk Tryz.prog G (f75_e k) := f75_ok k hTab hL
theorem f44_all {G : Gv} (hK : ∀ w, G w → Kz w) (hL : Lasting G) (k : Nat) : EntOk Tryz.prog G (f44_e k) := f44_ok k hTab hL (f73_all hK hL k) (f43_all hK hL k) (f74_all hK hL k) (f75_all hK hL k)
theorem f46_all {G : Gv} (hK : ∀ w, G w → Kz w) (hL : Lasting G) (k : Nat) : EntOk Tryz.prog G (f46_e k) := f46_ok k hTab hL
theorem f77_all {G : Gv} (hK : ∀ w, G w → Kz w) (hL : Lasting G) (k : Nat) : EntOk Tryz.prog G (f77_e k) := f77_ok k hTab hL
theorem f99_all {G : Gv} (hK : ∀ w, G w → Kz w) (hL : Lasting G) (k : Nat) : EntOk Tryz.prog G (f99_e k) := f99_ok k hTab hL (f77_all hK hL k)
theorem f76_all {G : Gv} (hK : ∀ w, G w → Kz w) (hL : Lasting G) (k : Nat) : EntOk Tryz.prog G (f76_e k) := f76_ok k hTab hL (f99_all hK hL k)
theorem f47_all {G : Gv} (hK : ∀ w, G w → Kz w) (hL : Lasting G) (k : Nat) : EntOk Tryz.prog G (f47_e k) := f47_ok k hTab hL (f76_all hK hL k)
theorem f79_all {G : Gv} (hK : ∀ w, G w → Kz w) (hL : Lasting G) (k : Nat) : EntOk Tryz.prog G (f79_e k) := f79_ok k hTab hL
theorem f100_all {G : Gv} (hK : ∀ w, G w → Kz w) (hL : Lasting G) (k : Nat) : EntOk Tryz.prog G (f100_e k) := f100_ok k hTab hL (f79_all hK hL k)
theorem f78_all {G : Gv} (hK : ∀ w, G w → Kz w) (hL : Lasting G) (k : Nat) : EntOk Tryz.prog G (f78_e k) := f78_ok k hTab hL (f100_all hK hL k)
theorem f48_all {G : Gv} (hK : ∀ w, G w → Kz w) (hL : Lasting G) (k : Nat) : EntOk Tryz.prog G (f48_e k) := f48_ok k hTab hL (f78_all hK hL k)
theorem f27_all {G : Gv} (hK : ∀ w, G w → Kz w) (hL : Lasting G) (k : Nat) : EntOk Tryz.prog G (f27_e k) := f27_ok k hTab hL (f45_all hK hL k) (f44_all hK hL k) (f46_all hK hL k) (f47_all hK hL k) (f48_all hK hL k)
theorem f63_all {G : Gv} (hK : ∀ w, G w → Kz w) (hL : Lasting G) (k : Nat) : EntOk Tryz.prog G (f63_e k) := f63_ok k hTab hL
theorem f87_all {G : Gv} (hK : ∀ w, G w → Kz w) (hL : Lasting G) (k : Nat) : EntOk Tryz.prog G (f87_e k) := f87_ok k hTab hL
theorem f62_all {G : Gv} (hK : ∀ w, G w → Kz w) (hL : Lasting G) (k : Nat) : EntOk Tryz.prog G (f62_e k) := f62_ok k hTab hL (f63_all hK hL k) (f87_all hK hL k)
theorem f36_all {G : Gv} (hK : ∀ w, G w → Kz w) (hL : Lasting G) (k : Nat) : EntOk Tryz.prog G (f36_e k) := f36_ok k hTab hL (f62_all hK hL k)
theorem f88_all {G : Gv} (hK : ∀ w, G w → Kz w) (hL : Lasting G) (k : Nat) : EntOk Tryz.prog G (f88_e k) := f88_ok k hTab hL (f63_all hK hL k)
theorem f62a_all {G : Gv} (hK : ∀ w, G w → Kz w) (hL : Lasting G) (k : Nat) : EntOk Tryz.prog G (f62a_e k) := f62a_ok k hTab hL (f88_all hK hL k) (f87_all hK hL k)
theorem f64_all {G : Gv} (hK : ∀ w, G w → Kz w) (hL : Lasting G) (k : Nat) : EntOk Tryz.prog G (f64_e k) := f64_ok k hTab hL (f62a_all hK hL k)
theorem f65_all {G : Gv} (hK : ∀ w, G w → Kz w) (hL : Lasting G) (k : Nat) : EntOk Tryz.prog G (f65_e k) := f65_ok k hTab hL (f62a_all hK hL k)
theorem f37_all {G : Gv} (hK : ∀ w, G w → Kz w) (hL : Lasting G) (k : Nat) : EntOk Tryz.prog G (f37_e k) := f37_ok k hTab hL (f64_all hK hL k) (f65_all hK hL k)
theorem f38_all {G : Gv} (hK : ∀ w, G w → Kz w) (hL : Lasting G) (k : Nat) : EntOk Tryz.prog G (f38_e k) := f38_ok k hTab hL (f36_all hK hL k)
theorem f39_all {G : Gv} (hK : ∀ w, G w → Kz w) (hL : Lasting G) (k : Nat) : EntOk Tryz.prog G (f39_e k) := f39_ok k hTab hL
theorem f21_all {G : Gv} (hK : ∀ w, G w → Kz w) (hL : Lasting G) (k : Nat) : EntOk Tryz.prog G (f21_e k) := f21_ok k hTab hL (f27_all hK hL k) (f36_all hK hL k) (f37_all hK hL k) (f38_all hK hL k) (f39_all hK hL k)
theorem f28_all {G : Gv} (hK : ∀ w, G w → Kz w) (hL : Lasting G) (k : Nat) : EntOk Tryz.prog G (f28_e k) := f28_ok k hTab hL (f49_all hK hL k) (f50_all hK hL k) (f51_all hK hL k)
theorem f22_all {G : Gv} (hK : ∀ w, G w → Kz w) (hL : Lasting G) (k : Nat) : EntOk Tryz.prog G (f22_e k) := f22_ok k f22_t hL (f28_all hK hL k)
theorem f6_all {G : Gv} (hK : ∀ w, G w → Kz w) (hL : Lasting G) (k : Nat) : EntOk Tryz.prog G (f6_e k) := f6_ok k f6_t hL (f20_all hK hL k) (f21_all hK hL k) (f22_all hK hL k)
theorem f30_all {G : Gv} (hK : ∀ w, G w → Kz w) (hL : Lasting G) (k : Nat) : EntOk Tryz.prog G (f30_e k) := f30_ok k f30_t hL (f20_all hK hL k) (f27_all hK hL k)
theorem f29_all {G : Gv} (hK : ∀ w, G w → Kz w) (hL : Lasting G) (k : Nat) : EntOk Tryz.prog G (f29_e k) := f29_ok k hTab hL (f28_all hK hL k)
theorem f12_all {G : Gv} (hK : ∀ w, G w → Kz w) (hL : Lasting G) (k : Nat) : EntOk Tryz.prog G (f12_e k) := f12_ok k f12_t hL (f30_all hK hL k) (f29_all hK hL k) (f20_all hK hL k)
theorem f23_all {G : Gv} (hK : ∀ w, G w → Kz w) (hL : Lasting G) (k : Nat) : EntOk Tryz.prog G (f23_e k) := f23_ok k hTab hL
theorem f72_all {G : Gv} (hK : ∀ w, G w → Kz w) (hL : Lasting G) (k : Nat) : EntOk Tryz.prog G (f72_e k) := f72_ok k hTab hL
theorem f42_all {G : Gv} (hK : ∀ w, G w → Kz w) (hL : Lasting G) (k : Nat) : EntOk Tryz.prog G (f42_e k) := f42_ok k hTab hL (f72_all hK hL k)
theorem f24_all {G : Gv} (hK : ∀ w, G w → Kz w) (hL : Lasting G) (k : Nat) : EntOk Tryz.prog G (f24_e k) := f24_ok k hTab hL (f42_all hK hL k) (f43_all hK hL k)
theorem f25_all {G : Gv} (hK : ∀ w, G w → Kz w) (hL : Lasting G) (k : Nat) : EntOk Tryz.prog G (f25_e k) := f25_ok k hTab hL (f44_all hK hL k)
theorem f26_all {G : Gv} (hK : ∀ w, G w → Kz w) (hL : Lasting G) (k : Nat) : EntOk Tryz.prog G (f26_e k) := f26_ok k hTab hL (f28_all hK hL k)
theorem f7_all {G : Gv} (hK : ∀ w, G w → Kz w) (hL : Lasting G) (k : Nat) : EntOk Tryz.prog G (f7_e k) := f7_ok k f7_t hL (f20_all hK hL k) (f23_all hK hL k) (f21_all hK hL k) (f24_all hK hL k) (f25_all hK hL k) (f26_all hK hL k) (f22_all hK hL k)
theorem f14_all {G : Gv} (hK : ∀ w, G w → Kz w) (hL : Lasting G) (k : Nat) : EntOk Tryz.prog G (f14_e k) := f14_ok k f14_t hL
theorem f4_all {G : Gv} (hK : ∀ w, G w → Kz w) (hL : Lasting G) (k : Nat) : EntOk Tryz.prog G (f4_e k) := f4_ok k f4_t hL (f17_all hK hL k) (f6_all hK hL k) (f12_all hK hL k) (f7_all hK hL k) (f14_all hK hL k)
theorem f18_all {G : Gv} (hK : ∀ w, G w → Kz w) (hL : Lasting G) (k : Nat) : EntOk Tryz.prog G (f18_e k) := f18_ok k hTab hL
theorem f19_all {G : Gv} (hK : ∀ w, G w → Kz w) (hL : Lasting G) (k : Nat) : EntOk Tryz.prog G (f19_e k) := f19_ok k hTab hL
theorem f5_all {G : Gv} (hK : ∀ w, G w → Kz w) (hL : Lasting G) (k : Nat) : EntOk Tryz.prog G (f5_e k) := f5_ok k hTab hL (f18_all hK hL k) (f19_all hK hL k)
theorem f6a_all {G : Gv} (hK : ∀ w, G w → Kz w) (hL : Lasting G) (k : Nat) : EntOk Tryz.prog G (f6a_e k) := f6a_ok k f6a_t hL
theorem f7a_all {G : Gv} (hK : ∀ w, G w → Kz w) (hL : Lasting G) (k : Nat) : EntOk Tryz.prog G (f7a_e k) := f7a_ok k f7a_t hL
theorem f8_all {G : Gv} (hK : ∀ w, G w → Kz w) (hL : Lasting G) (k : Nat) : EntOk Tryz.prog G (f8_e k) := f8_ok k f8_t hL
theorem f9_all {G : Gv} (hK : ∀ w, G w → Kz w) (hL : Lasting G) (k : Nat) : EntOk Tryz.prog G (f9_e k) := f9_ok k f9_t hL
theorem f10_all {G : Gv} (hK : ∀ w, G w → Kz w) (hL : Lasting G) (k : Nat) : EntOk Tryz.prog G (f10_e k) := f10_ok k f10_t hL
theorem f11_all {G : Gv} (hK : ∀ w, G w → Kz w) (hL : Lasting G) (k : Nat) : EntOk Tryz.prog G (f11_e k) := f11_ok k f11_t hL
theorem f12a_all {G : Gv} (hK : ∀ w, G w → Kz w) (hL : Lasting G) (k : Nat) : EntOk Tryz.prog G (f12a_e k) := f12a_ok k f12a_t hL
theorem f13_all {G : Gv} (hK : ∀ w, G w → Kz w) (hL : Lasting G) (k : Nat) : EntOk Tryz.prog G (f13_e k) := f13_ok k f13_t hL
theorem f14a_all {G : Gv} (hK : ∀ w, G w → Kz w) (hL : Lasting G) (k : Nat) : EntOk Tryz.prog G (f14a_e k) := f14a_ok k f14a_t hL
theorem f15_all {G : Gv} (hK : ∀ w, G w → Kz w) (hL : Lasting G) (k : Nat) : EntOk Tryz.prog G (f15_e k) := f15_ok k f15_t hL
theorem f16_all {G : Gv} (hK : ∀ w, G w → Kz w) (hL : Lasting G) (k : Nat) : EntOk Tryz.prog G (f16_e k) := f16_ok k f16_t hL
theorem f3_all {G : Gv} (hK : ∀ w, G w → Kz w) (hL : Lasting G) (k : Nat) : EntOk Tryz.prog G (f3_e k) := f3_ok k f3_t hL (f4_all hK hL k) (f5_all hK hL k) (f6a_all hK hL k) (f7a_all hK hL k) (f8_all hK hL k) (f9_all hK hL k) (f10_all hK hL k) (f11_all hK hL k) (f12a_all hK hL k) (f13_all hK hL k) (f14a_all hK hL k) (f15_all hK hL k) (f16_all hK hL k)
end Go.Proofs.YtldlhoapojaljaaGreatDoor
