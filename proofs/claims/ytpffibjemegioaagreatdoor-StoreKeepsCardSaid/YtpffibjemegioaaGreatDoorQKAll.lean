/- Every printed function, at what is known of the world. -/
import Derived.Test.YtpffibjemegioaaGreatDoorQKPa
import Derived.Test.YtpffibjemegioaaGreatDoorQKPb
import Derived.Test.YtpffibjemegioaaGreatDoorQKKnown
set_option linter.unusedVariables false
namespace Go.Proofs.YtpffibjemegioaaGreatDoor
open Go Go.RowKit Go.PB
abbrev Al (e : Nat → Ent) : Prop := ∀ {G : Gv}, (∀ w, G w → Kz w) → Lasting G → ∀ k, EntOk Tryz.prog G (e k)
theorem f312_all : Al f312_e := fun hK hL k => f312_ok k hL
theorem f288_all : Al f288_e := fun hK hL k => f288_ok k hL (f312_all hK hL k)
theorem f246p_all : Al f246p_e := fun hK hL k => f246p_ok k hL (f288_all hK hL k)
theorem f246_all : Al f246_e := fun hK hL k => f246_mix hK k (f246p_all hK hL k)
theorem f19_all : Al f19_e := fun hK hL k => f19_ok k hL
theorem f79_all : Al f79_e := fun hK hL k => f79_ok k hL
theorem f39_all : Al f39_e := fun hK hL k => f39_ok k hL
theorem f58_all : Al f58_e := fun hK hL k => f58_ok k hL
theorem f59_all : Al f59_e := fun hK hL k => f59_ok k hL
theorem f60_all : Al f60_e := fun hK hL k => f60_ok k hL
theorem f61_all : Al f61_e := fun hK hL k => f61_ok k hL
theorem f15_all : Al f15_e := fun hK hL k => f15_ok k hL (f58_all hK hL k) (f59_all hK hL k) (f60_all hK hL k) (f61_all hK hL k)
theorem f40_all : Al f40_e := fun hK hL k => f40_ok k hL
theorem f93_all : Al f93_e := fun hK hL k => f93_ok k hL
theorem f134_all : Al f134_e := fun hK hL k => f134_ok k hL (f93_all hK hL k)
theorem f92_all : Al f92_e := fun hK hL k => f92_ok k hL (f134_all hK hL k)
theorem f41_all : Al f41_e := fun hK hL k => f41_ok k hL (f92_all hK hL k)
theorem f95_all : Al f95_e := fun hK hL k => f95_ok k hL
theorem f135_all : Al f135_e := fun hK hL k => f135_ok k hL (f95_all hK hL k)
theorem f94_all : Al f94_e := fun hK hL k => f94_ok k hL (f135_all hK hL k)
theorem f42_all : Al f42_e := fun hK hL k => f42_ok k hL (f94_all hK hL k)
theorem f11_all : Al f11_e := fun hK hL k => f11_ok k hL (f39_all hK hL k) (f15_all hK hL k) (f40_all hK hL k) (f41_all hK hL k) (f42_all hK hL k)
theorem f97_all : Al f97_e := fun hK hL k => f97_ok k hL
theorem f136_all : Al f136_e := fun hK hL k => f136_ok k hL
theorem f96_all : Al f96_e := fun hK hL k => f96_ok k hL (f97_all hK hL k) (f136_all hK hL k)
theorem f46_all : Al f46_e := fun hK hL k => f46_ok k hL (f96_all hK hL k)
theorem f137_all : Al f137_e := fun hK hL k => f137_ok k hL (f97_all hK hL k)
theorem f96a_all : Al f96a_e := fun hK hL k => f96a_ok k hL (f137_all hK hL k) (f136_all hK hL k)
theorem f98_all : Al f98_e := fun hK hL k => f98_ok k hL (f96a_all hK hL k)
theorem f99_all : Al f99_e := fun hK hL k => f99_ok k hL (f96a_all hK hL k)
theorem f47_all : Al f47_e := fun hK hL k => f47_ok k hL (f98_all hK hL k) (f99_all hK hL k)
theorem f48_all : Al f48_e := fun hK hL k => f48_ok k hL (f46_all hK hL k)
theorem f186_all : Al f186_e := fun hK hL k => f186_ok k hL (f143_all hK hL k) (f246_all hK hL k) (f183_all hK hL k)
theorem f247_all : Al f247_e := fun hK hL k => f247_ok k hL
theorem f187_all : Al f187_e := fun hK hL k => f187_ok k hL (f247_all hK hL k)
theorem f248_all : Al f248_e := fun hK hL k => f248_ok k hL
theorem f188_all : Al f188_e := fun hK hL k => f188_ok k hL (f143_all hK hL k) (f185_all hK hL k) (f186_all hK hL k) (f248_all hK hL k) (f246_all hK hL k)
theorem f254_all : Al f254_e := fun hK hL k => f254_ok k hL
theorem f251_all : Al f251_e := fun hK hL k => f251_ok k hL (f254_all hK hL k)
theorem f250_all : Al f250_e := fun hK hL k => f250_ok k hL
theorem f249_all : Al f249_e := fun hK hL k => f249_ok k hL (f251_all hK hL k) (f247_all hK hL k) (f250_all hK hL k)
theorem f189_all : Al f189_e := fun hK hL k => f189_ok k hL (f249_all hK hL k)
theorem f141_all : Al f141_e := fun hK hL k => f141_ok k hL (f185_all hK hL k) (f186_all hK hL k) (f187_all hK hL k) (f181_all hK hL k) (f188_all hK hL k) (f189_all hK hL k)
theorem f252_all : Al f252_e := fun hK hL k => f252_ok k hL (f234_all hK hL k)
theorem f242_all : Al f242_e := fun hK hL k => f242_ok k hL
theorem f190_all : Al f190_e := fun hK hL k => f190_ok k hL (f252_all hK hL k) (f242_all hK hL k)
theorem f311_all : Al f311_e := fun hK hL k => f311_ok k hL
theorem f287_all : Al f287_e := fun hK hL k => f287_ok k hL (f311_all hK hL k) (f251_all hK hL k)
theorem f244_all : Al f244_e := fun hK hL k => f244_ok k hL (f242_all hK hL k) (f287_all hK hL k)
theorem f243_all : Al f243_e := fun hK hL k => f243_ok k hL
theorem f184_all : Al f184_e := fun hK hL k => f184_ok k hL (f190_all hK hL k) (f242_all hK hL k) (f244_all hK hL k) (f243_all hK hL k)
theorem f138_all : Al f138_e := fun hK hL k => f138_ok k hL (f181_all hK hL k) (f141_all hK hL k) (f182_all hK hL k) (f183_all hK hL k) (f184_all hK hL k)
theorem f253_all : Al f253_e := fun hK hL k => f253_ok k hL (f190_all hK hL k) (f242_all hK hL k) (f254_all hK hL k)
theorem f191_all : Al f191_e := fun hK hL k => f191_ok k hL (f253_all hK hL k) (f183_all hK hL k) (f199_all hK hL k)
theorem f192_all : Al f192_e := fun hK hL k => f192_ok k hL (f254_all hK hL k)
theorem f193_all : Al f193_e := fun hK hL k => f193_ok k hL
theorem f307_all : Al f307_e := fun hK hL k => f307_ok k hL
theorem f320_all : Al f320_e := fun hK hL k => f320_ok k hL
theorem f322_all : Al f322_e := fun hK hL k => f322_ok k hL
theorem f323_all : Al f323_e := fun hK hL k => f323_ok k hL (f327_all hK hL k)
theorem f310_all : Al f310_e := fun hK hL k => f310_ok k hL (f322_all hK hL k) (f323_all hK hL k)
theorem f289_all : Al f289_e := fun hK hL k => f289_ok k hL (f307_all hK hL k) (f310_all hK hL k)
theorem f255_all : Al f255_e := fun hK hL k => f255_ok k hL (f289_all hK hL k)
theorem f194_all : Al f194_e := fun hK hL k => f194_ok k hL (f255_all hK hL k) (f199_all hK hL k)
theorem f142_all : Al f142_e := fun hK hL k => f142_ok k hL (f190_all hK hL k) (f191_all hK hL k) (f192_all hK hL k) (f193_all hK hL k) (f194_all hK hL k)
theorem f139_all : Al f139_e := fun hK hL k => f139_ok k hL (f184_all hK hL k) (f142_all hK hL k) (f183_all hK hL k)
theorem f100_all : Al f100_e := fun hK hL k => f100_ok k hL (f138_all hK hL k) (f139_all hK hL k)
theorem f101_all : Al f101_e := fun hK hL k => f101_ok k hL
theorem f49_all : Al f49_e := fun hK hL k => f49_ok k hL (f100_all hK hL k) (f101_all hK hL k)
theorem f140_all : Al f140_e := fun hK hL k => f140_ok k hL
theorem f102_all : Al f102_e := fun hK hL k => f102_ok k hL (f140_all hK hL k)
theorem f103_all : Al f103_e := fun hK hL k => f103_ok k hL (f141_all hK hL k) (f142_all hK hL k)
theorem f50_all : Al f50_e := fun hK hL k => f50_ok k hL (f40_all hK hL k) (f102_all hK hL k) (f103_all hK hL k) (f101_all hK hL k)
theorem f293_all : Al f293_e := fun hK hL k => f293_ok k hL
theorem f258_all : Al f258_e := fun hK hL k => f258_ok k hL (f293_all hK hL k)
theorem f196_all : Al f196_e := fun hK hL k => f196_ok k hL (f258_all hK hL k)
theorem f144_all : Al f144_e := fun hK hL k => f144_ok k hL (f196_all hK hL k) (f181_all hK hL k) (f197_all hK hL k) (f143_all hK hL k)
theorem f236_all : Al f236_e := fun hK hL k => f236_ok k hL
theorem f237_all : Al f237_e := fun hK hL k => f237_ok k hL (f99_all hK hL k)
theorem f179_all : Al f179_e := fun hK hL k => f179_ok k hL (f98_all hK hL k) (f236_all hK hL k) (f237_all hK hL k)
theorem f178_all : Al f178_e := fun hK hL k => f178_ok k hL (f179_all hK hL k)
theorem f235_all : Al f235_e := fun hK hL k => f235_ok k hL (f178_all hK hL k)
theorem f177_all : Al f177_e := fun hK hL k => f177_ok k hL (f235_all hK hL k)
theorem f132_all : Al f132_e := fun hK hL k => f132_ok k hL (f177_all hK hL k)
theorem f198_all : Al f198_e := fun hK hL k => f198_ok k hL (f199_all hK hL k)
theorem f145_all : Al f145_e := fun hK hL k => f145_ok k hL (f132_all hK hL k) (f198_all hK hL k) (f199_all hK hL k)
theorem f104_all : Al f104_e := fun hK hL k => f104_ok k hL (f143_all hK hL k) (f144_all hK hL k) (f145_all hK hL k)
theorem f200_all : Al f200_e := fun hK hL k => f200_ok k hL (f184_all hK hL k) (f242_all hK hL k)
theorem f201_all : Al f201_e := fun hK hL k => f201_ok k hL (f247_all hK hL k) (f251_all hK hL k)
theorem f146_all : Al f146_e := fun hK hL k => f146_ok k hL (f200_all hK hL k) (f201_all hK hL k)
theorem f147_all : Al f147_e := fun hK hL k => f147_ok k hL
theorem f105_all : Al f105_e := fun hK hL k => f105_ok k hL (f100_all hK hL k) (f146_all hK hL k) (f147_all hK hL k)
theorem f51_all : Al f51_e := fun hK hL k => f51_ok k hL (f104_all hK hL k) (f105_all hK hL k)
theorem f13_all : Al f13_e := fun hK hL k => f13_ok k hL (f11_all hK hL k) (f46_all hK hL k) (f47_all hK hL k) (f48_all hK hL k) (f49_all hK hL k) (f50_all hK hL k) (f51_all hK hL k)
theorem f17_all : Al f17_e := fun hK hL k => f17_ok k hL (f64_all hK hL k) (f65_all hK hL k) (f66_all hK hL k)
theorem f113_all : Al f113_e := fun hK hL k => f113_ok k hL (f17_all hK hL k)
theorem f67_all : Al f67_e := fun hK hL k => f67_ok k hL (f79_all hK hL k) (f13_all hK hL k) (f113_all hK hL k)
theorem f77_all : Al f77_e := fun hK hL k => f77_ok k hL (f79_all hK hL k) (f11_all hK hL k)
theorem f78_all : Al f78_e := fun hK hL k => f78_ok k hL (f17_all hK hL k)
theorem f23_all : Al f23_e := fun hK hL k => f23_ok k hL (f77_all hK hL k) (f78_all hK hL k) (f79_all hK hL k)
theorem f114_all : Al f114_e := fun hK hL k => f114_ok k hL
theorem f210_all : Al f210_e := fun hK hL k => f210_ok k hL
theorem f156_all : Al f156_e := fun hK hL k => f156_ok k hL (f210_all hK hL k)
theorem f115_all : Al f115_e := fun hK hL k => f115_ok k hL (f156_all hK hL k) (f59_all hK hL k)
theorem f116_all : Al f116_e := fun hK hL k => f116_ok k hL (f15_all hK hL k)
theorem f117_all : Al f117_e := fun hK hL k => f117_ok k hL (f17_all hK hL k)
theorem f68_all : Al f68_e := fun hK hL k => f68_ok k hL (f79_all hK hL k) (f114_all hK hL k) (f13_all hK hL k) (f115_all hK hL k) (f116_all hK hL k) (f117_all hK hL k) (f113_all hK hL k)
theorem f24_all : Al f24_e := fun hK hL k => f24_ok k hL
theorem f18_all : Al f18_e := fun hK hL k => f18_ok k hL (f19_all hK hL k) (f67_all hK hL k) (f23_all hK hL k) (f68_all hK hL k) (f24_all hK hL k)
theorem f37_all : Al f37_e := fun hK hL k => f37_ok k hL
theorem f38_all : Al f38_e := fun hK hL k => f38_ok k hL
theorem f10_all : Al f10_e := fun hK hL k => f10_ok k hL (f37_all hK hL k) (f38_all hK hL k)
theorem f20_all : Al f20_e := fun hK hL k => f20_ok k hL (f10_all hK hL k) (f38_all hK hL k)
theorem f25_all : Al f25_e := fun hK hL k => f25_ok k hL (f17_all hK hL k)
theorem f72_all : Al f72_e := fun hK hL k => f72_ok k hL (f114_all hK hL k) (f117_all hK hL k) (f113_all hK hL k)
theorem f22_all : Al f22_e := fun hK hL k => f22_ok k hL (f67_all hK hL k) (f68_all hK hL k) (f72_all hK hL k)
theorem f26_all : Al f26_e := fun hK hL k => f26_ok k hL
theorem f6_all : Al f6_e := fun hK hL k => f6_ok k hL (f18_all hK hL k) (f19_all hK hL k) (f20_all hK hL k) (f25_all hK hL k) (f22_all hK hL k) (f23_all hK hL k) (f13_all hK hL k) (f26_all hK hL k)
end Go.Proofs.YtpffibjemegioaaGreatDoor
