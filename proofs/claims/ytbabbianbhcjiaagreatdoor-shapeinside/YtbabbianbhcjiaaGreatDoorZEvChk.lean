/- The laid functions are the translation's: each by the kernel. -/
import Derived.Test.YtbabbianbhcjiaaGreatDoorZEvLay
import Derived.Test.YtbabbianbhcjiaaGreatDoorZEvCode
import Derived.Test.YtbabbianbhcjiaaGreatDoorProg
import Derived.KernelRfl
set_option linter.all false
namespace Go.Proofs.YtbabbianbhcjiaaGreatDoor
open Go
set_option maxRecDepth 100000

theorem chk3 : A3.form Tryz.prog = formOf Tryz.prog Tryz.f3 := by kernel_rfl
theorem chk4 : A4.form Tryz.prog = formOf Tryz.prog Tryz.f4 := by kernel_rfl
theorem chk5 : A5.form Tryz.prog = formOf Tryz.prog Tryz.f5 := by kernel_rfl
theorem chk8 : A8.form Tryz.prog = formOf Tryz.prog Tryz.f8 := by kernel_rfl
theorem chk9 : A9.form Tryz.prog = formOf Tryz.prog Tryz.f9 := by kernel_rfl
theorem chk10 : A10.form Tryz.prog = formOf Tryz.prog Tryz.f10 := by kernel_rfl
theorem chk11 : A11.form Tryz.prog = formOf Tryz.prog Tryz.f11 := by kernel_rfl
theorem chk12 : A12.form Tryz.prog = formOf Tryz.prog Tryz.f12 := by kernel_rfl
theorem chk13 : A13.form Tryz.prog = formOf Tryz.prog Tryz.f13 := by kernel_rfl
theorem chk14 : A14.form Tryz.prog = formOf Tryz.prog Tryz.f14 := by kernel_rfl
theorem chk15 : A15.form Tryz.prog = formOf Tryz.prog Tryz.f15 := by kernel_rfl
theorem chk16 : A16.form Tryz.prog = formOf Tryz.prog Tryz.f16 := by kernel_rfl
theorem chk17 : A17.form Tryz.prog = formOf Tryz.prog Tryz.f17 := by kernel_rfl
theorem chk18 : A18.form Tryz.prog = formOf Tryz.prog Tryz.f18 := by kernel_rfl
theorem chk19 : A19.form Tryz.prog = formOf Tryz.prog Tryz.f19 := by kernel_rfl
theorem chk22 : A22.form Tryz.prog = formOf Tryz.prog Tryz.f22 := by kernel_rfl
theorem chk23 : A23.form Tryz.prog = formOf Tryz.prog Tryz.f23 := by kernel_rfl
theorem chk24 : A24.form Tryz.prog = formOf Tryz.prog Tryz.f24 := by kernel_rfl
theorem chk25 : A25.form Tryz.prog = formOf Tryz.prog Tryz.f25 := by kernel_rfl
theorem chk26 : A26.form Tryz.prog = formOf Tryz.prog Tryz.f26 := by kernel_rfl
theorem chk27 : A27.form Tryz.prog = formOf Tryz.prog Tryz.f27 := by kernel_rfl
theorem chk28 : A28.form Tryz.prog = formOf Tryz.prog Tryz.f28 := by kernel_rfl
theorem chk29 : A29.form Tryz.prog = formOf Tryz.prog Tryz.f29 := by kernel_rfl
theorem chk30 : A30.form Tryz.prog = formOf Tryz.prog Tryz.f30 := by kernel_rfl
theorem chk31 : A31.form Tryz.prog = formOf Tryz.prog Tryz.f31 := by kernel_rfl
theorem chk32 : A32.form Tryz.prog = formOf Tryz.prog Tryz.f32 := by kernel_rfl
theorem chk33 : A33.form Tryz.prog = formOf Tryz.prog Tryz.f33 := by kernel_rfl
theorem chk34 : A34.form Tryz.prog = formOf Tryz.prog Tryz.f34 := by kernel_rfl
theorem chk35 : A35.form Tryz.prog = formOf Tryz.prog Tryz.f35 := by kernel_rfl
theorem chk36 : A36.form Tryz.prog = formOf Tryz.prog Tryz.f36 := by kernel_rfl
theorem chk37 : A37.form Tryz.prog = formOf Tryz.prog Tryz.f37 := by kernel_rfl
theorem chk38 : A38.form Tryz.prog = formOf Tryz.prog Tryz.f38 := by kernel_rfl
theorem chk39 : A39.form Tryz.prog = formOf Tryz.prog Tryz.f39 := by kernel_rfl
theorem chk40 : A40.form Tryz.prog = formOf Tryz.prog Tryz.f40 := by kernel_rfl
theorem chk41 : A41.form Tryz.prog = formOf Tryz.prog Tryz.f41 := by kernel_rfl
theorem chk42 : A42.form Tryz.prog = formOf Tryz.prog Tryz.f42 := by kernel_rfl
theorem chk43 : A43.form Tryz.prog = formOf Tryz.prog Tryz.f43 := by kernel_rfl
theorem chk44 : A44.form Tryz.prog = formOf Tryz.prog Tryz.f44 := by kernel_rfl
theorem chk45 : A45.form Tryz.prog = formOf Tryz.prog Tryz.f45 := by kernel_rfl
theorem chk46 : A46.form Tryz.prog = formOf Tryz.prog Tryz.f46 := by kernel_rfl
theorem chk47 : A47.form Tryz.prog = formOf Tryz.prog Tryz.f47 := by kernel_rfl
theorem chk48 : A48.form Tryz.prog = formOf Tryz.prog Tryz.f48 := by kernel_rfl
theorem chk49 : A49.form Tryz.prog = formOf Tryz.prog Tryz.f49 := by kernel_rfl
theorem chk50 : A50.form Tryz.prog = formOf Tryz.prog Tryz.f50 := by kernel_rfl
theorem chk51 : A51.form Tryz.prog = formOf Tryz.prog Tryz.f51 := by kernel_rfl
theorem chk52 : A52.form Tryz.prog = formOf Tryz.prog Tryz.f52 := by kernel_rfl
theorem chk53 : A53.form Tryz.prog = formOf Tryz.prog Tryz.f53 := by kernel_rfl
theorem chk54 : A54.form Tryz.prog = formOf Tryz.prog Tryz.f54 := by kernel_rfl
theorem chk55 : A55.form Tryz.prog = formOf Tryz.prog Tryz.f55 := by kernel_rfl
theorem chk56 : A56.form Tryz.prog = formOf Tryz.prog Tryz.f56 := by kernel_rfl
theorem chk57 : A57.form Tryz.prog = formOf Tryz.prog Tryz.f57 := by kernel_rfl
theorem chk58 : A58.form Tryz.prog = formOf Tryz.prog Tryz.f58 := by kernel_rfl
theorem chk59 : A59.form Tryz.prog = formOf Tryz.prog Tryz.f59 := by kernel_rfl
theorem chk60 : A60.form Tryz.prog = formOf Tryz.prog Tryz.f60 := by kernel_rfl
theorem chk61 : A61.form Tryz.prog = formOf Tryz.prog Tryz.f61 := by kernel_rfl
theorem chk62 : A62.form Tryz.prog = formOf Tryz.prog Tryz.f62 := by kernel_rfl
theorem chk63 : A63.form Tryz.prog = formOf Tryz.prog Tryz.f63 := by kernel_rfl
theorem chk64 : A64.form Tryz.prog = formOf Tryz.prog Tryz.f64 := by kernel_rfl
theorem chk65 : A65.form Tryz.prog = formOf Tryz.prog Tryz.f65 := by kernel_rfl
theorem chk66 : A66.form Tryz.prog = formOf Tryz.prog Tryz.f66 := by kernel_rfl
theorem chk67 : A67.form Tryz.prog = formOf Tryz.prog Tryz.f67 := by kernel_rfl
theorem chk68 : A68.form Tryz.prog = formOf Tryz.prog Tryz.f68 := by kernel_rfl
theorem chk69 : A69.form Tryz.prog = formOf Tryz.prog Tryz.f69 := by kernel_rfl
theorem chk70 : A70.form Tryz.prog = formOf Tryz.prog Tryz.f70 := by kernel_rfl
theorem chk71 : A71.form Tryz.prog = formOf Tryz.prog Tryz.f71 := by kernel_rfl
theorem chk72 : A72.form Tryz.prog = formOf Tryz.prog Tryz.f72 := by kernel_rfl
theorem chk73 : A73.form Tryz.prog = formOf Tryz.prog Tryz.f73 := by kernel_rfl
theorem chk74 : A74.form Tryz.prog = formOf Tryz.prog Tryz.f74 := by kernel_rfl
theorem chk75 : A75.form Tryz.prog = formOf Tryz.prog Tryz.f75 := by kernel_rfl
theorem chk76 : A76.form Tryz.prog = formOf Tryz.prog Tryz.f76 := by kernel_rfl
theorem chk77 : A77.form Tryz.prog = formOf Tryz.prog Tryz.f77 := by kernel_rfl
theorem chk78 : A78.form Tryz.prog = formOf Tryz.prog Tryz.f78 := by kernel_rfl
theorem chk79 : A79.form Tryz.prog = formOf Tryz.prog Tryz.f79 := by kernel_rfl
theorem chk80 : A80.form Tryz.prog = formOf Tryz.prog Tryz.f80 := by kernel_rfl
theorem chk81 : A81.form Tryz.prog = formOf Tryz.prog Tryz.f81 := by kernel_rfl
theorem chk82 : A82.form Tryz.prog = formOf Tryz.prog Tryz.f82 := by kernel_rfl
theorem chk83 : A83.form Tryz.prog = formOf Tryz.prog Tryz.f83 := by kernel_rfl
theorem chk84 : A84.form Tryz.prog = formOf Tryz.prog Tryz.f84 := by kernel_rfl
theorem chk85 : A85.form Tryz.prog = formOf Tryz.prog Tryz.f85 := by kernel_rfl
theorem chk86 : A86.form Tryz.prog = formOf Tryz.prog Tryz.f86 := by kernel_rfl
theorem chk87 : A87.form Tryz.prog = formOf Tryz.prog Tryz.f87 := by kernel_rfl
theorem chk88 : A88.form Tryz.prog = formOf Tryz.prog Tryz.f88 := by kernel_rfl
theorem chk89 : A89.form Tryz.prog = formOf Tryz.prog Tryz.f89 := by kernel_rfl
theorem chk90 : A90.form Tryz.prog = formOf Tryz.prog Tryz.f90 := by kernel_rfl
theorem chk91 : A91.form Tryz.prog = formOf Tryz.prog Tryz.f91 := by kernel_rfl
theorem chk92 : A92.form Tryz.prog = formOf Tryz.prog Tryz.f92 := by kernel_rfl
theorem chk98 : A98.form Tryz.prog = formOf Tryz.prog Tryz.f98 := by kernel_rfl
theorem chk99 : A99.form Tryz.prog = formOf Tryz.prog Tryz.f99 := by kernel_rfl
theorem chk100 : A100.form Tryz.prog = formOf Tryz.prog Tryz.f100 := by kernel_rfl
theorem chk101 : A101.form Tryz.prog = formOf Tryz.prog Tryz.f101 := by kernel_rfl
theorem chk102 : A102.form Tryz.prog = formOf Tryz.prog Tryz.f102 := by kernel_rfl
theorem chk103 : A103.form Tryz.prog = formOf Tryz.prog Tryz.f103 := by kernel_rfl
theorem chk104 : A104.form Tryz.prog = formOf Tryz.prog Tryz.f104 := by kernel_rfl
theorem chk105 : A105.form Tryz.prog = formOf Tryz.prog Tryz.f105 := by kernel_rfl
theorem chk106 : A106.form Tryz.prog = formOf Tryz.prog Tryz.f106 := by kernel_rfl
theorem chk107 : A107.form Tryz.prog = formOf Tryz.prog Tryz.f107 := by kernel_rfl
theorem chk108 : A108.form Tryz.prog = formOf Tryz.prog Tryz.f108 := by kernel_rfl
theorem chk109 : A109.form Tryz.prog = formOf Tryz.prog Tryz.f109 := by kernel_rfl
theorem chk110 : A110.form Tryz.prog = formOf Tryz.prog Tryz.f110 := by kernel_rfl
theorem chk111 : A111.form Tryz.prog = formOf Tryz.prog Tryz.f111 := by kernel_rfl
theorem chk112 : A112.form Tryz.prog = formOf Tryz.prog Tryz.f112 := by kernel_rfl
theorem chk113 : A113.form Tryz.prog = formOf Tryz.prog Tryz.f113 := by kernel_rfl
theorem chk114 : A114.form Tryz.prog = formOf Tryz.prog Tryz.f114 := by kernel_rfl
theorem chk115 : A115.form Tryz.prog = formOf Tryz.prog Tryz.f115 := by kernel_rfl
theorem chk116 : A116.form Tryz.prog = formOf Tryz.prog Tryz.f116 := by kernel_rfl
theorem chk117 : A117.form Tryz.prog = formOf Tryz.prog Tryz.f117 := by kernel_rfl
theorem chk118 : A118.form Tryz.prog = formOf Tryz.prog Tryz.f118 := by kernel_rfl
theorem chk119 : A119.form Tryz.prog = formOf Tryz.prog Tryz.f119 := by kernel_rfl
theorem chk120 : A120.form Tryz.prog = formOf Tryz.prog Tryz.f120 := by kernel_rfl
theorem chk121 : A121.form Tryz.prog = formOf Tryz.prog Tryz.f121 := by kernel_rfl
theorem chk122 : A122.form Tryz.prog = formOf Tryz.prog Tryz.f122 := by kernel_rfl
theorem chk123 : A123.form Tryz.prog = formOf Tryz.prog Tryz.f123 := by kernel_rfl
theorem chk124 : A124.form Tryz.prog = formOf Tryz.prog Tryz.f124 := by kernel_rfl
theorem chk125 : A125.form Tryz.prog = formOf Tryz.prog Tryz.f125 := by kernel_rfl
theorem chk126 : A126.form Tryz.prog = formOf Tryz.prog Tryz.f126 := by kernel_rfl
theorem chk127 : A127.form Tryz.prog = formOf Tryz.prog Tryz.f127 := by kernel_rfl
theorem chk128 : A128.form Tryz.prog = formOf Tryz.prog Tryz.f128 := by kernel_rfl
theorem chk129 : A129.form Tryz.prog = formOf Tryz.prog Tryz.f129 := by kernel_rfl
theorem chk130 : A130.form Tryz.prog = formOf Tryz.prog Tryz.f130 := by kernel_rfl
theorem chk131 : A131.form Tryz.prog = formOf Tryz.prog Tryz.f131 := by kernel_rfl
theorem chk132 : A132.form Tryz.prog = formOf Tryz.prog Tryz.f132 := by kernel_rfl
theorem chk133 : A133.form Tryz.prog = formOf Tryz.prog Tryz.f133 := by kernel_rfl
theorem chk134 : A134.form Tryz.prog = formOf Tryz.prog Tryz.f134 := by kernel_rfl
theorem chk135 : A135.form Tryz.prog = formOf Tryz.prog Tryz.f135 := by kernel_rfl
theorem chk136 : A136.form Tryz.prog = formOf Tryz.prog Tryz.f136 := by kernel_rfl
theorem chk137 : A137.form Tryz.prog = formOf Tryz.prog Tryz.f137 := by kernel_rfl
theorem chk138 : A138.form Tryz.prog = formOf Tryz.prog Tryz.f138 := by kernel_rfl
theorem chk139 : A139.form Tryz.prog = formOf Tryz.prog Tryz.f139 := by kernel_rfl
theorem chk140 : A140.form Tryz.prog = formOf Tryz.prog Tryz.f140 := by kernel_rfl
theorem chk141 : A141.form Tryz.prog = formOf Tryz.prog Tryz.f141 := by kernel_rfl
theorem chk142 : A142.form Tryz.prog = formOf Tryz.prog Tryz.f142 := by kernel_rfl
theorem chk143 : A143.form Tryz.prog = formOf Tryz.prog Tryz.f143 := by kernel_rfl
theorem chk144 : A144.form Tryz.prog = formOf Tryz.prog Tryz.f144 := by kernel_rfl
theorem chk145 : A145.form Tryz.prog = formOf Tryz.prog Tryz.f145 := by kernel_rfl
theorem chk146 : A146.form Tryz.prog = formOf Tryz.prog Tryz.f146 := by kernel_rfl
theorem chk147 : A147.form Tryz.prog = formOf Tryz.prog Tryz.f147 := by kernel_rfl
theorem chk148 : A148.form Tryz.prog = formOf Tryz.prog Tryz.f148 := by kernel_rfl
theorem chk149 : A149.form Tryz.prog = formOf Tryz.prog Tryz.f149 := by kernel_rfl
theorem chk150 : A150.form Tryz.prog = formOf Tryz.prog Tryz.f150 := by kernel_rfl
theorem chk151 : A151.form Tryz.prog = formOf Tryz.prog Tryz.f151 := by kernel_rfl
theorem chk152 : A152.form Tryz.prog = formOf Tryz.prog Tryz.f152 := by kernel_rfl
theorem chk153 : A153.form Tryz.prog = formOf Tryz.prog Tryz.f153 := by kernel_rfl
theorem chk154 : A154.form Tryz.prog = formOf Tryz.prog Tryz.f154 := by kernel_rfl
theorem chk155 : A155.form Tryz.prog = formOf Tryz.prog Tryz.f155 := by kernel_rfl
theorem chk156 : A156.form Tryz.prog = formOf Tryz.prog Tryz.f156 := by kernel_rfl
theorem chk157 : A157.form Tryz.prog = formOf Tryz.prog Tryz.f157 := by kernel_rfl
theorem chk158 : A158.form Tryz.prog = formOf Tryz.prog Tryz.f158 := by kernel_rfl
theorem chk159 : A159.form Tryz.prog = formOf Tryz.prog Tryz.f159 := by kernel_rfl
theorem chk160 : A160.form Tryz.prog = formOf Tryz.prog Tryz.f160 := by kernel_rfl
theorem chk161 : A161.form Tryz.prog = formOf Tryz.prog Tryz.f161 := by kernel_rfl
theorem chk162 : A162.form Tryz.prog = formOf Tryz.prog Tryz.f162 := by kernel_rfl
theorem chk163 : A163.form Tryz.prog = formOf Tryz.prog Tryz.f163 := by kernel_rfl
theorem chk164 : A164.form Tryz.prog = formOf Tryz.prog Tryz.f164 := by kernel_rfl
theorem chk165 : A165.form Tryz.prog = formOf Tryz.prog Tryz.f165 := by kernel_rfl
theorem chk167 : A167.form Tryz.prog = formOf Tryz.prog Tryz.f167 := by kernel_rfl
theorem chk168 : A168.form Tryz.prog = formOf Tryz.prog Tryz.f168 := by kernel_rfl
theorem chk169 : A169.form Tryz.prog = formOf Tryz.prog Tryz.f169 := by kernel_rfl
theorem chk170 : A170.form Tryz.prog = formOf Tryz.prog Tryz.f170 := by kernel_rfl

noncomputable abbrev lay (G : Nat → Option (List Tr)) : Lay := ⟨Tryz.prog, fun n => tblF.getD n none, G⟩

theorem ok3 (G : Nat → Option (List Tr)) : ∃ fn c, FOk (lay G) 3 A3 fn c := fok (fn := Tryz.f3) Tryz.func3 rfl chk3
theorem ok4 (G : Nat → Option (List Tr)) : ∃ fn c, FOk (lay G) 4 A4 fn c := fok (fn := Tryz.f4) Tryz.func4 rfl chk4
theorem ok5 (G : Nat → Option (List Tr)) : ∃ fn c, FOk (lay G) 5 A5 fn c := fok (fn := Tryz.f5) Tryz.func5 rfl chk5
theorem ok8 (G : Nat → Option (List Tr)) : ∃ fn c, FOk (lay G) 8 A8 fn c := fok (fn := Tryz.f8) Tryz.func8 rfl chk8
theorem ok9 (G : Nat → Option (List Tr)) : ∃ fn c, FOk (lay G) 9 A9 fn c := fok (fn := Tryz.f9) Tryz.func9 rfl chk9
theorem ok10 (G : Nat → Option (List Tr)) : ∃ fn c, FOk (lay G) 10 A10 fn c := fok (fn := Tryz.f10) Tryz.func10 rfl chk10
theorem ok11 (G : Nat → Option (List Tr)) : ∃ fn c, FOk (lay G) 11 A11 fn c := fok (fn := Tryz.f11) Tryz.func11 rfl chk11
theorem ok12 (G : Nat → Option (List Tr)) : ∃ fn c, FOk (lay G) 12 A12 fn c := fok (fn := Tryz.f12) Tryz.func12 rfl chk12
theorem ok13 (G : Nat → Option (List Tr)) : ∃ fn c, FOk (lay G) 13 A13 fn c := fok (fn := Tryz.f13) Tryz.func13 rfl chk13
theorem ok14 (G : Nat → Option (List Tr)) : ∃ fn c, FOk (lay G) 14 A14 fn c := fok (fn := Tryz.f14) Tryz.func14 rfl chk14
theorem ok15 (G : Nat → Option (List Tr)) : ∃ fn c, FOk (lay G) 15 A15 fn c := fok (fn := Tryz.f15) Tryz.func15 rfl chk15
theorem ok16 (G : Nat → Option (List Tr)) : ∃ fn c, FOk (lay G) 16 A16 fn c := fok (fn := Tryz.f16) Tryz.func16 rfl chk16
theorem ok17 (G : Nat → Option (List Tr)) : ∃ fn c, FOk (lay G) 17 A17 fn c := fok (fn := Tryz.f17) Tryz.func17 rfl chk17
theorem ok18 (G : Nat → Option (List Tr)) : ∃ fn c, FOk (lay G) 18 A18 fn c := fok (fn := Tryz.f18) Tryz.func18 rfl chk18
theorem ok19 (G : Nat → Option (List Tr)) : ∃ fn c, FOk (lay G) 19 A19 fn c := fok (fn := Tryz.f19) Tryz.func19 rfl chk19
theorem ok22 (G : Nat → Option (List Tr)) : ∃ fn c, FOk (lay G) 22 A22 fn c := fok (fn := Tryz.f22) Tryz.func22 rfl chk22
theorem ok23 (G : Nat → Option (List Tr)) : ∃ fn c, FOk (lay G) 23 A23 fn c := fok (fn := Tryz.f23) Tryz.func23 rfl chk23
theorem ok24 (G : Nat → Option (List Tr)) : ∃ fn c, FOk (lay G) 24 A24 fn c := fok (fn := Tryz.f24) Tryz.func24 rfl chk24
theorem ok25 (G : Nat → Option (List Tr)) : ∃ fn c, FOk (lay G) 25 A25 fn c := fok (fn := Tryz.f25) Tryz.func25 rfl chk25
theorem ok26 (G : Nat → Option (List Tr)) : ∃ fn c, FOk (lay G) 26 A26 fn c := fok (fn := Tryz.f26) Tryz.func26 rfl chk26
theorem ok27 (G : Nat → Option (List Tr)) : ∃ fn c, FOk (lay G) 27 A27 fn c := fok (fn := Tryz.f27) Tryz.func27 rfl chk27
theorem ok28 (G : Nat → Option (List Tr)) : ∃ fn c, FOk (lay G) 28 A28 fn c := fok (fn := Tryz.f28) Tryz.func28 rfl chk28
theorem ok29 (G : Nat → Option (List Tr)) : ∃ fn c, FOk (lay G) 29 A29 fn c := fok (fn := Tryz.f29) Tryz.func29 rfl chk29
theorem ok30 (G : Nat → Option (List Tr)) : ∃ fn c, FOk (lay G) 30 A30 fn c := fok (fn := Tryz.f30) Tryz.func30 rfl chk30
theorem ok31 (G : Nat → Option (List Tr)) : ∃ fn c, FOk (lay G) 31 A31 fn c := fok (fn := Tryz.f31) Tryz.func31 rfl chk31
theorem ok32 (G : Nat → Option (List Tr)) : ∃ fn c, FOk (lay G) 32 A32 fn c := fok (fn := Tryz.f32) Tryz.func32 rfl chk32
theorem ok33 (G : Nat → Option (List Tr)) : ∃ fn c, FOk (lay G) 33 A33 fn c := fok (fn := Tryz.f33) Tryz.func33 rfl chk33
theorem ok34 (G : Nat → Option (List Tr)) : ∃ fn c, FOk (lay G) 34 A34 fn c := fok (fn := Tryz.f34) Tryz.func34 rfl chk34
theorem ok35 (G : Nat → Option (List Tr)) : ∃ fn c, FOk (lay G) 35 A35 fn c := fok (fn := Tryz.f35) Tryz.func35 rfl chk35
theorem ok36 (G : Nat → Option (List Tr)) : ∃ fn c, FOk (lay G) 36 A36 fn c := fok (fn := Tryz.f36) Tryz.func36 rfl chk36
theorem ok37 (G : Nat → Option (List Tr)) : ∃ fn c, FOk (lay G) 37 A37 fn c := fok (fn := Tryz.f37) Tryz.func37 rfl chk37
theorem ok38 (G : Nat → Option (List Tr)) : ∃ fn c, FOk (lay G) 38 A38 fn c := fok (fn := Tryz.f38) Tryz.func38 rfl chk38
theorem ok39 (G : Nat → Option (List Tr)) : ∃ fn c, FOk (lay G) 39 A39 fn c := fok (fn := Tryz.f39) Tryz.func39 rfl chk39
theorem ok40 (G : Nat → Option (List Tr)) : ∃ fn c, FOk (lay G) 40 A40 fn c := fok (fn := Tryz.f40) Tryz.func40 rfl chk40
theorem ok41 (G : Nat → Option (List Tr)) : ∃ fn c, FOk (lay G) 41 A41 fn c := fok (fn := Tryz.f41) Tryz.func41 rfl chk41
theorem ok42 (G : Nat → Option (List Tr)) : ∃ fn c, FOk (lay G) 42 A42 fn c := fok (fn := Tryz.f42) Tryz.func42 rfl chk42
theorem ok43 (G : Nat → Option (List Tr)) : ∃ fn c, FOk (lay G) 43 A43 fn c := fok (fn := Tryz.f43) Tryz.func43 rfl chk43
theorem ok44 (G : Nat → Option (List Tr)) : ∃ fn c, FOk (lay G) 44 A44 fn c := fok (fn := Tryz.f44) Tryz.func44 rfl chk44
theorem ok45 (G : Nat → Option (List Tr)) : ∃ fn c, FOk (lay G) 45 A45 fn c := fok (fn := Tryz.f45) Tryz.func45 rfl chk45
theorem ok46 (G : Nat → Option (List Tr)) : ∃ fn c, FOk (lay G) 46 A46 fn c := fok (fn := Tryz.f46) Tryz.func46 rfl chk46
theorem ok47 (G : Nat → Option (List Tr)) : ∃ fn c, FOk (lay G) 47 A47 fn c := fok (fn := Tryz.f47) Tryz.func47 rfl chk47
theorem ok48 (G : Nat → Option (List Tr)) : ∃ fn c, FOk (lay G) 48 A48 fn c := fok (fn := Tryz.f48) Tryz.func48 rfl chk48
theorem ok49 (G : Nat → Option (List Tr)) : ∃ fn c, FOk (lay G) 49 A49 fn c := fok (fn := Tryz.f49) Tryz.func49 rfl chk49
theorem ok50 (G : Nat → Option (List Tr)) : ∃ fn c, FOk (lay G) 50 A50 fn c := fok (fn := Tryz.f50) Tryz.func50 rfl chk50
theorem ok51 (G : Nat → Option (List Tr)) : ∃ fn c, FOk (lay G) 51 A51 fn c := fok (fn := Tryz.f51) Tryz.func51 rfl chk51
theorem ok52 (G : Nat → Option (List Tr)) : ∃ fn c, FOk (lay G) 52 A52 fn c := fok (fn := Tryz.f52) Tryz.func52 rfl chk52
theorem ok53 (G : Nat → Option (List Tr)) : ∃ fn c, FOk (lay G) 53 A53 fn c := fok (fn := Tryz.f53) Tryz.func53 rfl chk53
theorem ok54 (G : Nat → Option (List Tr)) : ∃ fn c, FOk (lay G) 54 A54 fn c := fok (fn := Tryz.f54) Tryz.func54 rfl chk54
theorem ok55 (G : Nat → Option (List Tr)) : ∃ fn c, FOk (lay G) 55 A55 fn c := fok (fn := Tryz.f55) Tryz.func55 rfl chk55
theorem ok56 (G : Nat → Option (List Tr)) : ∃ fn c, FOk (lay G) 56 A56 fn c := fok (fn := Tryz.f56) Tryz.func56 rfl chk56
theorem ok57 (G : Nat → Option (List Tr)) : ∃ fn c, FOk (lay G) 57 A57 fn c := fok (fn := Tryz.f57) Tryz.func57 rfl chk57
theorem ok58 (G : Nat → Option (List Tr)) : ∃ fn c, FOk (lay G) 58 A58 fn c := fok (fn := Tryz.f58) Tryz.func58 rfl chk58
theorem ok59 (G : Nat → Option (List Tr)) : ∃ fn c, FOk (lay G) 59 A59 fn c := fok (fn := Tryz.f59) Tryz.func59 rfl chk59
theorem ok60 (G : Nat → Option (List Tr)) : ∃ fn c, FOk (lay G) 60 A60 fn c := fok (fn := Tryz.f60) Tryz.func60 rfl chk60
theorem ok61 (G : Nat → Option (List Tr)) : ∃ fn c, FOk (lay G) 61 A61 fn c := fok (fn := Tryz.f61) Tryz.func61 rfl chk61
theorem ok62 (G : Nat → Option (List Tr)) : ∃ fn c, FOk (lay G) 62 A62 fn c := fok (fn := Tryz.f62) Tryz.func62 rfl chk62
theorem ok63 (G : Nat → Option (List Tr)) : ∃ fn c, FOk (lay G) 63 A63 fn c := fok (fn := Tryz.f63) Tryz.func63 rfl chk63
theorem ok64 (G : Nat → Option (List Tr)) : ∃ fn c, FOk (lay G) 64 A64 fn c := fok (fn := Tryz.f64) Tryz.func64 rfl chk64
theorem ok65 (G : Nat → Option (List Tr)) : ∃ fn c, FOk (lay G) 65 A65 fn c := fok (fn := Tryz.f65) Tryz.func65 rfl chk65
theorem ok66 (G : Nat → Option (List Tr)) : ∃ fn c, FOk (lay G) 66 A66 fn c := fok (fn := Tryz.f66) Tryz.func66 rfl chk66
theorem ok67 (G : Nat → Option (List Tr)) : ∃ fn c, FOk (lay G) 67 A67 fn c := fok (fn := Tryz.f67) Tryz.func67 rfl chk67
theorem ok68 (G : Nat → Option (List Tr)) : ∃ fn c, FOk (lay G) 68 A68 fn c := fok (fn := Tryz.f68) Tryz.func68 rfl chk68
theorem ok69 (G : Nat → Option (List Tr)) : ∃ fn c, FOk (lay G) 69 A69 fn c := fok (fn := Tryz.f69) Tryz.func69 rfl chk69
theorem ok70 (G : Nat → Option (List Tr)) : ∃ fn c, FOk (lay G) 70 A70 fn c := fok (fn := Tryz.f70) Tryz.func70 rfl chk70
theorem ok71 (G : Nat → Option (List Tr)) : ∃ fn c, FOk (lay G) 71 A71 fn c := fok (fn := Tryz.f71) Tryz.func71 rfl chk71
theorem ok72 (G : Nat → Option (List Tr)) : ∃ fn c, FOk (lay G) 72 A72 fn c := fok (fn := Tryz.f72) Tryz.func72 rfl chk72
theorem ok73 (G : Nat → Option (List Tr)) : ∃ fn c, FOk (lay G) 73 A73 fn c := fok (fn := Tryz.f73) Tryz.func73 rfl chk73
theorem ok74 (G : Nat → Option (List Tr)) : ∃ fn c, FOk (lay G) 74 A74 fn c := fok (fn := Tryz.f74) Tryz.func74 rfl chk74
theorem ok75 (G : Nat → Option (List Tr)) : ∃ fn c, FOk (lay G) 75 A75 fn c := fok (fn := Tryz.f75) Tryz.func75 rfl chk75
theorem ok76 (G : Nat → Option (List Tr)) : ∃ fn c, FOk (lay G) 76 A76 fn c := fok (fn := Tryz.f76) Tryz.func76 rfl chk76
theorem ok77 (G : Nat → Option (List Tr)) : ∃ fn c, FOk (lay G) 77 A77 fn c := fok (fn := Tryz.f77) Tryz.func77 rfl chk77
theorem ok78 (G : Nat → Option (List Tr)) : ∃ fn c, FOk (lay G) 78 A78 fn c := fok (fn := Tryz.f78) Tryz.func78 rfl chk78
theorem ok79 (G : Nat → Option (List Tr)) : ∃ fn c, FOk (lay G) 79 A79 fn c := fok (fn := Tryz.f79) Tryz.func79 rfl chk79
theorem ok80 (G : Nat → Option (List Tr)) : ∃ fn c, FOk (lay G) 80 A80 fn c := fok (fn := Tryz.f80) Tryz.func80 rfl chk80
theorem ok81 (G : Nat → Option (List Tr)) : ∃ fn c, FOk (lay G) 81 A81 fn c := fok (fn := Tryz.f81) Tryz.func81 rfl chk81
theorem ok82 (G : Nat → Option (List Tr)) : ∃ fn c, FOk (lay G) 82 A82 fn c := fok (fn := Tryz.f82) Tryz.func82 rfl chk82
theorem ok83 (G : Nat → Option (List Tr)) : ∃ fn c, FOk (lay G) 83 A83 fn c := fok (fn := Tryz.f83) Tryz.func83 rfl chk83
theorem ok84 (G : Nat → Option (List Tr)) : ∃ fn c, FOk (lay G) 84 A84 fn c := fok (fn := Tryz.f84) Tryz.func84 rfl chk84
theorem ok85 (G : Nat → Option (List Tr)) : ∃ fn c, FOk (lay G) 85 A85 fn c := fok (fn := Tryz.f85) Tryz.func85 rfl chk85
theorem ok86 (G : Nat → Option (List Tr)) : ∃ fn c, FOk (lay G) 86 A86 fn c := fok (fn := Tryz.f86) Tryz.func86 rfl chk86
theorem ok87 (G : Nat → Option (List Tr)) : ∃ fn c, FOk (lay G) 87 A87 fn c := fok (fn := Tryz.f87) Tryz.func87 rfl chk87
theorem ok88 (G : Nat → Option (List Tr)) : ∃ fn c, FOk (lay G) 88 A88 fn c := fok (fn := Tryz.f88) Tryz.func88 rfl chk88
theorem ok89 (G : Nat → Option (List Tr)) : ∃ fn c, FOk (lay G) 89 A89 fn c := fok (fn := Tryz.f89) Tryz.func89 rfl chk89
theorem ok90 (G : Nat → Option (List Tr)) : ∃ fn c, FOk (lay G) 90 A90 fn c := fok (fn := Tryz.f90) Tryz.func90 rfl chk90
theorem ok91 (G : Nat → Option (List Tr)) : ∃ fn c, FOk (lay G) 91 A91 fn c := fok (fn := Tryz.f91) Tryz.func91 rfl chk91
theorem ok92 (G : Nat → Option (List Tr)) : ∃ fn c, FOk (lay G) 92 A92 fn c := fok (fn := Tryz.f92) Tryz.func92 rfl chk92
theorem ok98 (G : Nat → Option (List Tr)) : ∃ fn c, FOk (lay G) 98 A98 fn c := fok (fn := Tryz.f98) Tryz.func98 rfl chk98
theorem ok99 (G : Nat → Option (List Tr)) : ∃ fn c, FOk (lay G) 99 A99 fn c := fok (fn := Tryz.f99) Tryz.func99 rfl chk99
theorem ok100 (G : Nat → Option (List Tr)) : ∃ fn c, FOk (lay G) 100 A100 fn c := fok (fn := Tryz.f100) Tryz.func100 rfl chk100
theorem ok101 (G : Nat → Option (List Tr)) : ∃ fn c, FOk (lay G) 101 A101 fn c := fok (fn := Tryz.f101) Tryz.func101 rfl chk101
theorem ok102 (G : Nat → Option (List Tr)) : ∃ fn c, FOk (lay G) 102 A102 fn c := fok (fn := Tryz.f102) Tryz.func102 rfl chk102
theorem ok103 (G : Nat → Option (List Tr)) : ∃ fn c, FOk (lay G) 103 A103 fn c := fok (fn := Tryz.f103) Tryz.func103 rfl chk103
theorem ok104 (G : Nat → Option (List Tr)) : ∃ fn c, FOk (lay G) 104 A104 fn c := fok (fn := Tryz.f104) Tryz.func104 rfl chk104
theorem ok105 (G : Nat → Option (List Tr)) : ∃ fn c, FOk (lay G) 105 A105 fn c := fok (fn := Tryz.f105) Tryz.func105 rfl chk105
theorem ok106 (G : Nat → Option (List Tr)) : ∃ fn c, FOk (lay G) 106 A106 fn c := fok (fn := Tryz.f106) Tryz.func106 rfl chk106
theorem ok107 (G : Nat → Option (List Tr)) : ∃ fn c, FOk (lay G) 107 A107 fn c := fok (fn := Tryz.f107) Tryz.func107 rfl chk107
theorem ok108 (G : Nat → Option (List Tr)) : ∃ fn c, FOk (lay G) 108 A108 fn c := fok (fn := Tryz.f108) Tryz.func108 rfl chk108
theorem ok109 (G : Nat → Option (List Tr)) : ∃ fn c, FOk (lay G) 109 A109 fn c := fok (fn := Tryz.f109) Tryz.func109 rfl chk109
theorem ok110 (G : Nat → Option (List Tr)) : ∃ fn c, FOk (lay G) 110 A110 fn c := fok (fn := Tryz.f110) Tryz.func110 rfl chk110
theorem ok111 (G : Nat → Option (List Tr)) : ∃ fn c, FOk (lay G) 111 A111 fn c := fok (fn := Tryz.f111) Tryz.func111 rfl chk111
theorem ok112 (G : Nat → Option (List Tr)) : ∃ fn c, FOk (lay G) 112 A112 fn c := fok (fn := Tryz.f112) Tryz.func112 rfl chk112
theorem ok113 (G : Nat → Option (List Tr)) : ∃ fn c, FOk (lay G) 113 A113 fn c := fok (fn := Tryz.f113) Tryz.func113 rfl chk113
theorem ok114 (G : Nat → Option (List Tr)) : ∃ fn c, FOk (lay G) 114 A114 fn c := fok (fn := Tryz.f114) Tryz.func114 rfl chk114
theorem ok115 (G : Nat → Option (List Tr)) : ∃ fn c, FOk (lay G) 115 A115 fn c := fok (fn := Tryz.f115) Tryz.func115 rfl chk115
theorem ok116 (G : Nat → Option (List Tr)) : ∃ fn c, FOk (lay G) 116 A116 fn c := fok (fn := Tryz.f116) Tryz.func116 rfl chk116
theorem ok117 (G : Nat → Option (List Tr)) : ∃ fn c, FOk (lay G) 117 A117 fn c := fok (fn := Tryz.f117) Tryz.func117 rfl chk117
theorem ok118 (G : Nat → Option (List Tr)) : ∃ fn c, FOk (lay G) 118 A118 fn c := fok (fn := Tryz.f118) Tryz.func118 rfl chk118
theorem ok119 (G : Nat → Option (List Tr)) : ∃ fn c, FOk (lay G) 119 A119 fn c := fok (fn := Tryz.f119) Tryz.func119 rfl chk119
theorem ok120 (G : Nat → Option (List Tr)) : ∃ fn c, FOk (lay G) 120 A120 fn c := fok (fn := Tryz.f120) Tryz.func120 rfl chk120
theorem ok121 (G : Nat → Option (List Tr)) : ∃ fn c, FOk (lay G) 121 A121 fn c := fok (fn := Tryz.f121) Tryz.func121 rfl chk121
theorem ok122 (G : Nat → Option (List Tr)) : ∃ fn c, FOk (lay G) 122 A122 fn c := fok (fn := Tryz.f122) Tryz.func122 rfl chk122
theorem ok123 (G : Nat → Option (List Tr)) : ∃ fn c, FOk (lay G) 123 A123 fn c := fok (fn := Tryz.f123) Tryz.func123 rfl chk123
theorem ok124 (G : Nat → Option (List Tr)) : ∃ fn c, FOk (lay G) 124 A124 fn c := fok (fn := Tryz.f124) Tryz.func124 rfl chk124
theorem ok125 (G : Nat → Option (List Tr)) : ∃ fn c, FOk (lay G) 125 A125 fn c := fok (fn := Tryz.f125) Tryz.func125 rfl chk125
theorem ok126 (G : Nat → Option (List Tr)) : ∃ fn c, FOk (lay G) 126 A126 fn c := fok (fn := Tryz.f126) Tryz.func126 rfl chk126
theorem ok127 (G : Nat → Option (List Tr)) : ∃ fn c, FOk (lay G) 127 A127 fn c := fok (fn := Tryz.f127) Tryz.func127 rfl chk127
theorem ok128 (G : Nat → Option (List Tr)) : ∃ fn c, FOk (lay G) 128 A128 fn c := fok (fn := Tryz.f128) Tryz.func128 rfl chk128
theorem ok129 (G : Nat → Option (List Tr)) : ∃ fn c, FOk (lay G) 129 A129 fn c := fok (fn := Tryz.f129) Tryz.func129 rfl chk129
theorem ok130 (G : Nat → Option (List Tr)) : ∃ fn c, FOk (lay G) 130 A130 fn c := fok (fn := Tryz.f130) Tryz.func130 rfl chk130
theorem ok131 (G : Nat → Option (List Tr)) : ∃ fn c, FOk (lay G) 131 A131 fn c := fok (fn := Tryz.f131) Tryz.func131 rfl chk131
theorem ok132 (G : Nat → Option (List Tr)) : ∃ fn c, FOk (lay G) 132 A132 fn c := fok (fn := Tryz.f132) Tryz.func132 rfl chk132
theorem ok133 (G : Nat → Option (List Tr)) : ∃ fn c, FOk (lay G) 133 A133 fn c := fok (fn := Tryz.f133) Tryz.func133 rfl chk133
theorem ok134 (G : Nat → Option (List Tr)) : ∃ fn c, FOk (lay G) 134 A134 fn c := fok (fn := Tryz.f134) Tryz.func134 rfl chk134
theorem ok135 (G : Nat → Option (List Tr)) : ∃ fn c, FOk (lay G) 135 A135 fn c := fok (fn := Tryz.f135) Tryz.func135 rfl chk135
theorem ok136 (G : Nat → Option (List Tr)) : ∃ fn c, FOk (lay G) 136 A136 fn c := fok (fn := Tryz.f136) Tryz.func136 rfl chk136
theorem ok137 (G : Nat → Option (List Tr)) : ∃ fn c, FOk (lay G) 137 A137 fn c := fok (fn := Tryz.f137) Tryz.func137 rfl chk137
theorem ok138 (G : Nat → Option (List Tr)) : ∃ fn c, FOk (lay G) 138 A138 fn c := fok (fn := Tryz.f138) Tryz.func138 rfl chk138
theorem ok139 (G : Nat → Option (List Tr)) : ∃ fn c, FOk (lay G) 139 A139 fn c := fok (fn := Tryz.f139) Tryz.func139 rfl chk139
theorem ok140 (G : Nat → Option (List Tr)) : ∃ fn c, FOk (lay G) 140 A140 fn c := fok (fn := Tryz.f140) Tryz.func140 rfl chk140
theorem ok141 (G : Nat → Option (List Tr)) : ∃ fn c, FOk (lay G) 141 A141 fn c := fok (fn := Tryz.f141) Tryz.func141 rfl chk141
theorem ok142 (G : Nat → Option (List Tr)) : ∃ fn c, FOk (lay G) 142 A142 fn c := fok (fn := Tryz.f142) Tryz.func142 rfl chk142
theorem ok143 (G : Nat → Option (List Tr)) : ∃ fn c, FOk (lay G) 143 A143 fn c := fok (fn := Tryz.f143) Tryz.func143 rfl chk143
theorem ok144 (G : Nat → Option (List Tr)) : ∃ fn c, FOk (lay G) 144 A144 fn c := fok (fn := Tryz.f144) Tryz.func144 rfl chk144
theorem ok145 (G : Nat → Option (List Tr)) : ∃ fn c, FOk (lay G) 145 A145 fn c := fok (fn := Tryz.f145) Tryz.func145 rfl chk145
theorem ok146 (G : Nat → Option (List Tr)) : ∃ fn c, FOk (lay G) 146 A146 fn c := fok (fn := Tryz.f146) Tryz.func146 rfl chk146
theorem ok147 (G : Nat → Option (List Tr)) : ∃ fn c, FOk (lay G) 147 A147 fn c := fok (fn := Tryz.f147) Tryz.func147 rfl chk147
theorem ok148 (G : Nat → Option (List Tr)) : ∃ fn c, FOk (lay G) 148 A148 fn c := fok (fn := Tryz.f148) Tryz.func148 rfl chk148
theorem ok149 (G : Nat → Option (List Tr)) : ∃ fn c, FOk (lay G) 149 A149 fn c := fok (fn := Tryz.f149) Tryz.func149 rfl chk149
theorem ok150 (G : Nat → Option (List Tr)) : ∃ fn c, FOk (lay G) 150 A150 fn c := fok (fn := Tryz.f150) Tryz.func150 rfl chk150
theorem ok151 (G : Nat → Option (List Tr)) : ∃ fn c, FOk (lay G) 151 A151 fn c := fok (fn := Tryz.f151) Tryz.func151 rfl chk151
theorem ok152 (G : Nat → Option (List Tr)) : ∃ fn c, FOk (lay G) 152 A152 fn c := fok (fn := Tryz.f152) Tryz.func152 rfl chk152
theorem ok153 (G : Nat → Option (List Tr)) : ∃ fn c, FOk (lay G) 153 A153 fn c := fok (fn := Tryz.f153) Tryz.func153 rfl chk153
theorem ok154 (G : Nat → Option (List Tr)) : ∃ fn c, FOk (lay G) 154 A154 fn c := fok (fn := Tryz.f154) Tryz.func154 rfl chk154
theorem ok155 (G : Nat → Option (List Tr)) : ∃ fn c, FOk (lay G) 155 A155 fn c := fok (fn := Tryz.f155) Tryz.func155 rfl chk155
theorem ok156 (G : Nat → Option (List Tr)) : ∃ fn c, FOk (lay G) 156 A156 fn c := fok (fn := Tryz.f156) Tryz.func156 rfl chk156
theorem ok157 (G : Nat → Option (List Tr)) : ∃ fn c, FOk (lay G) 157 A157 fn c := fok (fn := Tryz.f157) Tryz.func157 rfl chk157
theorem ok158 (G : Nat → Option (List Tr)) : ∃ fn c, FOk (lay G) 158 A158 fn c := fok (fn := Tryz.f158) Tryz.func158 rfl chk158
theorem ok159 (G : Nat → Option (List Tr)) : ∃ fn c, FOk (lay G) 159 A159 fn c := fok (fn := Tryz.f159) Tryz.func159 rfl chk159
theorem ok160 (G : Nat → Option (List Tr)) : ∃ fn c, FOk (lay G) 160 A160 fn c := fok (fn := Tryz.f160) Tryz.func160 rfl chk160
theorem ok161 (G : Nat → Option (List Tr)) : ∃ fn c, FOk (lay G) 161 A161 fn c := fok (fn := Tryz.f161) Tryz.func161 rfl chk161
theorem ok162 (G : Nat → Option (List Tr)) : ∃ fn c, FOk (lay G) 162 A162 fn c := fok (fn := Tryz.f162) Tryz.func162 rfl chk162
theorem ok163 (G : Nat → Option (List Tr)) : ∃ fn c, FOk (lay G) 163 A163 fn c := fok (fn := Tryz.f163) Tryz.func163 rfl chk163
theorem ok164 (G : Nat → Option (List Tr)) : ∃ fn c, FOk (lay G) 164 A164 fn c := fok (fn := Tryz.f164) Tryz.func164 rfl chk164
theorem ok165 (G : Nat → Option (List Tr)) : ∃ fn c, FOk (lay G) 165 A165 fn c := fok (fn := Tryz.f165) Tryz.func165 rfl chk165
theorem ok167 (G : Nat → Option (List Tr)) : ∃ fn c, FOk (lay G) 167 A167 fn c := fok (fn := Tryz.f167) Tryz.func167 rfl chk167
theorem ok168 (G : Nat → Option (List Tr)) : ∃ fn c, FOk (lay G) 168 A168 fn c := fok (fn := Tryz.f168) Tryz.func168 rfl chk168
theorem ok169 (G : Nat → Option (List Tr)) : ∃ fn c, FOk (lay G) 169 A169 fn c := fok (fn := Tryz.f169) Tryz.func169 rfl chk169
theorem ok170 (G : Nat → Option (List Tr)) : ∃ fn c, FOk (lay G) 170 A170 fn c := fok (fn := Tryz.f170) Tryz.func170 rfl chk170

theorem lay_ok (G : Nat → Option (List Tr)) : LOk (lay G) := lok_of (P := Tryz.prog) (t := tblF) (G := G) ⟨ok3 G, ⟨ok4 G, ⟨ok5 G, ⟨ok8 G, ⟨ok9 G, ⟨ok10 G, ⟨ok11 G, ⟨ok12 G, ⟨ok13 G, ⟨ok14 G, ⟨ok15 G, ⟨ok16 G, ⟨ok17 G, ⟨ok18 G, ⟨ok19 G, ⟨ok22 G, ⟨ok23 G, ⟨ok24 G, ⟨ok25 G, ⟨ok26 G, ⟨ok27 G, ⟨ok28 G, ⟨ok29 G, ⟨ok30 G, ⟨ok31 G, ⟨ok32 G, ⟨ok33 G, ⟨ok34 G, ⟨ok35 G, ⟨ok36 G, ⟨ok37 G, ⟨ok38 G, ⟨ok39 G, ⟨ok40 G, ⟨ok41 G, ⟨ok42 G, ⟨ok43 G, ⟨ok44 G, ⟨ok45 G, ⟨ok46 G, ⟨ok47 G, ⟨ok48 G, ⟨ok49 G, ⟨ok50 G, ⟨ok51 G, ⟨ok52 G, ⟨ok53 G, ⟨ok54 G, ⟨ok55 G, ⟨ok56 G, ⟨ok57 G, ⟨ok58 G, ⟨ok59 G, ⟨ok60 G, ⟨ok61 G, ⟨ok62 G, ⟨ok63 G, ⟨ok64 G, ⟨ok65 G, ⟨ok66 G, ⟨ok67 G, ⟨ok68 G, ⟨ok69 G, ⟨ok70 G, ⟨ok71 G, ⟨ok72 G, ⟨ok73 G, ⟨ok74 G, ⟨ok75 G, ⟨ok76 G, ⟨ok77 G, ⟨ok78 G, ⟨ok79 G, ⟨ok80 G, ⟨ok81 G, ⟨ok82 G, ⟨ok83 G, ⟨ok84 G, ⟨ok85 G, ⟨ok86 G, ⟨ok87 G, ⟨ok88 G, ⟨ok89 G, ⟨ok90 G, ⟨ok91 G, ⟨ok92 G, ⟨ok98 G, ⟨ok99 G, ⟨ok100 G, ⟨ok101 G, ⟨ok102 G, ⟨ok103 G, ⟨ok104 G, ⟨ok105 G, ⟨ok106 G, ⟨ok107 G, ⟨ok108 G, ⟨ok109 G, ⟨ok110 G, ⟨ok111 G, ⟨ok112 G, ⟨ok113 G, ⟨ok114 G, ⟨ok115 G, ⟨ok116 G, ⟨ok117 G, ⟨ok118 G, ⟨ok119 G, ⟨ok120 G, ⟨ok121 G, ⟨ok122 G, ⟨ok123 G, ⟨ok124 G, ⟨ok125 G, ⟨ok126 G, ⟨ok127 G, ⟨ok128 G, ⟨ok129 G, ⟨ok130 G, ⟨ok131 G, ⟨ok132 G, ⟨ok133 G, ⟨ok134 G, ⟨ok135 G, ⟨ok136 G, ⟨ok137 G, ⟨ok138 G, ⟨ok139 G, ⟨ok140 G, ⟨ok141 G, ⟨ok142 G, ⟨ok143 G, ⟨ok144 G, ⟨ok145 G, ⟨ok146 G, ⟨ok147 G, ⟨ok148 G, ⟨ok149 G, ⟨ok150 G, ⟨ok151 G, ⟨ok152 G, ⟨ok153 G, ⟨ok154 G, ⟨ok155 G, ⟨ok156 G, ⟨ok157 G, ⟨ok158 G, ⟨ok159 G, ⟨ok160 G, ⟨ok161 G, ⟨ok162 G, ⟨ok163 G, ⟨ok164 G, ⟨ok165 G, ⟨ok167 G, ⟨ok168 G, ⟨ok169 G, ⟨ok170 G, trivial⟩⟩⟩⟩⟩⟩⟩⟩⟩⟩⟩⟩⟩⟩⟩⟩⟩⟩⟩⟩⟩⟩⟩⟩⟩⟩⟩⟩⟩⟩⟩⟩⟩⟩⟩⟩⟩⟩⟩⟩⟩⟩⟩⟩⟩⟩⟩⟩⟩⟩⟩⟩⟩⟩⟩⟩⟩⟩⟩⟩⟩⟩⟩⟩⟩⟩⟩⟩⟩⟩⟩⟩⟩⟩⟩⟩⟩⟩⟩⟩⟩⟩⟩⟩⟩⟩⟩⟩⟩⟩⟩⟩⟩⟩⟩⟩⟩⟩⟩⟩⟩⟩⟩⟩⟩⟩⟩⟩⟩⟩⟩⟩⟩⟩⟩⟩⟩⟩⟩⟩⟩⟩⟩⟩⟩⟩⟩⟩⟩⟩⟩⟩⟩⟩⟩⟩⟩⟩⟩⟩⟩⟩⟩⟩⟩⟩⟩⟩⟩⟩⟩⟩⟩⟩⟩⟩⟩⟩
abbrev ty_int : Nat := 3
def und_int := Tryz.underlying3
abbrev ty_bool : Nat := 4
def und_bool := Tryz.underlying4
abbrev ty_uint8 : Nat := 5
def und_uint8 := Tryz.underlying5
abbrev ty_string : Nat := 9
def und_string := Tryz.underlying9
abbrev ty_s_api_FuncType : Nat := 22
def und_s_api_FuncType := Tryz.underlying22
abbrev ty_s_api_Import : Nat := 23
def und_s_api_Import := Tryz.underlying23
abbrev ty_s_api_Code : Nat := 24
def und_s_api_Code := Tryz.underlying24
abbrev ty_s_api_TableType : Nat := 25
def und_s_api_TableType := Tryz.underlying25
abbrev ty_s_api_Limits : Nat := 26
def und_s_api_Limits := Tryz.underlying26
abbrev ty_s_api_Var : Nat := 27
def und_s_api_Var := Tryz.underlying27
abbrev ty_s_api_Export : Nat := 28
def und_s_api_Export := Tryz.underlying28
abbrev ty_s_api_Elem : Nat := 29
def und_s_api_Elem := Tryz.underlying29
abbrev ty_s_api_Data : Nat := 30
def und_s_api_Data := Tryz.underlying30
abbrev ty_api_Module : Nat := 32
def und_api_Module := Tryz.underlying32
abbrev ty_uint64 : Nat := 35
def und_uint64 := Tryz.underlying35
abbrev ty_s_int : Nat := 36
def und_s_int := Tryz.underlying36
abbrev ty_s_api_Instr : Nat := 37
def und_s_api_Instr := Tryz.underlying37
abbrev ty_api_Instr : Nat := 39
def und_api_Instr := Tryz.underlying39
abbrev ty_api_Code : Nat := 42
def und_api_Code := Tryz.underlying42
abbrev ty_api_GlobalType : Nat := 44
def und_api_GlobalType := Tryz.underlying44
abbrev ty_api_Var : Nat := 46
def und_api_Var := Tryz.underlying46
abbrev ty_api_FuncType : Nat := 56
def und_api_FuncType := Tryz.underlying56
abbrev ty_api_Limits : Nat := 58
def und_api_Limits := Tryz.underlying58
abbrev ty_api_TableType : Nat := 60
def und_api_TableType := Tryz.underlying60
abbrev ty_api_Import : Nat := 62
def und_api_Import := Tryz.underlying62
abbrev ty_api_Export : Nat := 64
def und_api_Export := Tryz.underlying64
abbrev ty_s_s_api_Instr : Nat := 65
def und_s_s_api_Instr := Tryz.underlying65
abbrev ty_api_Elem : Nat := 67
def und_api_Elem := Tryz.underlying67
abbrev ty_s_uint8 : Nat := 68
def und_s_uint8 := Tryz.underlying68
abbrev ty_api_Data : Nat := 70
def und_api_Data := Tryz.underlying70
abbrev ty_s_string : Nat := 160
def und_s_string := Tryz.underlying160
abbrev g_ops_more : Nat := 0
abbrev g_strings_asciiSpace : Nat := 1
abbrev g_unicode_White_Space : Nat := 2
abbrev g_unicode__White_Space : Nat := 3
end Go.Proofs.YtbabbianbhcjiaaGreatDoor
