/- The laid functions are the translation's: each by the kernel. -/
import Derived.Test.YtgehpjjpeddomaaGreatDoorZEvLay
import Derived.Test.YtgehpjjpeddomaaGreatDoorZEvCode
import Derived.Test.YtgehpjjpeddomaaGreatDoorProg
import Derived.KernelRfl
set_option linter.all false
namespace Go.Proofs.YtgehpjjpeddomaaGreatDoor
open Go
set_option maxRecDepth 100000

theorem chk4 : A4.form Tryz.prog = formOf Tryz.prog Tryz.f4 := by kernel_rfl
theorem chk6 : A6.form Tryz.prog = formOf Tryz.prog Tryz.f6 := by kernel_rfl
theorem chk7 : A7.form Tryz.prog = formOf Tryz.prog Tryz.f7 := by kernel_rfl
theorem chk14 : A14.form Tryz.prog = formOf Tryz.prog Tryz.f14 := by kernel_rfl
theorem chk16 : A16.form Tryz.prog = formOf Tryz.prog Tryz.f16 := by kernel_rfl
theorem chk18 : A18.form Tryz.prog = formOf Tryz.prog Tryz.f18 := by kernel_rfl
theorem chk19 : A19.form Tryz.prog = formOf Tryz.prog Tryz.f19 := by kernel_rfl
theorem chk20 : A20.form Tryz.prog = formOf Tryz.prog Tryz.f20 := by kernel_rfl
theorem chk21 : A21.form Tryz.prog = formOf Tryz.prog Tryz.f21 := by kernel_rfl
theorem chk27 : A27.form Tryz.prog = formOf Tryz.prog Tryz.f27 := by kernel_rfl
theorem chk30 : A30.form Tryz.prog = formOf Tryz.prog Tryz.f30 := by kernel_rfl
theorem chk31 : A31.form Tryz.prog = formOf Tryz.prog Tryz.f31 := by kernel_rfl
theorem chk32 : A32.form Tryz.prog = formOf Tryz.prog Tryz.f32 := by kernel_rfl
theorem chk33 : A33.form Tryz.prog = formOf Tryz.prog Tryz.f33 := by kernel_rfl
theorem chk34 : A34.form Tryz.prog = formOf Tryz.prog Tryz.f34 := by kernel_rfl
theorem chk35 : A35.form Tryz.prog = formOf Tryz.prog Tryz.f35 := by kernel_rfl
theorem chk36 : A36.form Tryz.prog = formOf Tryz.prog Tryz.f36 := by kernel_rfl
theorem chk37 : A37.form Tryz.prog = formOf Tryz.prog Tryz.f37 := by kernel_rfl
theorem chk38 : A38.form Tryz.prog = formOf Tryz.prog Tryz.f38 := by kernel_rfl
theorem chk39 : A39.form Tryz.prog = formOf Tryz.prog Tryz.f39 := by kernel_rfl
theorem chk40 : A40.form Tryz.prog = formOf Tryz.prog Tryz.f40 := by kernel_rfl
theorem chk41 : A41.form Tryz.prog = formOf Tryz.prog Tryz.f41 := by kernel_rfl
theorem chk42 : A42.form Tryz.prog = formOf Tryz.prog Tryz.f42 := by kernel_rfl
theorem chk43 : A43.form Tryz.prog = formOf Tryz.prog Tryz.f43 := by kernel_rfl
theorem chk44 : A44.form Tryz.prog = formOf Tryz.prog Tryz.f44 := by kernel_rfl
theorem chk45 : A45.form Tryz.prog = formOf Tryz.prog Tryz.f45 := by kernel_rfl
theorem chk46 : A46.form Tryz.prog = formOf Tryz.prog Tryz.f46 := by kernel_rfl
theorem chk47 : A47.form Tryz.prog = formOf Tryz.prog Tryz.f47 := by kernel_rfl
theorem chk48 : A48.form Tryz.prog = formOf Tryz.prog Tryz.f48 := by kernel_rfl
theorem chk49 : A49.form Tryz.prog = formOf Tryz.prog Tryz.f49 := by kernel_rfl
theorem chk50 : A50.form Tryz.prog = formOf Tryz.prog Tryz.f50 := by kernel_rfl
theorem chk51 : A51.form Tryz.prog = formOf Tryz.prog Tryz.f51 := by kernel_rfl
theorem chk52 : A52.form Tryz.prog = formOf Tryz.prog Tryz.f52 := by kernel_rfl
theorem chk53 : A53.form Tryz.prog = formOf Tryz.prog Tryz.f53 := by kernel_rfl
theorem chk54 : A54.form Tryz.prog = formOf Tryz.prog Tryz.f54 := by kernel_rfl
theorem chk55 : A55.form Tryz.prog = formOf Tryz.prog Tryz.f55 := by kernel_rfl
theorem chk56 : A56.form Tryz.prog = formOf Tryz.prog Tryz.f56 := by kernel_rfl
theorem chk61 : A61.form Tryz.prog = formOf Tryz.prog Tryz.f61 := by kernel_rfl
theorem chk63 : A63.form Tryz.prog = formOf Tryz.prog Tryz.f63 := by kernel_rfl
theorem chk64 : A64.form Tryz.prog = formOf Tryz.prog Tryz.f64 := by kernel_rfl
theorem chk65 : A65.form Tryz.prog = formOf Tryz.prog Tryz.f65 := by kernel_rfl
theorem chk66 : A66.form Tryz.prog = formOf Tryz.prog Tryz.f66 := by kernel_rfl
theorem chk82 : A82.form Tryz.prog = formOf Tryz.prog Tryz.f82 := by kernel_rfl
theorem chk84 : A84.form Tryz.prog = formOf Tryz.prog Tryz.f84 := by kernel_rfl
theorem chk88 : A88.form Tryz.prog = formOf Tryz.prog Tryz.f88 := by kernel_rfl
theorem chk94 : A94.form Tryz.prog = formOf Tryz.prog Tryz.f94 := by kernel_rfl
theorem chk95 : A95.form Tryz.prog = formOf Tryz.prog Tryz.f95 := by kernel_rfl
theorem chk96 : A96.form Tryz.prog = formOf Tryz.prog Tryz.f96 := by kernel_rfl
theorem chk97 : A97.form Tryz.prog = formOf Tryz.prog Tryz.f97 := by kernel_rfl
theorem chk98 : A98.form Tryz.prog = formOf Tryz.prog Tryz.f98 := by kernel_rfl
theorem chk99 : A99.form Tryz.prog = formOf Tryz.prog Tryz.f99 := by kernel_rfl
theorem chk100 : A100.form Tryz.prog = formOf Tryz.prog Tryz.f100 := by kernel_rfl
theorem chk101 : A101.form Tryz.prog = formOf Tryz.prog Tryz.f101 := by kernel_rfl
theorem chk102 : A102.form Tryz.prog = formOf Tryz.prog Tryz.f102 := by kernel_rfl
theorem chk103 : A103.form Tryz.prog = formOf Tryz.prog Tryz.f103 := by kernel_rfl
theorem chk104 : A104.form Tryz.prog = formOf Tryz.prog Tryz.f104 := by kernel_rfl
theorem chk105 : A105.form Tryz.prog = formOf Tryz.prog Tryz.f105 := by kernel_rfl
theorem chk106 : A106.form Tryz.prog = formOf Tryz.prog Tryz.f106 := by kernel_rfl
theorem chk107 : A107.form Tryz.prog = formOf Tryz.prog Tryz.f107 := by kernel_rfl
theorem chk108 : A108.form Tryz.prog = formOf Tryz.prog Tryz.f108 := by kernel_rfl
theorem chk109 : A109.form Tryz.prog = formOf Tryz.prog Tryz.f109 := by kernel_rfl
theorem chk110 : A110.form Tryz.prog = formOf Tryz.prog Tryz.f110 := by kernel_rfl
theorem chk111 : A111.form Tryz.prog = formOf Tryz.prog Tryz.f111 := by kernel_rfl
theorem chk112 : A112.form Tryz.prog = formOf Tryz.prog Tryz.f112 := by kernel_rfl
theorem chk113 : A113.form Tryz.prog = formOf Tryz.prog Tryz.f113 := by kernel_rfl
theorem chk114 : A114.form Tryz.prog = formOf Tryz.prog Tryz.f114 := by kernel_rfl
theorem chk115 : A115.form Tryz.prog = formOf Tryz.prog Tryz.f115 := by kernel_rfl
theorem chk116 : A116.form Tryz.prog = formOf Tryz.prog Tryz.f116 := by kernel_rfl
theorem chk117 : A117.form Tryz.prog = formOf Tryz.prog Tryz.f117 := by kernel_rfl
theorem chk118 : A118.form Tryz.prog = formOf Tryz.prog Tryz.f118 := by kernel_rfl
theorem chk119 : A119.form Tryz.prog = formOf Tryz.prog Tryz.f119 := by kernel_rfl
theorem chk120 : A120.form Tryz.prog = formOf Tryz.prog Tryz.f120 := by kernel_rfl
theorem chk121 : A121.form Tryz.prog = formOf Tryz.prog Tryz.f121 := by kernel_rfl
theorem chk122 : A122.form Tryz.prog = formOf Tryz.prog Tryz.f122 := by kernel_rfl
theorem chk123 : A123.form Tryz.prog = formOf Tryz.prog Tryz.f123 := by kernel_rfl
theorem chk124 : A124.form Tryz.prog = formOf Tryz.prog Tryz.f124 := by kernel_rfl
theorem chk125 : A125.form Tryz.prog = formOf Tryz.prog Tryz.f125 := by kernel_rfl
theorem chk126 : A126.form Tryz.prog = formOf Tryz.prog Tryz.f126 := by kernel_rfl
theorem chk127 : A127.form Tryz.prog = formOf Tryz.prog Tryz.f127 := by kernel_rfl
theorem chk128 : A128.form Tryz.prog = formOf Tryz.prog Tryz.f128 := by kernel_rfl
theorem chk129 : A129.form Tryz.prog = formOf Tryz.prog Tryz.f129 := by kernel_rfl
theorem chk130 : A130.form Tryz.prog = formOf Tryz.prog Tryz.f130 := by kernel_rfl
theorem chk131 : A131.form Tryz.prog = formOf Tryz.prog Tryz.f131 := by kernel_rfl
theorem chk132 : A132.form Tryz.prog = formOf Tryz.prog Tryz.f132 := by kernel_rfl
theorem chk133 : A133.form Tryz.prog = formOf Tryz.prog Tryz.f133 := by kernel_rfl
theorem chk134 : A134.form Tryz.prog = formOf Tryz.prog Tryz.f134 := by kernel_rfl
theorem chk135 : A135.form Tryz.prog = formOf Tryz.prog Tryz.f135 := by kernel_rfl
theorem chk136 : A136.form Tryz.prog = formOf Tryz.prog Tryz.f136 := by kernel_rfl
theorem chk137 : A137.form Tryz.prog = formOf Tryz.prog Tryz.f137 := by kernel_rfl
theorem chk142 : A142.form Tryz.prog = formOf Tryz.prog Tryz.f142 := by kernel_rfl
theorem chk143 : A143.form Tryz.prog = formOf Tryz.prog Tryz.f143 := by kernel_rfl
theorem chk144 : A144.form Tryz.prog = formOf Tryz.prog Tryz.f144 := by kernel_rfl
theorem chk169 : A169.form Tryz.prog = formOf Tryz.prog Tryz.f169 := by kernel_rfl
theorem chk170 : A170.form Tryz.prog = formOf Tryz.prog Tryz.f170 := by kernel_rfl
theorem chk175 : A175.form Tryz.prog = formOf Tryz.prog Tryz.f175 := by kernel_rfl
theorem chk176 : A176.form Tryz.prog = formOf Tryz.prog Tryz.f176 := by kernel_rfl
theorem chk177 : A177.form Tryz.prog = formOf Tryz.prog Tryz.f177 := by kernel_rfl
theorem chk178 : A178.form Tryz.prog = formOf Tryz.prog Tryz.f178 := by kernel_rfl
theorem chk179 : A179.form Tryz.prog = formOf Tryz.prog Tryz.f179 := by kernel_rfl
theorem chk180 : A180.form Tryz.prog = formOf Tryz.prog Tryz.f180 := by kernel_rfl
theorem chk181 : A181.form Tryz.prog = formOf Tryz.prog Tryz.f181 := by kernel_rfl
theorem chk182 : A182.form Tryz.prog = formOf Tryz.prog Tryz.f182 := by kernel_rfl
theorem chk183 : A183.form Tryz.prog = formOf Tryz.prog Tryz.f183 := by kernel_rfl
theorem chk184 : A184.form Tryz.prog = formOf Tryz.prog Tryz.f184 := by kernel_rfl
theorem chk185 : A185.form Tryz.prog = formOf Tryz.prog Tryz.f185 := by kernel_rfl
theorem chk186 : A186.form Tryz.prog = formOf Tryz.prog Tryz.f186 := by kernel_rfl
theorem chk187 : A187.form Tryz.prog = formOf Tryz.prog Tryz.f187 := by kernel_rfl
theorem chk188 : A188.form Tryz.prog = formOf Tryz.prog Tryz.f188 := by kernel_rfl
theorem chk189 : A189.form Tryz.prog = formOf Tryz.prog Tryz.f189 := by kernel_rfl
theorem chk190 : A190.form Tryz.prog = formOf Tryz.prog Tryz.f190 := by kernel_rfl
theorem chk191 : A191.form Tryz.prog = formOf Tryz.prog Tryz.f191 := by kernel_rfl
theorem chk192 : A192.form Tryz.prog = formOf Tryz.prog Tryz.f192 := by kernel_rfl
theorem chk193 : A193.form Tryz.prog = formOf Tryz.prog Tryz.f193 := by kernel_rfl
theorem chk194 : A194.form Tryz.prog = formOf Tryz.prog Tryz.f194 := by kernel_rfl
theorem chk195 : A195.form Tryz.prog = formOf Tryz.prog Tryz.f195 := by kernel_rfl
theorem chk196 : A196.form Tryz.prog = formOf Tryz.prog Tryz.f196 := by kernel_rfl
theorem chk197 : A197.form Tryz.prog = formOf Tryz.prog Tryz.f197 := by kernel_rfl
theorem chk198 : A198.form Tryz.prog = formOf Tryz.prog Tryz.f198 := by kernel_rfl
theorem chk199 : A199.form Tryz.prog = formOf Tryz.prog Tryz.f199 := by kernel_rfl
theorem chk200 : A200.form Tryz.prog = formOf Tryz.prog Tryz.f200 := by kernel_rfl
theorem chk201 : A201.form Tryz.prog = formOf Tryz.prog Tryz.f201 := by kernel_rfl
theorem chk202 : A202.form Tryz.prog = formOf Tryz.prog Tryz.f202 := by kernel_rfl
theorem chk203 : A203.form Tryz.prog = formOf Tryz.prog Tryz.f203 := by kernel_rfl
theorem chk204 : A204.form Tryz.prog = formOf Tryz.prog Tryz.f204 := by kernel_rfl
theorem chk205 : A205.form Tryz.prog = formOf Tryz.prog Tryz.f205 := by kernel_rfl
theorem chk212 : A212.form Tryz.prog = formOf Tryz.prog Tryz.f212 := by kernel_rfl
theorem chk213 : A213.form Tryz.prog = formOf Tryz.prog Tryz.f213 := by kernel_rfl
theorem chk214 : A214.form Tryz.prog = formOf Tryz.prog Tryz.f214 := by kernel_rfl
theorem chk215 : A215.form Tryz.prog = formOf Tryz.prog Tryz.f215 := by kernel_rfl
theorem chk216 : A216.form Tryz.prog = formOf Tryz.prog Tryz.f216 := by kernel_rfl
theorem chk217 : A217.form Tryz.prog = formOf Tryz.prog Tryz.f217 := by kernel_rfl
theorem chk223 : A223.form Tryz.prog = formOf Tryz.prog Tryz.f223 := by kernel_rfl
theorem chk224 : A224.form Tryz.prog = formOf Tryz.prog Tryz.f224 := by kernel_rfl
theorem chk225 : A225.form Tryz.prog = formOf Tryz.prog Tryz.f225 := by kernel_rfl
theorem chk226 : A226.form Tryz.prog = formOf Tryz.prog Tryz.f226 := by kernel_rfl
theorem chk227 : A227.form Tryz.prog = formOf Tryz.prog Tryz.f227 := by kernel_rfl
theorem chk228 : A228.form Tryz.prog = formOf Tryz.prog Tryz.f228 := by kernel_rfl
theorem chk229 : A229.form Tryz.prog = formOf Tryz.prog Tryz.f229 := by kernel_rfl
theorem chk230 : A230.form Tryz.prog = formOf Tryz.prog Tryz.f230 := by kernel_rfl
theorem chk231 : A231.form Tryz.prog = formOf Tryz.prog Tryz.f231 := by kernel_rfl
theorem chk232 : A232.form Tryz.prog = formOf Tryz.prog Tryz.f232 := by kernel_rfl
theorem chk233 : A233.form Tryz.prog = formOf Tryz.prog Tryz.f233 := by kernel_rfl
theorem chk234 : A234.form Tryz.prog = formOf Tryz.prog Tryz.f234 := by kernel_rfl
theorem chk235 : A235.form Tryz.prog = formOf Tryz.prog Tryz.f235 := by kernel_rfl
theorem chk236 : A236.form Tryz.prog = formOf Tryz.prog Tryz.f236 := by kernel_rfl
theorem chk237 : A237.form Tryz.prog = formOf Tryz.prog Tryz.f237 := by kernel_rfl
theorem chk238 : A238.form Tryz.prog = formOf Tryz.prog Tryz.f238 := by kernel_rfl
theorem chk239 : A239.form Tryz.prog = formOf Tryz.prog Tryz.f239 := by kernel_rfl
theorem chk240 : A240.form Tryz.prog = formOf Tryz.prog Tryz.f240 := by kernel_rfl
theorem chk241 : A241.form Tryz.prog = formOf Tryz.prog Tryz.f241 := by kernel_rfl
theorem chk242 : A242.form Tryz.prog = formOf Tryz.prog Tryz.f242 := by kernel_rfl
theorem chk243 : A243.form Tryz.prog = formOf Tryz.prog Tryz.f243 := by kernel_rfl
theorem chk244 : A244.form Tryz.prog = formOf Tryz.prog Tryz.f244 := by kernel_rfl
theorem chk245 : A245.form Tryz.prog = formOf Tryz.prog Tryz.f245 := by kernel_rfl
theorem chk246 : A246.form Tryz.prog = formOf Tryz.prog Tryz.f246 := by kernel_rfl
theorem chk258 : A258.form Tryz.prog = formOf Tryz.prog Tryz.f258 := by kernel_rfl
theorem chk262 : A262.form Tryz.prog = formOf Tryz.prog Tryz.f262 := by kernel_rfl
theorem chk263 : A263.form Tryz.prog = formOf Tryz.prog Tryz.f263 := by kernel_rfl
theorem chk264 : A264.form Tryz.prog = formOf Tryz.prog Tryz.f264 := by kernel_rfl
theorem chk265 : A265.form Tryz.prog = formOf Tryz.prog Tryz.f265 := by kernel_rfl
theorem chk266 : A266.form Tryz.prog = formOf Tryz.prog Tryz.f266 := by kernel_rfl
theorem chk267 : A267.form Tryz.prog = formOf Tryz.prog Tryz.f267 := by kernel_rfl
theorem chk268 : A268.form Tryz.prog = formOf Tryz.prog Tryz.f268 := by kernel_rfl
theorem chk269 : A269.form Tryz.prog = formOf Tryz.prog Tryz.f269 := by kernel_rfl
theorem chk270 : A270.form Tryz.prog = formOf Tryz.prog Tryz.f270 := by kernel_rfl
theorem chk277 : A277.form Tryz.prog = formOf Tryz.prog Tryz.f277 := by kernel_rfl
theorem chk278 : A278.form Tryz.prog = formOf Tryz.prog Tryz.f278 := by kernel_rfl
theorem chk279 : A279.form Tryz.prog = formOf Tryz.prog Tryz.f279 := by kernel_rfl
theorem chk281 : A281.form Tryz.prog = formOf Tryz.prog Tryz.f281 := by kernel_rfl
theorem chk283 : A283.form Tryz.prog = formOf Tryz.prog Tryz.f283 := by kernel_rfl
theorem chk284 : A284.form Tryz.prog = formOf Tryz.prog Tryz.f284 := by kernel_rfl
theorem chk285 : A285.form Tryz.prog = formOf Tryz.prog Tryz.f285 := by kernel_rfl

noncomputable abbrev lay (G : Nat → Option (List Tr)) : Lay := ⟨Tryz.prog, fun n => tblF.getD n none, G⟩

theorem ok4 (G : Nat → Option (List Tr)) : ∃ fn c, FOk (lay G) 4 A4 fn c := fok (fn := Tryz.f4) Tryz.func4 rfl chk4
theorem ok6 (G : Nat → Option (List Tr)) : ∃ fn c, FOk (lay G) 6 A6 fn c := fok (fn := Tryz.f6) Tryz.func6 rfl chk6
theorem ok7 (G : Nat → Option (List Tr)) : ∃ fn c, FOk (lay G) 7 A7 fn c := fok (fn := Tryz.f7) Tryz.func7 rfl chk7
theorem ok14 (G : Nat → Option (List Tr)) : ∃ fn c, FOk (lay G) 14 A14 fn c := fok (fn := Tryz.f14) Tryz.func14 rfl chk14
theorem ok16 (G : Nat → Option (List Tr)) : ∃ fn c, FOk (lay G) 16 A16 fn c := fok (fn := Tryz.f16) Tryz.func16 rfl chk16
theorem ok18 (G : Nat → Option (List Tr)) : ∃ fn c, FOk (lay G) 18 A18 fn c := fok (fn := Tryz.f18) Tryz.func18 rfl chk18
theorem ok19 (G : Nat → Option (List Tr)) : ∃ fn c, FOk (lay G) 19 A19 fn c := fok (fn := Tryz.f19) Tryz.func19 rfl chk19
theorem ok20 (G : Nat → Option (List Tr)) : ∃ fn c, FOk (lay G) 20 A20 fn c := fok (fn := Tryz.f20) Tryz.func20 rfl chk20
theorem ok21 (G : Nat → Option (List Tr)) : ∃ fn c, FOk (lay G) 21 A21 fn c := fok (fn := Tryz.f21) Tryz.func21 rfl chk21
theorem ok27 (G : Nat → Option (List Tr)) : ∃ fn c, FOk (lay G) 27 A27 fn c := fok (fn := Tryz.f27) Tryz.func27 rfl chk27
theorem ok30 (G : Nat → Option (List Tr)) : ∃ fn c, FOk (lay G) 30 A30 fn c := fok (fn := Tryz.f30) Tryz.func30 rfl chk30
theorem ok31 (G : Nat → Option (List Tr)) : ∃ fn c, FOk (lay G) 31 A31 fn c := fok (fn := Tryz.f31) Tryz.func31 rfl chk31
theorem ok32 (G : Nat → Option (List Tr)) : ∃ fn c, FOk (lay G) 32 A32 fn c := fok (fn := Tryz.f32) Tryz.func32 rfl chk32
theorem ok33 (G : Nat → Option (List Tr)) : ∃ fn c, FOk (lay G) 33 A33 fn c := fok (fn := Tryz.f33) Tryz.func33 rfl chk33
theorem ok34 (G : Nat → Option (List Tr)) : ∃ fn c, FOk (lay G) 34 A34 fn c := fok (fn := Tryz.f34) Tryz.func34 rfl chk34
theorem ok35 (G : Nat → Option (List Tr)) : ∃ fn c, FOk (lay G) 35 A35 fn c := fok (fn := Tryz.f35) Tryz.func35 rfl chk35
theorem ok36 (G : Nat → Option (List Tr)) : ∃ fn c, FOk (lay G) 36 A36 fn c := fok (fn := Tryz.f36) Tryz.func36 rfl chk36
theorem ok37 (G : Nat → Option (List Tr)) : ∃ fn c, FOk (lay G) 37 A37 fn c := fok (fn := Tryz.f37) Tryz.func37 rfl chk37
theorem ok38 (G : Nat → Option (List Tr)) : ∃ fn c, FOk (lay G) 38 A38 fn c := fok (fn := Tryz.f38) Tryz.func38 rfl chk38
theorem ok39 (G : Nat → Option (List Tr)) : ∃ fn c, FOk (lay G) 39 A39 fn c := fok (fn := Tryz.f39) Tryz.func39 rfl chk39
theorem ok40 (G : Nat → Option (List Tr)) : ∃ fn c, FOk (lay G) 40 A40 fn c := fok (fn := Tryz.f40) Tryz.func40 rfl chk40
theorem ok41 (G : Nat → Option (List Tr)) : ∃ fn c, FOk (lay G) 41 A41 fn c := fok (fn := Tryz.f41) Tryz.func41 rfl chk41
theorem ok42 (G : Nat → Option (List Tr)) : ∃ fn c, FOk (lay G) 42 A42 fn c := fok (fn := Tryz.f42) Tryz.func42 rfl chk42
theorem ok43 (G : Nat → Option (List Tr)) : ∃ fn c, FOk (lay G) 43 A43 fn c := fok (fn := Tryz.f43) Tryz.func43 rfl chk43
theorem ok44 (G : Nat → Option (List Tr)) : ∃ fn c, FOk (lay G) 44 A44 fn c := fok (fn := Tryz.f44) Tryz.func44 rfl chk44
theorem ok45 (G : Nat → Option (List Tr)) : ∃ fn c, FOk (lay G) 45 A45 fn c := fok (fn := Tryz.f45) Tryz.func45 rfl chk45
theorem ok46 (G : Nat → Option (List Tr)) : ∃ fn c, FOk (lay G) 46 A46 fn c := fok (fn := Tryz.f46) Tryz.func46 rfl chk46
theorem ok47 (G : Nat → Option (List Tr)) : ∃ fn c, FOk (lay G) 47 A47 fn c := fok (fn := Tryz.f47) Tryz.func47 rfl chk47
theorem ok48 (G : Nat → Option (List Tr)) : ∃ fn c, FOk (lay G) 48 A48 fn c := fok (fn := Tryz.f48) Tryz.func48 rfl chk48
theorem ok49 (G : Nat → Option (List Tr)) : ∃ fn c, FOk (lay G) 49 A49 fn c := fok (fn := Tryz.f49) Tryz.func49 rfl chk49
theorem ok50 (G : Nat → Option (List Tr)) : ∃ fn c, FOk (lay G) 50 A50 fn c := fok (fn := Tryz.f50) Tryz.func50 rfl chk50
theorem ok51 (G : Nat → Option (List Tr)) : ∃ fn c, FOk (lay G) 51 A51 fn c := fok (fn := Tryz.f51) Tryz.func51 rfl chk51
theorem ok52 (G : Nat → Option (List Tr)) : ∃ fn c, FOk (lay G) 52 A52 fn c := fok (fn := Tryz.f52) Tryz.func52 rfl chk52
theorem ok53 (G : Nat → Option (List Tr)) : ∃ fn c, FOk (lay G) 53 A53 fn c := fok (fn := Tryz.f53) Tryz.func53 rfl chk53
theorem ok54 (G : Nat → Option (List Tr)) : ∃ fn c, FOk (lay G) 54 A54 fn c := fok (fn := Tryz.f54) Tryz.func54 rfl chk54
theorem ok55 (G : Nat → Option (List Tr)) : ∃ fn c, FOk (lay G) 55 A55 fn c := fok (fn := Tryz.f55) Tryz.func55 rfl chk55
theorem ok56 (G : Nat → Option (List Tr)) : ∃ fn c, FOk (lay G) 56 A56 fn c := fok (fn := Tryz.f56) Tryz.func56 rfl chk56
theorem ok61 (G : Nat → Option (List Tr)) : ∃ fn c, FOk (lay G) 61 A61 fn c := fok (fn := Tryz.f61) Tryz.func61 rfl chk61
theorem ok63 (G : Nat → Option (List Tr)) : ∃ fn c, FOk (lay G) 63 A63 fn c := fok (fn := Tryz.f63) Tryz.func63 rfl chk63
theorem ok64 (G : Nat → Option (List Tr)) : ∃ fn c, FOk (lay G) 64 A64 fn c := fok (fn := Tryz.f64) Tryz.func64 rfl chk64
theorem ok65 (G : Nat → Option (List Tr)) : ∃ fn c, FOk (lay G) 65 A65 fn c := fok (fn := Tryz.f65) Tryz.func65 rfl chk65
theorem ok66 (G : Nat → Option (List Tr)) : ∃ fn c, FOk (lay G) 66 A66 fn c := fok (fn := Tryz.f66) Tryz.func66 rfl chk66
theorem ok82 (G : Nat → Option (List Tr)) : ∃ fn c, FOk (lay G) 82 A82 fn c := fok (fn := Tryz.f82) Tryz.func82 rfl chk82
theorem ok84 (G : Nat → Option (List Tr)) : ∃ fn c, FOk (lay G) 84 A84 fn c := fok (fn := Tryz.f84) Tryz.func84 rfl chk84
theorem ok88 (G : Nat → Option (List Tr)) : ∃ fn c, FOk (lay G) 88 A88 fn c := fok (fn := Tryz.f88) Tryz.func88 rfl chk88
theorem ok94 (G : Nat → Option (List Tr)) : ∃ fn c, FOk (lay G) 94 A94 fn c := fok (fn := Tryz.f94) Tryz.func94 rfl chk94
theorem ok95 (G : Nat → Option (List Tr)) : ∃ fn c, FOk (lay G) 95 A95 fn c := fok (fn := Tryz.f95) Tryz.func95 rfl chk95
theorem ok96 (G : Nat → Option (List Tr)) : ∃ fn c, FOk (lay G) 96 A96 fn c := fok (fn := Tryz.f96) Tryz.func96 rfl chk96
theorem ok97 (G : Nat → Option (List Tr)) : ∃ fn c, FOk (lay G) 97 A97 fn c := fok (fn := Tryz.f97) Tryz.func97 rfl chk97
theorem ok98 (G : Nat → Option (List Tr)) : ∃ fn c, FOk (lay G) 98 A98 fn c := fok (fn := Tryz.f98) Tryz.func98 rfl chk98
theorem ok99 (G : Nat → Option (List Tr)) : ∃ fn c, FOk (lay G) 99 A99 fn c := fok (fn := Tryz.f99) Tryz.func99 rfl chk99
theorem ok100 (G : Nat → Option (List Tr)) : ∃ fn c, FOk (lay G) 100 A100 fn c := fok (fn := Tryz.f100) Tryz.func100 rfl chk100
theorem ok101 (G : Nat → Option (List Tr)) : ∃ fn c, FOk (lay G) 101 A101 fn c := fok (fn := Tryz.f101) Tryz.func101 rfl chk101
theorem ok102 (G : Nat → Option (List Tr)) : ∃ fn c, FOk (lay G) 102 A102 fn c := fok (fn := Tryz.f102) Tryz.func102 rfl chk102
theorem ok103 (G : Nat → Option (List Tr)) : ∃ fn c, FOk (lay G) 103 A103 fn c := fok (fn := Tryz.f103) Tryz.func103 rfl chk103
theorem ok104 (G : Nat → Option (List Tr)) : ∃ fn c, FOk (lay G) 104 A104 fn c := fok (fn := Tryz.f104) Tryz.func104 rfl chk104
theorem ok105 (G : Nat → Option (List Tr)) : ∃ fn c, FOk (lay G) 105 A105 fn c := fok (fn := Tryz.f105) Tryz.func105 rfl chk105
theorem ok106 (G : Nat → Option (List Tr)) : ∃ fn c, FOk (lay G) 106 A106 fn c := fok (fn := Tryz.f106) Tryz.func106 rfl chk106
theorem ok107 (G : Nat → Option (List Tr)) : ∃ fn c, FOk (lay G) 107 A107 fn c := fok (fn := Tryz.f107) Tryz.func107 rfl chk107
theorem ok108 (G : Nat → Option (List Tr)) : ∃ fn c, FOk (lay G) 108 A108 fn c := fok (fn := Tryz.f108) Tryz.func108 rfl chk108
theorem ok109 (G : Nat → Option (List Tr)) : ∃ fn c, FOk (lay G) 109 A109 fn c := fok (fn := Tryz.f109) Tryz.func109 rfl chk109
theorem ok110 (G : Nat → Option (List Tr)) : ∃ fn c, FOk (lay G) 110 A110 fn c := fok (fn := Tryz.f110) Tryz.func110 rfl chk110
theorem ok111 (G : Nat → Option (List Tr)) : ∃ fn c, FOk (lay G) 111 A111 fn c := fok (fn := Tryz.f111) Tryz.func111 rfl chk111
theorem ok112 (G : Nat → Option (List Tr)) : ∃ fn c, FOk (lay G) 112 A112 fn c := fok (fn := Tryz.f112) Tryz.func112 rfl chk112
theorem ok113 (G : Nat → Option (List Tr)) : ∃ fn c, FOk (lay G) 113 A113 fn c := fok (fn := Tryz.f113) Tryz.func113 rfl chk113
theorem ok114 (G : Nat → Option (List Tr)) : ∃ fn c, FOk (lay G) 114 A114 fn c := fok (fn := Tryz.f114) Tryz.func114 rfl chk114
theorem ok115 (G : Nat → Option (List Tr)) : ∃ fn c, FOk (lay G) 115 A115 fn c := fok (fn := Tryz.f115) Tryz.func115 rfl chk115
theorem ok116 (G : Nat → Option (List Tr)) : ∃ fn c, FOk (lay G) 116 A116 fn c := fok (fn := Tryz.f116) Tryz.func116 rfl chk116
theorem ok117 (G : Nat → Option (List Tr)) : ∃ fn c, FOk (lay G) 117 A117 fn c := fok (fn := Tryz.f117) Tryz.func117 rfl chk117
theorem ok118 (G : Nat → Option (List Tr)) : ∃ fn c, FOk (lay G) 118 A118 fn c := fok (fn := Tryz.f118) Tryz.func118 rfl chk118
theorem ok119 (G : Nat → Option (List Tr)) : ∃ fn c, FOk (lay G) 119 A119 fn c := fok (fn := Tryz.f119) Tryz.func119 rfl chk119
theorem ok120 (G : Nat → Option (List Tr)) : ∃ fn c, FOk (lay G) 120 A120 fn c := fok (fn := Tryz.f120) Tryz.func120 rfl chk120
theorem ok121 (G : Nat → Option (List Tr)) : ∃ fn c, FOk (lay G) 121 A121 fn c := fok (fn := Tryz.f121) Tryz.func121 rfl chk121
theorem ok122 (G : Nat → Option (List Tr)) : ∃ fn c, FOk (lay G) 122 A122 fn c := fok (fn := Tryz.f122) Tryz.func122 rfl chk122
theorem ok123 (G : Nat → Option (List Tr)) : ∃ fn c, FOk (lay G) 123 A123 fn c := fok (fn := Tryz.f123) Tryz.func123 rfl chk123
theorem ok124 (G : Nat → Option (List Tr)) : ∃ fn c, FOk (lay G) 124 A124 fn c := fok (fn := Tryz.f124) Tryz.func124 rfl chk124
theorem ok125 (G : Nat → Option (List Tr)) : ∃ fn c, FOk (lay G) 125 A125 fn c := fok (fn := Tryz.f125) Tryz.func125 rfl chk125
theorem ok126 (G : Nat → Option (List Tr)) : ∃ fn c, FOk (lay G) 126 A126 fn c := fok (fn := Tryz.f126) Tryz.func126 rfl chk126
theorem ok127 (G : Nat → Option (List Tr)) : ∃ fn c, FOk (lay G) 127 A127 fn c := fok (fn := Tryz.f127) Tryz.func127 rfl chk127
theorem ok128 (G : Nat → Option (List Tr)) : ∃ fn c, FOk (lay G) 128 A128 fn c := fok (fn := Tryz.f128) Tryz.func128 rfl chk128
theorem ok129 (G : Nat → Option (List Tr)) : ∃ fn c, FOk (lay G) 129 A129 fn c := fok (fn := Tryz.f129) Tryz.func129 rfl chk129
theorem ok130 (G : Nat → Option (List Tr)) : ∃ fn c, FOk (lay G) 130 A130 fn c := fok (fn := Tryz.f130) Tryz.func130 rfl chk130
theorem ok131 (G : Nat → Option (List Tr)) : ∃ fn c, FOk (lay G) 131 A131 fn c := fok (fn := Tryz.f131) Tryz.func131 rfl chk131
theorem ok132 (G : Nat → Option (List Tr)) : ∃ fn c, FOk (lay G) 132 A132 fn c := fok (fn := Tryz.f132) Tryz.func132 rfl chk132
theorem ok133 (G : Nat → Option (List Tr)) : ∃ fn c, FOk (lay G) 133 A133 fn c := fok (fn := Tryz.f133) Tryz.func133 rfl chk133
theorem ok134 (G : Nat → Option (List Tr)) : ∃ fn c, FOk (lay G) 134 A134 fn c := fok (fn := Tryz.f134) Tryz.func134 rfl chk134
theorem ok135 (G : Nat → Option (List Tr)) : ∃ fn c, FOk (lay G) 135 A135 fn c := fok (fn := Tryz.f135) Tryz.func135 rfl chk135
theorem ok136 (G : Nat → Option (List Tr)) : ∃ fn c, FOk (lay G) 136 A136 fn c := fok (fn := Tryz.f136) Tryz.func136 rfl chk136
theorem ok137 (G : Nat → Option (List Tr)) : ∃ fn c, FOk (lay G) 137 A137 fn c := fok (fn := Tryz.f137) Tryz.func137 rfl chk137
theorem ok142 (G : Nat → Option (List Tr)) : ∃ fn c, FOk (lay G) 142 A142 fn c := fok (fn := Tryz.f142) Tryz.func142 rfl chk142
theorem ok143 (G : Nat → Option (List Tr)) : ∃ fn c, FOk (lay G) 143 A143 fn c := fok (fn := Tryz.f143) Tryz.func143 rfl chk143
theorem ok144 (G : Nat → Option (List Tr)) : ∃ fn c, FOk (lay G) 144 A144 fn c := fok (fn := Tryz.f144) Tryz.func144 rfl chk144
theorem ok169 (G : Nat → Option (List Tr)) : ∃ fn c, FOk (lay G) 169 A169 fn c := fok (fn := Tryz.f169) Tryz.func169 rfl chk169
theorem ok170 (G : Nat → Option (List Tr)) : ∃ fn c, FOk (lay G) 170 A170 fn c := fok (fn := Tryz.f170) Tryz.func170 rfl chk170
theorem ok175 (G : Nat → Option (List Tr)) : ∃ fn c, FOk (lay G) 175 A175 fn c := fok (fn := Tryz.f175) Tryz.func175 rfl chk175
theorem ok176 (G : Nat → Option (List Tr)) : ∃ fn c, FOk (lay G) 176 A176 fn c := fok (fn := Tryz.f176) Tryz.func176 rfl chk176
theorem ok177 (G : Nat → Option (List Tr)) : ∃ fn c, FOk (lay G) 177 A177 fn c := fok (fn := Tryz.f177) Tryz.func177 rfl chk177
theorem ok178 (G : Nat → Option (List Tr)) : ∃ fn c, FOk (lay G) 178 A178 fn c := fok (fn := Tryz.f178) Tryz.func178 rfl chk178
theorem ok179 (G : Nat → Option (List Tr)) : ∃ fn c, FOk (lay G) 179 A179 fn c := fok (fn := Tryz.f179) Tryz.func179 rfl chk179
theorem ok180 (G : Nat → Option (List Tr)) : ∃ fn c, FOk (lay G) 180 A180 fn c := fok (fn := Tryz.f180) Tryz.func180 rfl chk180
theorem ok181 (G : Nat → Option (List Tr)) : ∃ fn c, FOk (lay G) 181 A181 fn c := fok (fn := Tryz.f181) Tryz.func181 rfl chk181
theorem ok182 (G : Nat → Option (List Tr)) : ∃ fn c, FOk (lay G) 182 A182 fn c := fok (fn := Tryz.f182) Tryz.func182 rfl chk182
theorem ok183 (G : Nat → Option (List Tr)) : ∃ fn c, FOk (lay G) 183 A183 fn c := fok (fn := Tryz.f183) Tryz.func183 rfl chk183
theorem ok184 (G : Nat → Option (List Tr)) : ∃ fn c, FOk (lay G) 184 A184 fn c := fok (fn := Tryz.f184) Tryz.func184 rfl chk184
theorem ok185 (G : Nat → Option (List Tr)) : ∃ fn c, FOk (lay G) 185 A185 fn c := fok (fn := Tryz.f185) Tryz.func185 rfl chk185
theorem ok186 (G : Nat → Option (List Tr)) : ∃ fn c, FOk (lay G) 186 A186 fn c := fok (fn := Tryz.f186) Tryz.func186 rfl chk186
theorem ok187 (G : Nat → Option (List Tr)) : ∃ fn c, FOk (lay G) 187 A187 fn c := fok (fn := Tryz.f187) Tryz.func187 rfl chk187
theorem ok188 (G : Nat → Option (List Tr)) : ∃ fn c, FOk (lay G) 188 A188 fn c := fok (fn := Tryz.f188) Tryz.func188 rfl chk188
theorem ok189 (G : Nat → Option (List Tr)) : ∃ fn c, FOk (lay G) 189 A189 fn c := fok (fn := Tryz.f189) Tryz.func189 rfl chk189
theorem ok190 (G : Nat → Option (List Tr)) : ∃ fn c, FOk (lay G) 190 A190 fn c := fok (fn := Tryz.f190) Tryz.func190 rfl chk190
theorem ok191 (G : Nat → Option (List Tr)) : ∃ fn c, FOk (lay G) 191 A191 fn c := fok (fn := Tryz.f191) Tryz.func191 rfl chk191
theorem ok192 (G : Nat → Option (List Tr)) : ∃ fn c, FOk (lay G) 192 A192 fn c := fok (fn := Tryz.f192) Tryz.func192 rfl chk192
theorem ok193 (G : Nat → Option (List Tr)) : ∃ fn c, FOk (lay G) 193 A193 fn c := fok (fn := Tryz.f193) Tryz.func193 rfl chk193
theorem ok194 (G : Nat → Option (List Tr)) : ∃ fn c, FOk (lay G) 194 A194 fn c := fok (fn := Tryz.f194) Tryz.func194 rfl chk194
theorem ok195 (G : Nat → Option (List Tr)) : ∃ fn c, FOk (lay G) 195 A195 fn c := fok (fn := Tryz.f195) Tryz.func195 rfl chk195
theorem ok196 (G : Nat → Option (List Tr)) : ∃ fn c, FOk (lay G) 196 A196 fn c := fok (fn := Tryz.f196) Tryz.func196 rfl chk196
theorem ok197 (G : Nat → Option (List Tr)) : ∃ fn c, FOk (lay G) 197 A197 fn c := fok (fn := Tryz.f197) Tryz.func197 rfl chk197
theorem ok198 (G : Nat → Option (List Tr)) : ∃ fn c, FOk (lay G) 198 A198 fn c := fok (fn := Tryz.f198) Tryz.func198 rfl chk198
theorem ok199 (G : Nat → Option (List Tr)) : ∃ fn c, FOk (lay G) 199 A199 fn c := fok (fn := Tryz.f199) Tryz.func199 rfl chk199
theorem ok200 (G : Nat → Option (List Tr)) : ∃ fn c, FOk (lay G) 200 A200 fn c := fok (fn := Tryz.f200) Tryz.func200 rfl chk200
theorem ok201 (G : Nat → Option (List Tr)) : ∃ fn c, FOk (lay G) 201 A201 fn c := fok (fn := Tryz.f201) Tryz.func201 rfl chk201
theorem ok202 (G : Nat → Option (List Tr)) : ∃ fn c, FOk (lay G) 202 A202 fn c := fok (fn := Tryz.f202) Tryz.func202 rfl chk202
theorem ok203 (G : Nat → Option (List Tr)) : ∃ fn c, FOk (lay G) 203 A203 fn c := fok (fn := Tryz.f203) Tryz.func203 rfl chk203
theorem ok204 (G : Nat → Option (List Tr)) : ∃ fn c, FOk (lay G) 204 A204 fn c := fok (fn := Tryz.f204) Tryz.func204 rfl chk204
theorem ok205 (G : Nat → Option (List Tr)) : ∃ fn c, FOk (lay G) 205 A205 fn c := fok (fn := Tryz.f205) Tryz.func205 rfl chk205
theorem ok212 (G : Nat → Option (List Tr)) : ∃ fn c, FOk (lay G) 212 A212 fn c := fok (fn := Tryz.f212) Tryz.func212 rfl chk212
theorem ok213 (G : Nat → Option (List Tr)) : ∃ fn c, FOk (lay G) 213 A213 fn c := fok (fn := Tryz.f213) Tryz.func213 rfl chk213
theorem ok214 (G : Nat → Option (List Tr)) : ∃ fn c, FOk (lay G) 214 A214 fn c := fok (fn := Tryz.f214) Tryz.func214 rfl chk214
theorem ok215 (G : Nat → Option (List Tr)) : ∃ fn c, FOk (lay G) 215 A215 fn c := fok (fn := Tryz.f215) Tryz.func215 rfl chk215
theorem ok216 (G : Nat → Option (List Tr)) : ∃ fn c, FOk (lay G) 216 A216 fn c := fok (fn := Tryz.f216) Tryz.func216 rfl chk216
theorem ok217 (G : Nat → Option (List Tr)) : ∃ fn c, FOk (lay G) 217 A217 fn c := fok (fn := Tryz.f217) Tryz.func217 rfl chk217
theorem ok223 (G : Nat → Option (List Tr)) : ∃ fn c, FOk (lay G) 223 A223 fn c := fok (fn := Tryz.f223) Tryz.func223 rfl chk223
theorem ok224 (G : Nat → Option (List Tr)) : ∃ fn c, FOk (lay G) 224 A224 fn c := fok (fn := Tryz.f224) Tryz.func224 rfl chk224
theorem ok225 (G : Nat → Option (List Tr)) : ∃ fn c, FOk (lay G) 225 A225 fn c := fok (fn := Tryz.f225) Tryz.func225 rfl chk225
theorem ok226 (G : Nat → Option (List Tr)) : ∃ fn c, FOk (lay G) 226 A226 fn c := fok (fn := Tryz.f226) Tryz.func226 rfl chk226
theorem ok227 (G : Nat → Option (List Tr)) : ∃ fn c, FOk (lay G) 227 A227 fn c := fok (fn := Tryz.f227) Tryz.func227 rfl chk227
theorem ok228 (G : Nat → Option (List Tr)) : ∃ fn c, FOk (lay G) 228 A228 fn c := fok (fn := Tryz.f228) Tryz.func228 rfl chk228
theorem ok229 (G : Nat → Option (List Tr)) : ∃ fn c, FOk (lay G) 229 A229 fn c := fok (fn := Tryz.f229) Tryz.func229 rfl chk229
theorem ok230 (G : Nat → Option (List Tr)) : ∃ fn c, FOk (lay G) 230 A230 fn c := fok (fn := Tryz.f230) Tryz.func230 rfl chk230
theorem ok231 (G : Nat → Option (List Tr)) : ∃ fn c, FOk (lay G) 231 A231 fn c := fok (fn := Tryz.f231) Tryz.func231 rfl chk231
theorem ok232 (G : Nat → Option (List Tr)) : ∃ fn c, FOk (lay G) 232 A232 fn c := fok (fn := Tryz.f232) Tryz.func232 rfl chk232
theorem ok233 (G : Nat → Option (List Tr)) : ∃ fn c, FOk (lay G) 233 A233 fn c := fok (fn := Tryz.f233) Tryz.func233 rfl chk233
theorem ok234 (G : Nat → Option (List Tr)) : ∃ fn c, FOk (lay G) 234 A234 fn c := fok (fn := Tryz.f234) Tryz.func234 rfl chk234
theorem ok235 (G : Nat → Option (List Tr)) : ∃ fn c, FOk (lay G) 235 A235 fn c := fok (fn := Tryz.f235) Tryz.func235 rfl chk235
theorem ok236 (G : Nat → Option (List Tr)) : ∃ fn c, FOk (lay G) 236 A236 fn c := fok (fn := Tryz.f236) Tryz.func236 rfl chk236
theorem ok237 (G : Nat → Option (List Tr)) : ∃ fn c, FOk (lay G) 237 A237 fn c := fok (fn := Tryz.f237) Tryz.func237 rfl chk237
theorem ok238 (G : Nat → Option (List Tr)) : ∃ fn c, FOk (lay G) 238 A238 fn c := fok (fn := Tryz.f238) Tryz.func238 rfl chk238
theorem ok239 (G : Nat → Option (List Tr)) : ∃ fn c, FOk (lay G) 239 A239 fn c := fok (fn := Tryz.f239) Tryz.func239 rfl chk239
theorem ok240 (G : Nat → Option (List Tr)) : ∃ fn c, FOk (lay G) 240 A240 fn c := fok (fn := Tryz.f240) Tryz.func240 rfl chk240
theorem ok241 (G : Nat → Option (List Tr)) : ∃ fn c, FOk (lay G) 241 A241 fn c := fok (fn := Tryz.f241) Tryz.func241 rfl chk241
theorem ok242 (G : Nat → Option (List Tr)) : ∃ fn c, FOk (lay G) 242 A242 fn c := fok (fn := Tryz.f242) Tryz.func242 rfl chk242
theorem ok243 (G : Nat → Option (List Tr)) : ∃ fn c, FOk (lay G) 243 A243 fn c := fok (fn := Tryz.f243) Tryz.func243 rfl chk243
theorem ok244 (G : Nat → Option (List Tr)) : ∃ fn c, FOk (lay G) 244 A244 fn c := fok (fn := Tryz.f244) Tryz.func244 rfl chk244
theorem ok245 (G : Nat → Option (List Tr)) : ∃ fn c, FOk (lay G) 245 A245 fn c := fok (fn := Tryz.f245) Tryz.func245 rfl chk245
theorem ok246 (G : Nat → Option (List Tr)) : ∃ fn c, FOk (lay G) 246 A246 fn c := fok (fn := Tryz.f246) Tryz.func246 rfl chk246
theorem ok258 (G : Nat → Option (List Tr)) : ∃ fn c, FOk (lay G) 258 A258 fn c := fok (fn := Tryz.f258) Tryz.func258 rfl chk258
theorem ok262 (G : Nat → Option (List Tr)) : ∃ fn c, FOk (lay G) 262 A262 fn c := fok (fn := Tryz.f262) Tryz.func262 rfl chk262
theorem ok263 (G : Nat → Option (List Tr)) : ∃ fn c, FOk (lay G) 263 A263 fn c := fok (fn := Tryz.f263) Tryz.func263 rfl chk263
theorem ok264 (G : Nat → Option (List Tr)) : ∃ fn c, FOk (lay G) 264 A264 fn c := fok (fn := Tryz.f264) Tryz.func264 rfl chk264
theorem ok265 (G : Nat → Option (List Tr)) : ∃ fn c, FOk (lay G) 265 A265 fn c := fok (fn := Tryz.f265) Tryz.func265 rfl chk265
theorem ok266 (G : Nat → Option (List Tr)) : ∃ fn c, FOk (lay G) 266 A266 fn c := fok (fn := Tryz.f266) Tryz.func266 rfl chk266
theorem ok267 (G : Nat → Option (List Tr)) : ∃ fn c, FOk (lay G) 267 A267 fn c := fok (fn := Tryz.f267) Tryz.func267 rfl chk267
theorem ok268 (G : Nat → Option (List Tr)) : ∃ fn c, FOk (lay G) 268 A268 fn c := fok (fn := Tryz.f268) Tryz.func268 rfl chk268
theorem ok269 (G : Nat → Option (List Tr)) : ∃ fn c, FOk (lay G) 269 A269 fn c := fok (fn := Tryz.f269) Tryz.func269 rfl chk269
theorem ok270 (G : Nat → Option (List Tr)) : ∃ fn c, FOk (lay G) 270 A270 fn c := fok (fn := Tryz.f270) Tryz.func270 rfl chk270
theorem ok277 (G : Nat → Option (List Tr)) : ∃ fn c, FOk (lay G) 277 A277 fn c := fok (fn := Tryz.f277) Tryz.func277 rfl chk277
theorem ok278 (G : Nat → Option (List Tr)) : ∃ fn c, FOk (lay G) 278 A278 fn c := fok (fn := Tryz.f278) Tryz.func278 rfl chk278
theorem ok279 (G : Nat → Option (List Tr)) : ∃ fn c, FOk (lay G) 279 A279 fn c := fok (fn := Tryz.f279) Tryz.func279 rfl chk279
theorem ok281 (G : Nat → Option (List Tr)) : ∃ fn c, FOk (lay G) 281 A281 fn c := fok (fn := Tryz.f281) Tryz.func281 rfl chk281
theorem ok283 (G : Nat → Option (List Tr)) : ∃ fn c, FOk (lay G) 283 A283 fn c := fok (fn := Tryz.f283) Tryz.func283 rfl chk283
theorem ok284 (G : Nat → Option (List Tr)) : ∃ fn c, FOk (lay G) 284 A284 fn c := fok (fn := Tryz.f284) Tryz.func284 rfl chk284
theorem ok285 (G : Nat → Option (List Tr)) : ∃ fn c, FOk (lay G) 285 A285 fn c := fok (fn := Tryz.f285) Tryz.func285 rfl chk285

theorem lay_ok (G : Nat → Option (List Tr)) : LOk (lay G) := lok_of (P := Tryz.prog) (t := tblF) (G := G) ⟨ok4 G, ⟨ok6 G, ⟨ok7 G, ⟨ok14 G, ⟨ok16 G, ⟨ok18 G, ⟨ok19 G, ⟨ok20 G, ⟨ok21 G, ⟨ok27 G, ⟨ok30 G, ⟨ok31 G, ⟨ok32 G, ⟨ok33 G, ⟨ok34 G, ⟨ok35 G, ⟨ok36 G, ⟨ok37 G, ⟨ok38 G, ⟨ok39 G, ⟨ok40 G, ⟨ok41 G, ⟨ok42 G, ⟨ok43 G, ⟨ok44 G, ⟨ok45 G, ⟨ok46 G, ⟨ok47 G, ⟨ok48 G, ⟨ok49 G, ⟨ok50 G, ⟨ok51 G, ⟨ok52 G, ⟨ok53 G, ⟨ok54 G, ⟨ok55 G, ⟨ok56 G, ⟨ok61 G, ⟨ok63 G, ⟨ok64 G, ⟨ok65 G, ⟨ok66 G, ⟨ok82 G, ⟨ok84 G, ⟨ok88 G, ⟨ok94 G, ⟨ok95 G, ⟨ok96 G, ⟨ok97 G, ⟨ok98 G, ⟨ok99 G, ⟨ok100 G, ⟨ok101 G, ⟨ok102 G, ⟨ok103 G, ⟨ok104 G, ⟨ok105 G, ⟨ok106 G, ⟨ok107 G, ⟨ok108 G, ⟨ok109 G, ⟨ok110 G, ⟨ok111 G, ⟨ok112 G, ⟨ok113 G, ⟨ok114 G, ⟨ok115 G, ⟨ok116 G, ⟨ok117 G, ⟨ok118 G, ⟨ok119 G, ⟨ok120 G, ⟨ok121 G, ⟨ok122 G, ⟨ok123 G, ⟨ok124 G, ⟨ok125 G, ⟨ok126 G, ⟨ok127 G, ⟨ok128 G, ⟨ok129 G, ⟨ok130 G, ⟨ok131 G, ⟨ok132 G, ⟨ok133 G, ⟨ok134 G, ⟨ok135 G, ⟨ok136 G, ⟨ok137 G, ⟨ok142 G, ⟨ok143 G, ⟨ok144 G, ⟨ok169 G, ⟨ok170 G, ⟨ok175 G, ⟨ok176 G, ⟨ok177 G, ⟨ok178 G, ⟨ok179 G, ⟨ok180 G, ⟨ok181 G, ⟨ok182 G, ⟨ok183 G, ⟨ok184 G, ⟨ok185 G, ⟨ok186 G, ⟨ok187 G, ⟨ok188 G, ⟨ok189 G, ⟨ok190 G, ⟨ok191 G, ⟨ok192 G, ⟨ok193 G, ⟨ok194 G, ⟨ok195 G, ⟨ok196 G, ⟨ok197 G, ⟨ok198 G, ⟨ok199 G, ⟨ok200 G, ⟨ok201 G, ⟨ok202 G, ⟨ok203 G, ⟨ok204 G, ⟨ok205 G, ⟨ok212 G, ⟨ok213 G, ⟨ok214 G, ⟨ok215 G, ⟨ok216 G, ⟨ok217 G, ⟨ok223 G, ⟨ok224 G, ⟨ok225 G, ⟨ok226 G, ⟨ok227 G, ⟨ok228 G, ⟨ok229 G, ⟨ok230 G, ⟨ok231 G, ⟨ok232 G, ⟨ok233 G, ⟨ok234 G, ⟨ok235 G, ⟨ok236 G, ⟨ok237 G, ⟨ok238 G, ⟨ok239 G, ⟨ok240 G, ⟨ok241 G, ⟨ok242 G, ⟨ok243 G, ⟨ok244 G, ⟨ok245 G, ⟨ok246 G, ⟨ok258 G, ⟨ok262 G, ⟨ok263 G, ⟨ok264 G, ⟨ok265 G, ⟨ok266 G, ⟨ok267 G, ⟨ok268 G, ⟨ok269 G, ⟨ok270 G, ⟨ok277 G, ⟨ok278 G, ⟨ok279 G, ⟨ok281 G, ⟨ok283 G, ⟨ok284 G, ⟨ok285 G, trivial⟩⟩⟩⟩⟩⟩⟩⟩⟩⟩⟩⟩⟩⟩⟩⟩⟩⟩⟩⟩⟩⟩⟩⟩⟩⟩⟩⟩⟩⟩⟩⟩⟩⟩⟩⟩⟩⟩⟩⟩⟩⟩⟩⟩⟩⟩⟩⟩⟩⟩⟩⟩⟩⟩⟩⟩⟩⟩⟩⟩⟩⟩⟩⟩⟩⟩⟩⟩⟩⟩⟩⟩⟩⟩⟩⟩⟩⟩⟩⟩⟩⟩⟩⟩⟩⟩⟩⟩⟩⟩⟩⟩⟩⟩⟩⟩⟩⟩⟩⟩⟩⟩⟩⟩⟩⟩⟩⟩⟩⟩⟩⟩⟩⟩⟩⟩⟩⟩⟩⟩⟩⟩⟩⟩⟩⟩⟩⟩⟩⟩⟩⟩⟩⟩⟩⟩⟩⟩⟩⟩⟩⟩⟩⟩⟩⟩⟩⟩⟩⟩⟩⟩⟩⟩⟩⟩⟩⟩⟩⟩⟩⟩⟩⟩⟩⟩⟩⟩⟩⟩⟩⟩
abbrev ty_int64 : Nat := 2
def und_int64 := Tryz.underlying2
abbrev ty_int : Nat := 3
def und_int := Tryz.underlying3
abbrev ty_bool : Nat := 4
def und_bool := Tryz.underlying4
abbrev ty_uint8 : Nat := 5
def und_uint8 := Tryz.underlying5
abbrev ty_string : Nat := 9
def und_string := Tryz.underlying9
abbrev ty_int32 : Nat := 21
def und_int32 := Tryz.underlying21
abbrev ty_s_api_FuncType : Nat := 22
def und_s_api_FuncType := Tryz.underlying22
abbrev ty_s_api_Import : Nat := 23
def und_s_api_Import := Tryz.underlying23
abbrev ty_s_api_Code : Nat := 24
def und_s_api_Code := Tryz.underlying24
abbrev ty_s_api_TableType : Nat := 25
def und_s_api_TableType := Tryz.underlying25
abbrev ty_s_api_Limits : Nat := 26
def und_s_api_Limits := Tryz.underlying26
abbrev ty_s_api_Var : Nat := 27
def und_s_api_Var := Tryz.underlying27
abbrev ty_s_api_Export : Nat := 28
def und_s_api_Export := Tryz.underlying28
abbrev ty_s_api_Elem : Nat := 29
def und_s_api_Elem := Tryz.underlying29
abbrev ty_s_api_Data : Nat := 30
def und_s_api_Data := Tryz.underlying30
abbrev ty_api_Module : Nat := 32
def und_api_Module := Tryz.underlying32
abbrev ty_s_uint8 : Nat := 35
def und_s_uint8 := Tryz.underlying35
abbrev ty_api_Errno : Nat := 36
def und_api_Errno := Tryz.underlying36
abbrev ty_s_api_Instr : Nat := 39
def und_s_api_Instr := Tryz.underlying39
abbrev ty_uint64 : Nat := 44
def und_uint64 := Tryz.underlying44
abbrev ty_s_int : Nat := 45
def und_s_int := Tryz.underlying45
abbrev ty_api_Instr : Nat := 47
def und_api_Instr := Tryz.underlying47
abbrev ty_s_s_api_Instr : Nat := 50
def und_s_s_api_Instr := Tryz.underlying50
abbrev ty_api_Elem : Nat := 52
def und_api_Elem := Tryz.underlying52
abbrev ty_api_Data : Nat := 54
def und_api_Data := Tryz.underlying54
abbrev ty_api_Code : Nat := 56
def und_api_Code := Tryz.underlying56
abbrev ty_api_FuncType : Nat := 68
def und_api_FuncType := Tryz.underlying68
abbrev ty_api_Limits : Nat := 70
def und_api_Limits := Tryz.underlying70
abbrev ty_api_TableType : Nat := 72
def und_api_TableType := Tryz.underlying72
abbrev ty_api_GlobalType : Nat := 74
def und_api_GlobalType := Tryz.underlying74
abbrev ty_api_Import : Nat := 76
def und_api_Import := Tryz.underlying76
abbrev ty_api_Export : Nat := 78
def und_api_Export := Tryz.underlying78
abbrev ty_api_Var : Nat := 80
def und_api_Var := Tryz.underlying80
abbrev ty_uint : Nat := 214
def und_uint := Tryz.underlying214
abbrev ty_s_string : Nat := 223
def und_s_string := Tryz.underlying223
abbrev ty_uint32 : Nat := 254
def und_uint32 := Tryz.underlying254
abbrev g_ops_more : Nat := 0
abbrev g_strings_asciiSpace : Nat := 1
abbrev g_unicode_White_Space : Nat := 2
abbrev g_unicode__White_Space : Nat := 3
end Go.Proofs.YtgehpjjpeddomaaGreatDoor
