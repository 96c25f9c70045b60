/- What the first functions of the program compute; no conditions beyond the hypotheses named. -/
import Derived.Test.YtggpohgoebicjaaGreatDoorEvE
import Derived.Test.YtggpohgoebicjaaGreatDoorRows
import Derived.KernelRfl
import Derived.IntWalk
set_option linter.all false
namespace Go.Proofs.YtggpohgoebicjaaGreatDoor
open Go Go.Ev

theorem names_ok : NamesOK Tryz.prog := by
  intro f fn hf
  have h : Tryz.prog.funcs.all (fun fn => !(fn.name == "runtime.NumGoroutine")) = true := by kernel_rfl
  have h2 := Array.all_eq_true_iff_forall_mem.1 h fn (Array.mem_of_getElem? hf)
  simpa using h2

theorem mixed : Tryz.prog.follows .mixedOrders = true := by kernel_rfl

def forms : List (List UInt8 × List UInt8) := [([110, 111, 112], []), ([99, 111, 110, 115, 116], [65, 73]), ([109, 111, 118, 101], [65, 66]), ([], [65, 66, 67]), ([106, 117, 109, 112], [73]), ([122, 101, 114, 111], [65, 73]),
  ([110, 111, 110, 122, 101, 114, 111], [65, 73]), ([98, 101, 103, 105, 110], [73]), ([99, 111, 109, 109, 105, 116], []), ([97, 98, 111, 114, 116], []), ([116, 114, 101, 97, 100], [65, 66, 73]), ([116, 119, 114, 105, 116, 101], [65, 66, 73]),
  ([112, 114, 101, 97, 100], [65, 66, 73]), ([112, 119, 114, 105, 116, 101], [65, 66, 73]), ([97, 108, 108, 111, 99], [65, 73]), ([102, 114, 101, 101], [65]), ([102, 101, 110, 99, 101], []), ([111, 117, 116, 99, 111, 109, 101], [65])]

def formsV : List Value := forms.flatMap pairV

theorem forms_of_laid {W : World} (h : laidMetH Tryz.prog [("strongtx/isa.forms", Rows.laid_strongtx_isa_forms)] W) : ∃ t, W.heap[0]? = some (.cells formsV.toArray t (0, 0)) := by
  have h' : laidMet Tryz.prog [("strongtx/isa.forms", Rows.laid_strongtx_isa_forms)] W := h
  obtain ⟨ps, ⟨g, t, cs, fuel, p, q, hg, ht, hv, htrod, hq, hps⟩, _, hall⟩ := h'
  obtain rfl : g = 0 := (Option.some.inj ((show Tryz.prog.globalNamed "strongtx/isa.forms" = some 0 by kernel_rfl).symm.trans hg)).symm
  obtain rfl : t = 275 := (Option.some.inj ((show (Tryz.prog.globals[0]?).map (·.type) = some 275 by kernel_rfl).symm.trans ht)).symm
  have hcs : cs.toList = formsV := pairs_of_trod (P := Tryz.prog) (e := 274) (ts := 9) (n := 18) (f0 := { name := "name", type := 9, offset := 0, embedded := false, tag := "", pkgPath := "strongtx/isa", byteOffset := 0 }) (f1 := { name := "operands", type := 9, offset := 1, embedded := false, tag := "", pkgPath := "strongtx/isa", byteOffset := 16 }) (fs := #[{ name := "name", type := 9, offset := 0, embedded := false, tag := "", pkgPath := "strongtx/isa", byteOffset := 0 }, { name := "operands", type := 9, offset := 1, embedded := false, tag := "", pkgPath := "strongtx/isa", byteOffset := 16 }])
    (by kernel_rfl) (by kernel_rfl) rfl rfl rfl rfl rfl (by kernel_rfl) (by kernel_rfl) (by kernel_rfl) (by kernel_rfl) (l := forms) rfl htrod
  have hmem : MemPlace.cell 0 0 ∈ ps := by
    rw [hps]
    refine List.mem_append.2 (.inl (List.mem_append.2 (.inl ?_)))
    have : cs.size = 36 := by
      have h := congrArg List.length hcs
      rw [Array.length_toList] at h
      exact h
    rw [this]
    decide
  obtain ⟨⟨c, t', hc⟩, _⟩ := hall 0 0 hmem
  refine ⟨t', ?_⟩
  have : c = cs := by
    simp only [World.var?, hg, Option.bind_some, hc] at hv
    exact Option.some.inj hv
  rw [hc, this, ← hcs]
end Go.Proofs.YtggpohgoebicjaaGreatDoor

namespace Go.Proofs.YtggpohgoebicjaaGreatDoor
open Go Go.Ev
def mk0 (f : Nat) : Nat := (bif Nat.ble 218 f then (bif Nat.ble 326 f then (bif Nat.ble 380 f then (bif Nat.ble 407 f then (bif Nat.ble 420 f then (bif Nat.ble 427 f then (bif Nat.ble 430 f then (bif Nat.ble 432 f then (bif Nat.ble 433 f then 524287 else 0) else 0) else 0) else 0) else (bif Nat.ble 413 f then 0 else (bif Nat.ble 410 f then (bif Nat.ble 411 f then 0 else 268434432) else (bif Nat.ble 408 f then (bif Nat.ble 409 f then 120 else 56) else 68719474688)))) else (bif Nat.ble 393 f then (bif Nat.ble 400 f then (bif Nat.ble 403 f then (bif Nat.ble 405 f then (bif Nat.ble 406 f then 32640 else 8589934584) else (bif Nat.ble 404 f then 120 else 75557863725914323418112)) else (bif Nat.ble 401 f then (bif Nat.ble 402 f then 549755813376 else 0) else 4722366482869645213568)) else (bif Nat.ble 396 f then (bif Nat.ble 398 f then (bif Nat.ble 399 f then 120 else 2) else (bif Nat.ble 397 f then 240 else 32736)) else (bif Nat.ble 394 f then (bif Nat.ble 395 f then 33554424 else 524280) else 374144419156711147060143317175368453031918730997760))) else (bif Nat.ble 386 f then (bif Nat.ble 389 f then (bif Nat.ble 391 f then (bif Nat.ble 392 f then 19342813113834066795296768 else 131040) else (bif Nat.ble 390 f then 10889035741470030830827987437816582764544 else 4294967040)) else (bif Nat.ble 387 f then (bif Nat.ble 388 f then 143552238122426368 else 36893488147419101184) else 72057594037925888)) else (bif Nat.ble 383 f then (bif Nat.ble 384 f then (bif Nat.ble 385 f then 562949953421056 else 2417851639229258349410304) else 56) else (bif Nat.ble 381 f then (bif Nat.ble 382 f then 0 else 224) else 56))))) else (bif Nat.ble 353 f then (bif Nat.ble 366 f then (bif Nat.ble 373 f then (bif Nat.ble 376 f then (bif Nat.ble 378 f then (bif Nat.ble 379 f then 134217664 else 992) else (bif Nat.ble 377 f then 504 else 274877906912)) else (bif Nat.ble 374 f then (bif Nat.ble 375 f then 0 else 274877906912) else 0)) else (bif Nat.ble 369 f then (bif Nat.ble 371 f then (bif Nat.ble 372 f then 248 else 21778071482940061661655974875633165008896) else (bif Nat.ble 370 f then 224 else 11150372599265311570767859136324180752973824)) else (bif Nat.ble 367 f then (bif Nat.ble 368 f then 33554368 else 68719476720) else 480))) else (bif Nat.ble 359 f then (bif Nat.ble 362 f then (bif Nat.ble 364 f then (bif Nat.ble 365 f then 480 else 1008) else (bif Nat.ble 363 f then 4194048 else 524280)) else (bif Nat.ble 360 f then (bif Nat.ble 361 f then 137438953456 else 33553920) else 6)) else (bif Nat.ble 356 f then (bif Nat.ble 357 f then (bif Nat.ble 358 f then 16777152 else 268433408) else 16320) else (bif Nat.ble 354 f then (bif Nat.ble 355 f then 120 else 2147483616) else 262080)))) else (bif Nat.ble 339 f then (bif Nat.ble 346 f then (bif Nat.ble 349 f then (bif Nat.ble 351 f then (bif Nat.ble 352 f then 120 else 36893488147419103216) else (bif Nat.ble 350 f then 309485009821345068724780032 else 1008)) else (bif Nat.ble 347 f then (bif Nat.ble 348 f then 147573952589676412864 else 1008) else 2016)) else (bif Nat.ble 342 f then (bif Nat.ble 344 f then (bif Nat.ble 345 f then 2016 else 8) else (bif Nat.ble 343 f then 120 else 56)) else (bif Nat.ble 340 f then (bif Nat.ble 341 f then 16288 else 120) else 67010552))) else (bif Nat.ble 332 f then (bif Nat.ble 335 f then (bif Nat.ble 337 f then (bif Nat.ble 338 f then 2305843009213693888 else 2040) else (bif Nat.ble 336 f then 4072 else 504)) else (bif Nat.ble 333 f then (bif Nat.ble 334 f then 1016 else 248) else 130048)) else (bif Nat.ble 329 f then (bif Nat.ble 330 f then (bif Nat.ble 331 f then 32736 else 523840) else 56) else (bif Nat.ble 327 f then (bif Nat.ble 328 f then 120 else 960) else 56)))))) else (bif Nat.ble 272 f then (bif Nat.ble 299 f then (bif Nat.ble 312 f then (bif Nat.ble 319 f then (bif Nat.ble 322 f then (bif Nat.ble 324 f then (bif Nat.ble 325 f then 224 else 262128) else (bif Nat.ble 323 f then 67108736 else 4088)) else (bif Nat.ble 320 f then (bif Nat.ble 321 f then 496 else 8) else 536870784)) else (bif Nat.ble 315 f then (bif Nat.ble 317 f then (bif Nat.ble 318 f then 33554400 else 3968) else (bif Nat.ble 316 f then 524160 else 56)) else (bif Nat.ble 313 f then (bif Nat.ble 314 f then 2032 else 120) else 9671406556917033397644928))) else (bif Nat.ble 305 f then (bif Nat.ble 308 f then (bif Nat.ble 310 f then (bif Nat.ble 311 f then 536870908 else 262112) else (bif Nat.ble 309 f then 262140 else 70368744177536)) else (bif Nat.ble 306 f then (bif Nat.ble 307 f then 224 else 67108860) else 992)) else (bif Nat.ble 302 f then (bif Nat.ble 303 f then (bif Nat.ble 304 f then 8184 else 8796093022176) else 2658455991569831745807614120560687360) else (bif Nat.ble 300 f then (bif Nat.ble 301 f then 1099511627712 else 4194300) else 480)))) else (bif Nat.ble 285 f then (bif Nat.ble 292 f then (bif Nat.ble 295 f then (bif Nat.ble 297 f then (bif Nat.ble 298 f then 1099511627648 else 508) else (bif Nat.ble 296 f then 16376 else 38685626227668133590596864)) else (bif Nat.ble 293 f then (bif Nat.ble 294 f then 4951760157141521099596496864 else 10141204801825835211973625634048) else 316912650057057350374175801340)) else (bif Nat.ble 288 f then (bif Nat.ble 290 f then (bif Nat.ble 291 f then 248 else 77371252455336267181192960) else (bif Nat.ble 289 f then 316912650057057350374175801336 else 248)) else (bif Nat.ble 286 f then (bif Nat.ble 287 f then 576460752303161216 else 2305843009213693696) else 131008))) else (bif Nat.ble 278 f then (bif Nat.ble 281 f then (bif Nat.ble 283 f then (bif Nat.ble 284 f then 16352 else 120) else (bif Nat.ble 282 f then 18889465931478580854528 else 18446744073709534976)) else (bif Nat.ble 279 f then (bif Nat.ble 280 f then 0 else 16376) else 0)) else (bif Nat.ble 275 f then (bif Nat.ble 276 f then (bif Nat.ble 277 f then 240 else 72057594037927872) else 120) else (bif Nat.ble 273 f then (bif Nat.ble 274 f then 6 else 523840) else 36891799297558839168))))) else (bif Nat.ble 245 f then (bif Nat.ble 258 f then (bif Nat.ble 265 f then (bif Nat.ble 268 f then (bif Nat.ble 270 f then (bif Nat.ble 271 f then 28 else 56) else (bif Nat.ble 269 f then 6 else 56)) else (bif Nat.ble 266 f then (bif Nat.ble 267 f then 134217696 else 248) else 2417851639229258349412096)) else (bif Nat.ble 261 f then (bif Nat.ble 263 f then (bif Nat.ble 264 f then 3968 else 18014398509481920) else (bif Nat.ble 262 f then 992 else 1008)) else (bif Nat.ble 259 f then (bif Nat.ble 260 f then 536870880 else 68719469312) else 504))) else (bif Nat.ble 251 f then (bif Nat.ble 254 f then (bif Nat.ble 256 f then (bif Nat.ble 257 f then 120 else 32) else (bif Nat.ble 255 f then 504 else 17592186044352)) else (bif Nat.ble 252 f then (bif Nat.ble 253 f then 2097088 else 524280) else 1008)) else (bif Nat.ble 248 f then (bif Nat.ble 249 f then (bif Nat.ble 250 f then 504 else 17592186044352) else 1016) else (bif Nat.ble 246 f then (bif Nat.ble 247 f then 2097088 else 131064) else 536870908)))) else (bif Nat.ble 231 f then (bif Nat.ble 238 f then (bif Nat.ble 241 f then (bif Nat.ble 243 f then (bif Nat.ble 244 f then 120 else 2199023255488) else (bif Nat.ble 242 f then 32760 else 32760)) else (bif Nat.ble 239 f then (bif Nat.ble 240 f then 1016 else 992) else 120)) else (bif Nat.ble 234 f then (bif Nat.ble 236 f then (bif Nat.ble 237 f then 70368744177600 else 6) else (bif Nat.ble 235 f then 16376 else 9903520314283042199192993728)) else (bif Nat.ble 232 f then (bif Nat.ble 233 f then 2040 else 248) else 162259276829213363391578010285952))) else (bif Nat.ble 224 f then (bif Nat.ble 227 f then (bif Nat.ble 229 f then (bif Nat.ble 230 f then 65528 else 33554400) else (bif Nat.ble 228 f then 8589934560 else 480)) else (bif Nat.ble 225 f then (bif Nat.ble 226 f then 1008 else 120) else 248)) else (bif Nat.ble 221 f then (bif Nat.ble 222 f then (bif Nat.ble 223 f then 158456325028528675187087900096 else 248) else 288230376151711168) else (bif Nat.ble 219 f then (bif Nat.ble 220 f then 8184 else 520192) else 16320))))))) else (bif Nat.ble 110 f then (bif Nat.ble 164 f then (bif Nat.ble 191 f then (bif Nat.ble 204 f then (bif Nat.ble 211 f then (bif Nat.ble 214 f then (bif Nat.ble 216 f then (bif Nat.ble 217 f then 120 else 2199022468864) else (bif Nat.ble 215 f then 240 else 16)) else (bif Nat.ble 212 f then (bif Nat.ble 213 f then 576460752303357952 else 4294967040) else 8388544)) else (bif Nat.ble 207 f then (bif Nat.ble 209 f then (bif Nat.ble 210 f then 31984 else 72057594035830728) else (bif Nat.ble 208 f then 480 else 1427247692705635362504627542722711980362135552)) else (bif Nat.ble 205 f then (bif Nat.ble 206 f then 130944 else 1073741792) else 524224))) else (bif Nat.ble 197 f then (bif Nat.ble 200 f then (bif Nat.ble 202 f then (bif Nat.ble 203 f then 56 else 34359738272) else (bif Nat.ble 201 f then 68719476688 else 16777152)) else (bif Nat.ble 198 f then (bif Nat.ble 199 f then 8184 else 67108856) else 32736)) else (bif Nat.ble 194 f then (bif Nat.ble 195 f then (bif Nat.ble 196 f then 2096896 else 504) else 17179869120) else (bif Nat.ble 192 f then (bif Nat.ble 193 f then 248 else 73786976294838205952) else 8128)))) else (bif Nat.ble 177 f then (bif Nat.ble 184 f then (bif Nat.ble 187 f then (bif Nat.ble 189 f then (bif Nat.ble 190 f then 524280 else 562949953421184) else (bif Nat.ble 188 f then 19807040628566084398385971192 else 288230376151711736)) else (bif Nat.ble 185 f then (bif Nat.ble 186 f then 41538374868278621028243970633760712 else 309485009821345068590563312) else 9007199254740928)) else (bif Nat.ble 180 f then (bif Nat.ble 182 f then (bif Nat.ble 183 f then 68351585149469122636640694597425667667286544715412888638305331450311031224980497600734786763096064 else 137438952960) else (bif Nat.ble 181 f then 65520 else 2063992)) else (bif Nat.ble 178 f then (bif Nat.ble 179 f then 18446744073709551552 else 32640) else 19342222816897808166026752))) else (bif Nat.ble 170 f then (bif Nat.ble 173 f then (bif Nat.ble 175 f then (bif Nat.ble 176 f then 4398046510848 else 33554368) else (bif Nat.ble 174 f then 2251799813684224 else 35184372088768)) else (bif Nat.ble 171 f then (bif Nat.ble 172 f then 16777200 else 65504) else 262016)) else (bif Nat.ble 167 f then (bif Nat.ble 168 f then (bif Nat.ble 169 f then 8184 else 130944) else 34359738304) else (bif Nat.ble 165 f then (bif Nat.ble 166 f then 28 else 2147483520) else 120))))) else (bif Nat.ble 137 f then (bif Nat.ble 150 f then (bif Nat.ble 157 f then (bif Nat.ble 160 f then (bif Nat.ble 162 f then (bif Nat.ble 163 f then 6 else 8160) else (bif Nat.ble 161 f then 18446744072770027392 else 28)) else (bif Nat.ble 158 f then (bif Nat.ble 159 f then 2032 else 32736) else 549755813760)) else (bif Nat.ble 153 f then (bif Nat.ble 155 f then (bif Nat.ble 156 f then 10633823966279326983230456482242756576 else 1125899839733696) else (bif Nat.ble 154 f then 120 else 1016)) else (bif Nat.ble 151 f then (bif Nat.ble 152 f then 16320 else 4294967168) else 1125899906842616))) else (bif Nat.ble 143 f then (bif Nat.ble 146 f then (bif Nat.ble 148 f then (bif Nat.ble 149 f then 8184 else 65472) else (bif Nat.ble 147 f then 130048 else 1073741696)) else (bif Nat.ble 144 f then (bif Nat.ble 145 f then 144115186465242624 else 147573952589676412800) else 137438953344)) else (bif Nat.ble 140 f then (bif Nat.ble 141 f then (bif Nat.ble 142 f then 2251799813684992 else 17179868928) else 2147483520) else (bif Nat.ble 138 f then (bif Nat.ble 139 f then 10633823966279326983230456482242756352 else 8796093021952) else 248)))) else (bif Nat.ble 123 f then (bif Nat.ble 130 f then (bif Nat.ble 133 f then (bif Nat.ble 135 f then (bif Nat.ble 136 f then 618970019642690137449559936 else 16320) else (bif Nat.ble 134 f then 480 else 262048)) else (bif Nat.ble 131 f then (bif Nat.ble 132 f then 262140 else 16128) else 281474976709632)) else (bif Nat.ble 126 f then (bif Nat.ble 128 f then (bif Nat.ble 129 f then 2063992 else 72057594034782144) else (bif Nat.ble 127 f then 134217664 else 65520)) else (bif Nat.ble 124 f then (bif Nat.ble 125 f then 523840 else 5444517870735015415413993718908291379184) else 480))) else (bif Nat.ble 116 f then (bif Nat.ble 119 f then (bif Nat.ble 121 f then (bif Nat.ble 122 f then 22300745198530623141535718272648361505976320 else 1048544) else (bif Nat.ble 120 f then 549755813856 else 4398046511072)) else (bif Nat.ble 117 f then (bif Nat.ble 118 f then 1099511627264 else 536870880) else 536870908)) else (bif Nat.ble 113 f then (bif Nat.ble 114 f then (bif Nat.ble 115 f then 40564819207303340847894502571968 else 5444517870735015415413993718908291375104) else 248) else (bif Nat.ble 111 f then (bif Nat.ble 112 f then 1208925819614629174705664 else 56) else 67108800)))))) else (bif Nat.ble 56 f then (bif Nat.ble 83 f then (bif Nat.ble 96 f then (bif Nat.ble 103 f then (bif Nat.ble 106 f then (bif Nat.ble 108 f then (bif Nat.ble 109 f then 2471044375292302033099421696 else 38685626227668133590597568) else (bif Nat.ble 107 f then 3138550867681922400376247032555366920295581761140954497024 else 20769187434139310514121985316749248)) else (bif Nat.ble 104 f then (bif Nat.ble 105 f then 480 else 5070602400912917605986812819456) else 19342813113834066795298768)) else (bif Nat.ble 99 f then (bif Nat.ble 101 f then (bif Nat.ble 102 f then 4294967292 else 65280) else (bif Nat.ble 100 f then 1048544 else 2199023255040)) else (bif Nat.ble 97 f then (bif Nat.ble 98 f then 1048512 else 18014398509481936) else 120))) else (bif Nat.ble 89 f then (bif Nat.ble 92 f then (bif Nat.ble 94 f then (bif Nat.ble 95 f then 68719462336 else 120) else (bif Nat.ble 93 f then 696898287454081973172991196020261297052800 else 1020)) else (bif Nat.ble 90 f then (bif Nat.ble 91 f then 8388544 else 504) else 2040)) else (bif Nat.ble 86 f then (bif Nat.ble 87 f then (bif Nat.ble 88 f then 8589934528 else 8184) else 72057594037009920) else (bif Nat.ble 84 f then (bif Nat.ble 85 f then 262136 else 9007199254740928) else 2305807824808049664)))) else (bif Nat.ble 69 f then (bif Nat.ble 76 f then (bif Nat.ble 79 f then (bif Nat.ble 81 f then (bif Nat.ble 82 f then 32640 else 4294966400) else (bif Nat.ble 80 f then 536870848 else 2097144)) else (bif Nat.ble 77 f then (bif Nat.ble 78 f then 2251799813635584 else 262136) else 536870848)) else (bif Nat.ble 72 f then (bif Nat.ble 74 f then (bif Nat.ble 75 f then 2147483632 else 248) else (bif Nat.ble 73 f then 248 else 8184)) else (bif Nat.ble 70 f then (bif Nat.ble 71 f then 120 else 480) else 452312848372641805036209786794351084684495012962368262459586220948579155456))) else (bif Nat.ble 62 f then (bif Nat.ble 65 f then (bif Nat.ble 67 f then (bif Nat.ble 68 f then 4722240382065046450176 else 137438937088) else (bif Nat.ble 66 f then 65408 else 261632)) else (bif Nat.ble 63 f then (bif Nat.ble 64 f then 35184372088800 else 524256) else 524256)) else (bif Nat.ble 59 f then (bif Nat.ble 60 f then (bif Nat.ble 61 f then 524256 else 134217664) else 67108800) else (bif Nat.ble 57 f then (bif Nat.ble 58 f then 9671406556917033397648384 else 4835703278458516697776128) else 504))))) else (bif Nat.ble 29 f then (bif Nat.ble 42 f then (bif Nat.ble 49 f then (bif Nat.ble 52 f then (bif Nat.ble 54 f then (bif Nat.ble 55 f then 67108800 else 248) else (bif Nat.ble 53 f then 10141204801823529298595667770624 else 72057594037927920)) else (bif Nat.ble 50 f then (bif Nat.ble 51 f then 79228162514264337593543949824 else 248) else 77371252455336267181195200)) else (bif Nat.ble 45 f then (bif Nat.ble 47 f then (bif Nat.ble 48 f then 248 else 1048560) else (bif Nat.ble 46 f then 56 else 248)) else (bif Nat.ble 43 f then (bif Nat.ble 44 f then 137304721152 else 1180591620717411303368) else 1361129467683753853853498429727072813056))) else (bif Nat.ble 35 f then (bif Nat.ble 38 f then (bif Nat.ble 40 f then (bif Nat.ble 41 f then 2251799813683200 else 147573952589676412896) else (bif Nat.ble 39 f then 2361179300784913776384 else 268435424)) else (bif Nat.ble 36 f then (bif Nat.ble 37 f then 4194288 else 8184) else 75557863725914323418624)) else (bif Nat.ble 32 f then (bif Nat.ble 33 f then (bif Nat.ble 34 f then 75557863664341672262656 else 295147903255207476736) else 56) else (bif Nat.ble 30 f then (bif Nat.ble 31 f then 1048064 else 151115727451828646838016) else 1125899902648256)))) else (bif Nat.ble 16 f then (bif Nat.ble 22 f then (bif Nat.ble 25 f then (bif Nat.ble 27 f then (bif Nat.ble 28 f then 17592186044384 else 134217664) else (bif Nat.ble 26 f then 67108800 else 8589934560)) else (bif Nat.ble 23 f then (bif Nat.ble 24 f then 274877906912 else 2199023253504) else 34301017600)) else (bif Nat.ble 19 f then (bif Nat.ble 20 f then (bif Nat.ble 21 f then 18889465931478580854720 else 144115188075847680) else 2475880078570760549798235520) else (bif Nat.ble 17 f then (bif Nat.ble 18 f then 576460752303423456 else 1016) else 67108800))) else (bif Nat.ble 9 f then (bif Nat.ble 12 f then (bif Nat.ble 14 f then (bif Nat.ble 15 f then 1016 else 633825300114114700748351601664) else (bif Nat.ble 13 f then 288230376151711736 else 18014398509467648)) else (bif Nat.ble 10 f then (bif Nat.ble 11 f then 4398046510080 else 2016) else 302231454903657293643776)) else (bif Nat.ble 6 f then (bif Nat.ble 7 f then (bif Nat.ble 8 f then 2923003274661805836407369665432566039311863037952 else 11417981541647679048456606904306078318369714176) else 40564819207303340847894502322176) else (bif Nat.ble 4 f then (bif Nat.ble 5 f then 170141183460469231731687303715842998272 else 4611686018427322368) else 170141183460469231731687303715875717120))))))))
def gl0 : Nat → Option Nat := fun | 0 => some 0 | _ => none
def glN : Nat → Option Nat := fun _ => none
noncomputable def TN : FuncId → Option Prim := fun _ => none
theorem TN_ok (gl : Nat → Option Nat) : PrimOK Tryz.prog gl TN := fun _ _ h => by cases h
theorem glN_lt (k : Nat) : ∀ g h, glN g = some h → h < k := fun _ _ h => by cases h
def shU (g : Nat → Int) (j : Nat) : List Cell := [.v (.int .u64 (g j))]
def shI (g : Nat → Int) (j : Nat) : List Cell := [.v (.int .i64 (g j))]
def sL : Code → Code | .seq a _ => a | _ => .skip
def sR : Code → Code | .seq _ a => a | _ => .skip
def sB : Code → Code | .block _ a => a | .loop a => a | _ => .skip
def bodyOf (fn : Func) : Code := fn.body.getD .skip
abbrev I (x : Int) : Cell := .v (.int .i64 x)
abbrev U (x : Int) : Cell := .v (.int .u64 x)
abbrev B (x : Bool) : Cell := .v (.bool x)
abbrev LI (x : Int) : LV := .o (.c (I x))
abbrev LR (h : Nat) : LV := .o (.c (.r h))
end Go.Proofs.YtggpohgoebicjaaGreatDoor

namespace Go.Proofs.YtggpohgoebicjaaGreatDoor
open Go Go.Ev
set_option maxRecDepth 10000

theorem wrap_succ {i n : Nat} (h : i < n) (hn : n ≤ maxLen) : IntKind.i64.wrap ((i : Int) + 1) = ((i + 1 : Nat) : Int) := by
  unfold maxLen at hn
  rw [IntWalk.i64_in _ ⟨by omega, by omega⟩]; rfl

/-- a path without variables of the text -/
theorem trN {T : FuncId → Option Prim} (hT : PrimOK Tryz.prog glN T) {f m k : Nat} {l : List Nat} {o : Ev.Way} {cd : Code} {S S' : St} {x0 : LExit} {c b : Bool} (h : WayFact Tryz.prog glN T mk0 f m k l o cd S x0 S' c b) (hc : c = true) (hb : b = true)
    (hM : MapsFix (RenL k l) S'.L) (hA : apartL (RenL k l) S'.L = true) (hn : S'.n = k + l.length) : Tr Tryz.prog glN k m cd S x0 S' := Tr.of mixed names_ok hT h hc hb hM hA hn (glN_lt k)

/-! ## strongtxkit.Words: two equal rows -/
noncomputable def c55 : Code := bodyOf Tryz.f55
def L2 (t t' : TypeId) (n m : Nat) (f f' : Nat → List Cell) : List (Nat × Entry) := [(0, .row false t 1 n f), (1, .row false t' 1 m f')]
def S55 (t t' : TypeId) (n : Nat) (g g' : Nat → Int) (i : Int) : St := ⟨[(0, LR 0), (1, LR 1), (5, LI i)], L2 t t' n n (shU g) (shU g'), 2⟩
def S55a (t t' : TypeId) (n : Nat) (g g' : Nat → Int) : St := ⟨[(0, LR 0), (1, LR 1)], L2 t t' n n (shU g) (shU g'), 2⟩

theorem words_small (g g' : Nat → Int) (t t' : TypeId) (n : Nat) (hn : n ≤ maxLen) (h : ∀ i, i < n → g i = g' i) :
    Small Tryz.prog glN 55 [.c (.r 0), .c (.r 1)] (ofList (L2 t t' n n (shU g) (shU g'))) 2 (.o (.c (B true))) (ofList (L2 t t' n n (shU g) (shU g'))) 0 := by
  have f0 : WayFact Tryz.prog glN TN mk0 55 26 2 [] [] (sL c55) (S55a t t' n g g') .normal (S55a t t' n g g') true true := by show _ = _; kernel_rfl
  have f1 : WayFact Tryz.prog glN TN mk0 55 26 2 [] [(0, false)] (sL (sR c55)) (S55a t t' n g g') .normal (S55a t t' n g g') (cj true [!((n : Int) != (n : Int))]) true := by show _ = _; kernel_rfl
  have f2 : WayFact Tryz.prog glN TN mk0 55 26 2 [] [] (sL (sL (sR (sR c55)))) (S55a t t' n g g') .normal (S55 t t' n g g' 0) true true := by show _ = _; kernel_rfl
  have f3 : ∀ i : Nat, WayFact Tryz.prog glN TN mk0 55 26 2 [] [(0, true), (0, true), (0, true), (0, true), (0, true), (0, false)] (sB (sB (sR (sL (sR (sR c55)))))) (S55 t t' n g g' i) .normal (S55 t t' n g g' (IntKind.i64.wrap ((i : Int) + 1)))
      (cj true [decide ((i : Int) < n), decide (0 ≤ (i : Int) ∧ (i : Int) < n), decide (0 + (i : Int).toNat < n), decide (0 ≤ (i : Int) ∧ (i : Int) < n), decide (0 + (i : Int).toNat < n), !(g (0 + (i : Int).toNat) != g' (0 + (i : Int).toNat))]) true := fun i => by show _ = _; kernel_rfl
  have f4 : ∀ i : Nat, WayFact Tryz.prog glN TN mk0 55 26 2 [] [(0, false)] (sB (sB (sR (sL (sR (sR c55)))))) (S55 t t' n g g' i) (.exit 0) (S55a t t' n g g') (cj true [!(decide ((i : Int) < n))]) true := fun i => by show _ = _; kernel_rfl
  have f5 : WayFact Tryz.prog glN TN mk0 55 26 2 [] [] (sR (sR (sR c55))) (S55a t t' n g g') .ret ⟨[(4, .o (.c (B true)))], L2 t t' n n (shU g) (shU g'), 2⟩ true true := by show _ = _; kernel_rfl
  have tr := fun {S S' : St} {l : List Nat} {o : Ev.Way} {cd : Code} {x0 : LExit} {c b : Bool} (F : WayFact Tryz.prog glN TN mk0 55 26 2 l o cd S x0 S' c b) => trN (TN_ok glN) F
  refine Tr.small (r := 0) (S' := ⟨[(4, .o (.c (B true)))], L2 t t' n n (shU g) (shU g'), 2⟩) names_ok Tryz.func55 (c := c55) rfl (.inr rfl) rfl ?_ rfl (by kernel_rfl)
  show Tr Tryz.prog glN 2 26 (.seq (sL c55) (.seq (sL (sR c55)) (.seq (.seq (sL (sL (sR (sR c55)))) (.block 0 (.loop (sB (sB (sR (sL (sR (sR c55))))))))) (sR (sR (sR c55)))))) (S55a t t' n g g') .ret _
  refine (tr f0 rfl rfl trivial rfl rfl).seq ((tr f1 (by simp [cj]) rfl trivial rfl rfl).seq (((tr f2 rfl rfl trivial rfl rfl).seq (Tr.block (Tr.loop (by simp) (fun i => S55 t t' n g g' i) n (fun i hi => ?_) (tr (f4 n) (by simp [cj]) rfl trivial rfl rfl)))).seq (tr f5 rfl rfl trivial rfl rfl)))
  have := tr (f3 i) (by simp [cj, hi, h i hi]) rfl trivial rfl rfl
  rwa [wrap_succ hi hn] at this

/-- two rows of one typed shape that agree -/
def SameRows {G : Type} (shape : G → Nat → List Cell) (eqv : Nat → G → G → Prop) (m m' : Nat) (f f' : Nat → List Cell) : Prop := m = m' ∧ ∃ g g', f = shape g ∧ f' = shape g' ∧ eqv m g g'

noncomputable def sameP {G : Type} (shape : G → Nat → List Cell) (eqv : Nat → G → G → Prop) (sz : Nat) : Prim := fun args n =>
  match args with
  | [.c (.r h), .c (.r h')] => .get h fun
    | .row false _ z m f => .get h' fun
      | .row false _ z' m' f' => (match Nat.beq z sz, Nat.beq z' sz, Nat.beq h h' with
        | true, true, false => askP (SameRows shape eqv m m' f f') (chk (Nat.blt h n) (chk (Nat.blt h' n) (.ret (.o (.c (.v (.bool true))), n))))
        | _, _, _ => .stuck)
      | _ => .stuck
    | _ => .stuck
  | _ => .stuck

def eqU (n : Nat) (g g' : Nat → Int) : Prop := ∀ i, i < n → g i = g' i

theorem row_max {ν : Nu} {s : LW} {w : World} (hr : Rel ν s w) {h : Nat} {ro : Bool} {t : TypeId} {sz n : Nat} {f : Nat → List Cell} (hs : s h = some (.row ro t sz n f)) : n ≤ maxLen := by
  obtain ⟨i, _, h2⟩ := hr.ent _ _ hs
  obtain ⟨_, _, _, k4, k5, _⟩ := h2
  omega

theorem same_ok {gl : Nat → Option Nat} {G : Type} {shape : G → Nat → List Cell} {eqv : Nat → G → G → Prop} {sz : Nat} {fid : FuncId} (hp : ∀ g j, PlainCs (shape g j))
    (H : ∀ g g' t t' n, n ≤ maxLen → eqv n g g' → Small Tryz.prog glN fid [.c (.r 0), .c (.r 1)] (ofList [(0, .row false t sz n (shape g)), (1, .row false t' sz n (shape g'))]) 2 (.o (.c (B true))) (ofList [(0, .row false t sz n (shape g)), (1, .row false t' sz n (shape g'))]) 0) :
    PrimOK1 Tryz.prog gl fid (sameP shape eqv sz) := by
  intro args s n v n' s' r wf h
  unfold sameP at h
  split at h
  case h_2 => simp at h
  rename_i a b
  rw [Ac.out_get] at h
  cases hs : s a with
  | none => simp [hs] at h
  | some e =>
    simp only [hs] at h
    cases e with
    | cells _ _ => simp at h
    | map _ => simp at h
    | row ro t z m f =>
      cases ro with
      | true => simp at h
      | false =>
        simp only [Ac.out_get] at h
        cases hs' : s b with
        | none => simp [hs'] at h
        | some e' =>
          simp only [hs'] at h
          cases e' with
          | cells _ _ => simp at h
          | map _ => simp at h
          | row ro' t' z' m' f' =>
            cases ro' with
            | true => simp at h
            | false =>
              simp only [] at h
              cases h1 : Nat.beq z sz with
              | false => simp [h1] at h
              | true =>
                cases h2 : Nat.beq z' sz with
                | false => simp [h1, h2] at h
                | true =>
                  cases h3 : Nat.beq a b with
                  | true => simp [h1, h2, h3] at h
                  | false =>
                    simp only [h1, h2, h3] at h
                    obtain rfl := Nat.eq_of_beq_eq_true h1
                    obtain rfl := Nat.eq_of_beq_eq_true h2
                    have hab : a ≠ b := fun hh => by rw [hh, Nat.beq_refl] at h3; cases h3
                    cases ho : (askP (SameRows shape eqv m m' f f') (chk (Nat.blt a n) (chk (Nat.blt b n) (.ret ((.o (.c (.v (.bool true))) : LV), n))))).out s with
                    | none => rw [ho] at h; simp at h
                    | some q =>
                      rw [ho] at h
                      obtain ⟨hsame, ho2⟩ := askP_out ho (by simp)
                      clear ho
                      have ho := ho2
                      clear ho2
                      obtain ⟨rfl, g, g', rfl, rfl, hq⟩ := hsame
                      simp only [chk, Ac.out_br] at ho
                      split at ho
                      case isFalse => simp at ho
                      rename_i l1
                      split at ho
                      case isFalse => simp at ho
                      rename_i l2
                      simp at ho
                      subst ho
                      simp at h
                      obtain ⟨⟨rfl, rfl⟩, rfl, _⟩ := h
                      have l1 : a < n := Nat.le_of_ble_eq_true l1
                      have l2 : b < n := Nat.le_of_ble_eq_true l2
                      refine ⟨Nat.le_refl n, fun ν w ys hys hr hg hf => ?_⟩
                      have key := says_ro (gl := gl) (hs := [a, b]) (es := [.row false t z' m (shape g), .row false t' z' m (shape g')]) (s := s) (n := n) (args := [.c (.r a), .c (.r b)]) (H g g' t t' m (row_max hr hs) hq) (fun _ => rfl)
                        (fun j => match j with | 0 => rfl | 1 => rfl | j + 2 => rfl) rfl (by simp [hab]) (fun h hh => by
                          rcases List.mem_cons.1 hh with rfl | hh
                          · exact l1
                          · simp at hh; subst hh; exact l2)
                        (fun j hh e g1 g2 => by
                          match j with
                          | 0 => simp at g1 g2; subst g1; subst g2; exact hs
                          | 1 => simp at g1 g2; subst g1; subst g2; exact hs'
                          | j + 2 => simp at g1)
                        (fun e he => by
                          rcases List.mem_cons.1 he with rfl | he
                          · exact ⟨rfl, hp g⟩
                          · simp at he; subst he; exact ⟨rfl, hp g'⟩)
                        (fun ν' ys hy => by
                          cases hy with
                          | cons q1 q2 =>
                            cases q2 with
                            | cons q3 q4 =>
                              cases q4
                              obtain ⟨i, A, k1, k2⟩ := q1
                              obtain ⟨i', A', k1', k2'⟩ := q3
                              exact .cons ⟨i, A, by simpa using k1, k2⟩ (.cons ⟨i', A', by simpa using k1', k2'⟩ .nil)) rfl
                      exact key.2 ν w ys hys hr hg hf

theorem shU_plain (g : Nat → Int) (j : Nat) : PlainCs (shU g j) := fun c hc => by simp [shU] at hc; exact ⟨_, hc⟩
theorem words_ok (gl : Nat → Option Nat) : PrimOK1 Tryz.prog gl 55 (sameP shU eqU 1) := same_ok shU_plain fun g g' t t' n hn he => words_small g g' t t' n hn he

/-! ## copies -/
theorem clone48 : CloneFacts Tryz.prog TN mk0 48 42 [U 0] 1 8 := ⟨fun x n t => by kernel_rfl, fun x n lo len t => by kernel_rfl, fun c => by kernel_rfl, fun a c => by kernel_rfl, by decide⟩
theorem clone74 : CloneFacts Tryz.prog TN mk0 74 3 [I 0] 1 8 := ⟨fun x n t => by kernel_rfl, fun x n lo len t => by kernel_rfl, fun c => by kernel_rfl, fun a c => by kernel_rfl, by decide⟩
theorem clone45 : CloneFacts Tryz.prog TN mk0 45 29 [I 0, I 0, I 0, I 0, I 0] 5 40 := ⟨fun x n t => by kernel_rfl, fun x n lo len t => by kernel_rfl, fun c => by kernel_rfl, fun a c => by kernel_rfl, by decide⟩
theorem clone54 : CloneFacts Tryz.prog TN mk0 54 54 [I 0, I 0, U 0] 3 24 := ⟨fun x n t => by kernel_rfl, fun x n lo len t => by kernel_rfl, fun c => by kernel_rfl, fun a c => by kernel_rfl, by decide⟩
theorem clone73 : CloneFacts Tryz.prog TN mk0 73 49 [I 0, I 0, I 0, I 0, I 0, I 0, U 0, U 0, B false] 9 72 := ⟨fun x n t => by kernel_rfl, fun x n lo len t => by kernel_rfl, fun c => by kernel_rfl, fun a c => by kernel_rfl, by decide⟩
noncomputable def cloneT : List (FuncId × Prim) := [(48, cloneP 42 1 8), (74, cloneP 3 1 8), (45, cloneP 29 5 40), (54, cloneP 54 3 24), (73, cloneP 49 9 72)]
theorem cloneT_ok (gl : Nat → Option Nat) : ∀ x ∈ cloneT, PrimOK1 Tryz.prog gl x.1 x.2 := fun x hx => by
  simp only [cloneT, List.mem_cons, List.not_mem_nil, or_false] at hx
  rcases hx with rfl | rfl | rfl | rfl | rfl
  · exact clone_ok mixed names_ok (TN_ok glN) clone48
  · exact clone_ok mixed names_ok (TN_ok glN) clone74
  · exact clone_ok mixed names_ok (TN_ok glN) clone45
  · exact clone_ok mixed names_ok (TN_ok glN) clone54
  · exact clone_ok mixed names_ok (TN_ok glN) clone73
theorem plain_shU (g : Nat → Int) (n : Nat) : plainN 1 (shU g) n = true := plainN_all (fun _ => rfl) n
end Go.Proofs.YtggpohgoebicjaaGreatDoor

namespace Go.Proofs.YtggpohgoebicjaaGreatDoor
open Go Go.Ev
set_option maxRecDepth 10000

/-! ## strongtxkit.Place, strongtxmake.Config, the checks of a configuration -/
def placeF (a n : Int) : Int := IntKind.i64.wrap ((IntKind.u64.wrap a).tmod (IntKind.u64.wrap n))
def placeP : Prim := fun args n => match args with
  | [.c (.v (.int .i64 a)), .c (.v (.int .i64 m))] => chk (decide (IntKind.u64.wrap m ≠ 0)) (.ret (LI (placeF a m), n))
  | _ => .stuck

/-- a primitive without memory -/
theorem prim_pure {gl : Nat → Option Nat} {f : FuncId} {args : List V1} {v : LV} {s : LW} {n : Nat} (hC : Small Tryz.prog glN f args (ofList []) 0 v (ofList []) 0)
    (hargs : ∀ (ν ν' : Nu) ys, All2 (v1R ν) args ys → All2 (v1R ν') args ys) (hv : ∀ ρ, lvF ρ v = v) : Says Tryz.prog gl f args s n v n s :=
  says_ro (hs := []) (es := []) (args := args) hC (fun _ => rfl) (fun j => rfl) rfl (by simp) (by simp) (by simp) (by simp) (fun ν ys h => hargs ν _ ys h) (hv _)

theorem plain1 {ν ν' : Nu} {x : Value} {args args' : List V1} {ys : List Value} (h : All2 (v1R ν) (.c (.v x) :: args) ys) (k : ∀ ys, All2 (v1R ν) args ys → All2 (v1R ν') args' ys) : All2 (v1R ν') (.c (.v x) :: args') ys := by
  cases h with
  | cons h1 h2 => exact .cons h1 (k _ h2)
theorem plain0 {ν ν' : Nu} {ys : List Value} (h : All2 (v1R ν) [] ys) : All2 (v1R ν') [] ys := by cases h; exact .nil
theorem plainA {ν ν' : Nu} {cs : List Cell} (hcs : PlainCs cs) {args args' : List V1} {ys : List Value} (h : All2 (v1R ν) (.a cs :: args) ys) (k : ∀ ys, All2 (v1R ν) args ys → All2 (v1R ν') args' ys) : All2 (v1R ν') (.a cs :: args') ys := by
  cases h with
  | cons h1 h2 =>
    obtain ⟨zs, q1, q2⟩ := h1
    refine .cons ⟨zs, ?_, q2⟩ (k _ h2)
    clear q2
    induction q1 with
    | nil => exact .nil
    | cons r1 _ ih =>
      obtain ⟨v, rfl⟩ := hcs _ (List.mem_cons_self)
      exact .cons r1 (ih fun c hc => hcs c (List.mem_cons_of_mem _ hc))

theorem place_ok (gl : Nat → Option Nat) : PrimOK1 Tryz.prog gl 10 placeP := by
  intro args s n v n' s' r wf h
  unfold placeP at h
  split at h
  case h_2 => simp at h
  rename_i a m
  simp only [chk, Ac.out_br, decide_eq_true_eq] at h
  split at h
  case isFalse => simp at h
  rename_i hm
  simp at h
  obtain ⟨⟨rfl, rfl⟩, rfl, _⟩ := h
  have F : CallFact Tryz.prog glN TN mk0 10 0 [] [(0, false)] [.c (I a), .c (I m)] [] (LI (placeF a m)) [] (cj true [!(decide (IntKind.u64.wrap m = 0))]) true := by show _ = _; kernel_rfl
  exact prim_pure (small_path mixed names_ok (TN_ok glN) F (by simp [cj, hm]) rfl trivial rfl) (fun ν ν' ys h => plain1 h fun _ h => plain1 h fun _ h => plain0 h) fun _ => rfl

noncomputable def TP : FuncId → Option Prim := tableT [(10, placeP)]
theorem TP_ok (gl : Nat → Option Nat) : PrimOK Tryz.prog gl TP := tableT_ok fun x hx => by
  simp at hx; subst hx; exact place_ok gl

def cW (a : Int) : Int := IntKind.i64.wrap (4 + placeF a 9)
def cO (b : Int) : Int := IntKind.i64.wrap (1 + placeF b 8)
def cR (c : Int) : Int := IntKind.i64.wrap (1 + placeF c 6)
def cS (c : Int) : Int := IntKind.i64.wrap (1 + placeF (IntKind.i64.wrap (c.tdiv 7)) 8)
def cA (d : Int) : Int := placeF d 3
def cF (d : Int) : Int := placeF (IntKind.i64.wrap (d.tdiv 3)) 3
def cK (e : Int) : Int := if placeF e 5 = 0 then placeF (IntKind.i64.wrap (e.tdiv 5)) 4 else 50
def n0F (a d : Int) : Int := placeF (IntKind.i64.wrap (d.tdiv (IntKind.i64.wrap (9 + IntKind.i64.wrap (20 * 0))))) (IntKind.i64.wrap ((IntKind.i64.wrap (cW a - 2)).fdiv 1 + 1))
def c0F (a d : Int) : Int := if 2 < n0F a d then 2 else n0F a d
def n1F (a d : Int) : Int := placeF (IntKind.i64.wrap (d.tdiv (IntKind.i64.wrap (9 + IntKind.i64.wrap (20 * 1))))) (IntKind.i64.wrap ((IntKind.i64.wrap (IntKind.i64.wrap (cW a - 2) - IntKind.i64.wrap (c0F a d * 1))).fdiv 2 + 1))
def c1F (a d : Int) : Int := if 2 < n1F a d then 2 else n1F a d

def cfgCs (w o c0 c1 rd wr al fr ck : Int) (st : Bool) : List Cell := [I w, I o, I 2, I c0, I c1, I 0, I 0, I rd, I wr, I al, I fr, I ck, B st]
def cfgV (w o c0 c1 rd wr al fr ck : Int) (st : Bool) : V1 := .a (cfgCs w o c0 c1 rd wr al fr ck st)

def d0 (a : Int) : Int := IntKind.i64.wrap ((IntKind.i64.wrap (cW a - 2)).fdiv 1 + 1)
def d1 (a d : Int) : Int := IntKind.i64.wrap ((IntKind.i64.wrap (IntKind.i64.wrap (cW a - 2) - IntKind.i64.wrap (c0F a d * 1))).fdiv 2 + 1)
theorem config_yes (a b c d e : Int) : CallFact Tryz.prog glN TP mk0 9 0 [] [(9, true), (5, true), (8, true)] [.c (I a), .c (I b), .c (I c), .c (I d), .c (I e)] [] (.o (cfgV (cW a) (cO b) (c0F a d) (c1F a d) (cR c) (cS c) (cA d) (cF d) (placeF (IntKind.i64.wrap (e.tdiv 5)) 4) false)) []
  (cj true [placeF e 5 == 0, decide (IntKind.u64.wrap (d0 a) ≠ 0), decide (IntKind.u64.wrap (d1 a d) ≠ 0)]) true := by show _ = _; kernel_rfl
theorem config_no (a b c d e : Int) : CallFact Tryz.prog glN TP mk0 9 0 [] [(9, false), (3, true), (8, true)] [.c (I a), .c (I b), .c (I c), .c (I d), .c (I e)] [] (.o (cfgV (cW a) (cO b) (c0F a d) (c1F a d) (cR c) (cS c) (cA d) (cF d) 50 false)) []
  (cj true [!(placeF e 5 == 0), decide (IntKind.u64.wrap (d0 a) ≠ 0), decide (IntKind.u64.wrap (d1 a d) ≠ 0)]) true := by show _ = _; kernel_rfl

theorem placeF_range (a n : Int) (h1 : 1 ≤ n) (h2 : n ≤ 4611686018427387904) : 0 ≤ placeF a n ∧ placeF a n < n := by
  unfold placeF
  rw [IntWalk.u64_in n ⟨by omega, by omega⟩]
  have ha : 0 ≤ IntKind.u64.wrap a := by simp [IntKind.wrap, IntKind.bits, IntKind.signed]; omega
  have h3 := Int.tmod_nonneg n ha
  have h4 := Int.tmod_lt_of_pos (IntKind.u64.wrap a) (show 0 < n by omega)
  rw [IntWalk.i64_in _ ⟨by omega, by omega⟩]
  exact ⟨h3, h4⟩

structure CfgOK (w o c0 c1 rd wr al fr ck : Int) : Prop where
  hw : 4 ≤ w ∧ w ≤ 12
  ho : 1 ≤ o ∧ o ≤ 8
  h0 : 0 ≤ c0 ∧ c0 ≤ 2
  h1 : 0 ≤ c1 ∧ c1 ≤ 2
  hfit : c0 + 2 * c1 ≤ w - 2
  hrd : 1 ≤ rd ∧ rd ≤ 6
  hwr : 1 ≤ wr ∧ wr ≤ 8
  hal : 0 ≤ al ∧ al ≤ 2
  hfr : 0 ≤ fr ∧ fr ≤ 2
  hck : 0 ≤ ck ∧ ck ≤ 50

theorem i64s {x : Int} (h : -1000000 ≤ x ∧ x ≤ 1000000) : IntKind.i64.wrap x = x := IntWalk.i64_in x ⟨by omega, by omega⟩

theorem cW_range (a : Int) : 4 ≤ cW a ∧ cW a ≤ 12 := by
  have := placeF_range a 9 (by omega) (by omega)
  unfold cW; rw [i64s ⟨by omega, by omega⟩]; omega
theorem d0_eq (a : Int) : d0 a = cW a - 1 := by
  have := cW_range a
  unfold d0
  rw [i64s (x := cW a - 2) ⟨by omega, by omega⟩, Int.fdiv_one, i64s ⟨by omega, by omega⟩]; omega
theorem c0F_range (a d : Int) : 0 ≤ c0F a d ∧ c0F a d ≤ 2 ∧ c0F a d ≤ cW a - 2 := by
  have hw := cW_range a
  have hd := d0_eq a
  have h := placeF_range (IntKind.i64.wrap (d.tdiv (IntKind.i64.wrap (9 + IntKind.i64.wrap (20 * 0))))) (d0 a) (by omega) (by omega)
  have hn : n0F a d = placeF (IntKind.i64.wrap (d.tdiv (IntKind.i64.wrap (9 + IntKind.i64.wrap (20 * 0))))) (d0 a) := rfl
  unfold c0F
  split <;> omega
theorem d1_eq (a d : Int) : d1 a d = (cW a - 2 - c0F a d) / 2 + 1 := by
  have hw := cW_range a
  have hc := c0F_range a d
  unfold d1
  rw [Int.mul_one, i64s (x := c0F a d) ⟨by omega, by omega⟩, i64s (x := cW a - 2) ⟨by omega, by omega⟩, i64s (x := cW a - 2 - c0F a d) ⟨by omega, by omega⟩, Int.fdiv_eq_ediv_of_nonneg _ (by omega), i64s ⟨by omega, by omega⟩]
theorem c1F_range (a d : Int) : 0 ≤ c1F a d ∧ c1F a d ≤ 2 ∧ c0F a d + 2 * c1F a d ≤ cW a - 2 := by
  have hw := cW_range a
  have hc := c0F_range a d
  have hd := d1_eq a d
  have h := placeF_range (IntKind.i64.wrap (d.tdiv (IntKind.i64.wrap (9 + IntKind.i64.wrap (20 * 1))))) (d1 a d) (by omega) (by omega)
  have hn : n1F a d = placeF (IntKind.i64.wrap (d.tdiv (IntKind.i64.wrap (9 + IntKind.i64.wrap (20 * 1))))) (d1 a d) := rfl
  unfold c1F
  split <;> omega
theorem cfg_ok (a b c d e : Int) : CfgOK (cW a) (cO b) (c0F a d) (c1F a d) (cR c) (cS c) (cA d) (cF d) (cK e) where
  hw := cW_range a
  ho := by have := placeF_range b 8 (by omega) (by omega); unfold cO; rw [i64s ⟨by omega, by omega⟩]; omega
  h0 := by have := c0F_range a d; omega
  h1 := by have := c1F_range a d; omega
  hfit := by have := c1F_range a d; omega
  hrd := by have := placeF_range c 6 (by omega) (by omega); unfold cR; rw [i64s ⟨by omega, by omega⟩]; omega
  hwr := by have := placeF_range (IntKind.i64.wrap (c.tdiv 7)) 8 (by omega) (by omega); unfold cS; rw [i64s ⟨by omega, by omega⟩]; omega
  hal := by have := placeF_range d 3 (by omega) (by omega); unfold cA; omega
  hfr := by have := placeF_range (IntKind.i64.wrap (d.tdiv 3)) 3 (by omega) (by omega); unfold cF; omega
  hck := by have := placeF_range (IntKind.i64.wrap (e.tdiv 5)) 4 (by omega) (by omega); unfold cK; split <;> omega

def configP : Prim := fun args n => match args with
  | [.c (.v (.int .i64 a)), .c (.v (.int .i64 b)), .c (.v (.int .i64 c)), .c (.v (.int .i64 d)), .c (.v (.int .i64 e))] => .ret (.o (cfgV (cW a) (cO b) (c0F a d) (c1F a d) (cR c) (cS c) (cA d) (cF d) (cK e) false), n)
  | _ => .stuck

theorem config_ok (gl : Nat → Option Nat) : PrimOK1 Tryz.prog gl 9 configP := by
  intro args s n v n' s' r wf h
  unfold configP at h
  split at h
  case h_2 => simp at h
  rename_i a b c d e
  simp at h
  obtain ⟨⟨rfl, rfl⟩, rfl, _⟩ := h
  have h0 : IntKind.u64.wrap (d0 a) ≠ 0 := by
    have := cW_range a; have := d0_eq a
    rw [IntWalk.u64_in _ ⟨by omega, by omega⟩]; omega
  have h1 : IntKind.u64.wrap (d1 a d) ≠ 0 := by
    have := cW_range a; have := c0F_range a d; have := d1_eq a d
    rw [IntWalk.u64_in _ ⟨by omega, by omega⟩]; omega
  have key : Small Tryz.prog glN 9 [.c (I a), .c (I b), .c (I c), .c (I d), .c (I e)] (ofList []) 0 (.o (cfgV (cW a) (cO b) (c0F a d) (c1F a d) (cR c) (cS c) (cA d) (cF d) (cK e) false)) (ofList []) 0 := by
    by_cases he : placeF e 5 = 0
    · have : cK e = placeF (IntKind.i64.wrap (e.tdiv 5)) 4 := by unfold cK; rw [if_pos he]
      rw [this]
      exact small_path mixed names_ok (TP_ok glN) (config_yes a b c d e) (by simp [cj, he, h0, h1]) rfl trivial rfl
    · have : cK e = 50 := by unfold cK; rw [if_neg he]
      rw [this]
      exact small_path mixed names_ok (TP_ok glN) (config_no a b c d e) (by simp [cj, he, h0, h1]) rfl trivial rfl
  exact prim_pure key (fun ν ν' ys h => plain1 h fun _ h => plain1 h fun _ h => plain1 h fun _ h => plain1 h fun _ h => plain1 h fun _ h => plain0 h) fun _ => rfl

/-! ### the checks -/
theorem check43 (w o c0 c1 rd wr al fr ck : Int) (st : Bool) : CallFact Tryz.prog glN TN mk0 43 0 [] [(2, false), (2, false), (3, false), (2, false), (16, true), (3, false), (2, true), (5, false), (0, false), (10, false), (7, false), (0, true), (3, false), (2, true), (5, false), (0, true), (3, false), (2, true), (5, false), (0, true), (3, false)]
  [cfgV w o c0 c1 rd wr al fr ck st] [] (LI 0) []
  (cj true [!(decide (c0 < 0)), !(decide (c0 > 64)), !(decide (c1 < 0)), !(decide (c1 > 64)), (decide (w ≥ 1)), !(!decide (w ≤ 64)), (decide (o ≥ 1)), !(!decide (o ≤ 64)),
   !(!decide (IntKind.i64.wrap (IntKind.i64.wrap (IntKind.i64.wrap (IntKind.i64.wrap (0 + c0) + c1) + 0) + 0) ≤ 64)), !(!decide (2 ≤ w)),
   !(decide (IntKind.i64.wrap (IntKind.i64.wrap (IntKind.i64.wrap (IntKind.i64.wrap (0 + IntKind.i64.wrap (c0 * 1)) + IntKind.i64.wrap (c1 * 2)) + 0) + 0) > IntKind.i64.wrap (w - 2))),
   (decide (rd ≥ 1)), !(!decide (rd ≤ 32)), (decide (wr ≥ 1)), !(!decide (wr ≤ 32)), (decide (al ≥ 0)), !(!decide (al ≤ 8)), (decide (fr ≥ 0)), !(!decide (fr ≤ 8)), (decide (ck ≥ 0)), !(!decide (ck ≤ 1099511627776))]) true := by show _ = _; kernel_rfl
theorem check108 (w o c0 c1 rd wr al fr ck : Int) (st : Bool) : CallFact Tryz.prog glN TN mk0 108 0 [] [(0, true), (3, false), (2, true), (5, false), (3, true), (3, false), (8, true), (3, false), (32, false), (10, false), (7, false), (0, true), (3, false), (2, true), (5, false), (2, true), (5, false), (2, true), (5, false), (0, true), (3, false)]
  [cfgV w o c0 c1 rd wr al fr ck st] [] (LI 0) []
  (cj true [(decide (w ≥ 1)), !(!decide (w ≤ 64)), (decide (o ≥ 1)), !(!decide (o ≤ 64)), (decide (c0 ≥ 0)), !(!decide (c0 ≤ 64)), (decide (c1 ≥ 0)), !(!decide (c1 ≤ 64)),
   !(decide (IntKind.i64.wrap (IntKind.i64.wrap (IntKind.i64.wrap (IntKind.i64.wrap (0 + c0) + c1) + 0) + 0) > 64)), !(!decide (2 ≤ w)),
   !(decide (IntKind.i64.wrap (2 + IntKind.i64.wrap (IntKind.i64.wrap (IntKind.i64.wrap (IntKind.i64.wrap (0 + IntKind.i64.wrap (c0 * 1)) + IntKind.i64.wrap (c1 * 2)) + 0) + 0)) > w)),
   (decide (rd ≥ 1)), !(!decide (rd ≤ 32)), (decide (wr ≥ 1)), !(!decide (wr ≤ 32)), (decide (al ≥ 0)), !(!decide (al ≤ 8)), (decide (fr ≥ 0)), !(!decide (fr ≤ 8)), (decide (ck ≥ 0)), !(!decide (ck ≤ 1099511627776))]) true := by show _ = _; kernel_rfl

/-- a function of a configuration -/
noncomputable def cfgP (res : Int → Int → Int → Int → Int → Int → Int → Int → Int → LV) : Prim := fun args n => match args with
  | [.a [.v (.int .i64 w), .v (.int .i64 o), .v (.int .i64 b), .v (.int .i64 c0), .v (.int .i64 c1), .v (.int .i64 c2), .v (.int .i64 c3), .v (.int .i64 rd), .v (.int .i64 wr), .v (.int .i64 al), .v (.int .i64 fr), .v (.int .i64 ck), .v (.bool _)]] =>
    askP (b = 2 ∧ c2 = 0 ∧ c3 = 0 ∧ CfgOK w o c0 c1 rd wr al fr ck) (.ret (res w o c0 c1 rd wr al fr ck, n))
  | _ => .stuck

theorem cfgCs_plain (w o c0 c1 rd wr al fr ck : Int) (st : Bool) : PlainCs (cfgCs w o c0 c1 rd wr al fr ck st) := fun c hc => by
  simp only [cfgCs, List.mem_cons, List.not_mem_nil, or_false] at hc
  rcases hc with rfl | rfl | rfl | rfl | rfl | rfl | rfl | rfl | rfl | rfl | rfl | rfl | rfl <;> exact ⟨_, rfl⟩

theorem cfgP_ok {gl : Nat → Option Nat} {f : FuncId} {res : Int → Int → Int → Int → Int → Int → Int → Int → Int → LV} (hres : ∀ w o c0 c1 rd wr al fr ck ρ, lvF ρ (res w o c0 c1 rd wr al fr ck) = res w o c0 c1 rd wr al fr ck)
    (H : ∀ w o c0 c1 rd wr al fr ck st, CfgOK w o c0 c1 rd wr al fr ck → Small Tryz.prog glN f [cfgV w o c0 c1 rd wr al fr ck st] (ofList []) 0 (res w o c0 c1 rd wr al fr ck) (ofList []) 0) : PrimOK1 Tryz.prog gl f (cfgP res) := by
  intro args s n v n' s' r wf h
  unfold cfgP at h
  split at h
  case h_2 => simp at h
  rename_i w o b c0 c1 c2 c3 rd wr al fr ck st
  obtain ⟨hcs, h2⟩ := askP_out h (by simp)
  clear h
  obtain ⟨rfl, rfl, rfl, hc⟩ := hcs
  simp at h2
  obtain ⟨⟨rfl, rfl⟩, rfl, _⟩ := h2
  exact prim_pure (H w o c0 c1 rd wr al fr ck st hc) (fun ν ν' ys h => plainA (cfgCs_plain w o c0 c1 rd wr al fr ck st) h fun _ h => plain0 h) (hres w o c0 c1 rd wr al fr ck)

theorem check43_ok (gl : Nat → Option Nat) : PrimOK1 Tryz.prog gl 43 (cfgP fun _ _ _ _ _ _ _ _ _ => LI 0) :=
  cfgP_ok (fun _ _ _ _ _ _ _ _ _ _ => rfl) fun w o c0 c1 rd wr al fr ck st h => small_path mixed names_ok (TN_ok glN) (check43 w o c0 c1 rd wr al fr ck st) (by
    obtain ⟨hw, ho, h0, h1, hfit, hrd, hwr, hal, hfr, hck⟩ := h
    have e1 : IntKind.i64.wrap (IntKind.i64.wrap (IntKind.i64.wrap (IntKind.i64.wrap (0 + c0) + c1) + 0) + 0) = c0 + c1 := by
      simp (disch := omega) only [i64s, Int.zero_add, Int.add_zero, Int.mul_one]
    have e2 : IntKind.i64.wrap (IntKind.i64.wrap (IntKind.i64.wrap (IntKind.i64.wrap (0 + IntKind.i64.wrap (c0 * 1)) + IntKind.i64.wrap (c1 * 2)) + 0) + 0) = c0 + c1 * 2 := by
      simp (disch := omega) only [i64s, Int.zero_add, Int.add_zero, Int.mul_one]
    have e3 : IntKind.i64.wrap (w - 2) = w - 2 := i64s (by omega)
    refine cj_all ?_
    rw [e1, e2, e3]
    simp
    omega) rfl trivial rfl
theorem check108_ok (gl : Nat → Option Nat) : PrimOK1 Tryz.prog gl 108 (cfgP fun _ _ _ _ _ _ _ _ _ => LI 0) :=
  cfgP_ok (fun _ _ _ _ _ _ _ _ _ _ => rfl) fun w o c0 c1 rd wr al fr ck st h => small_path mixed names_ok (TN_ok glN) (check108 w o c0 c1 rd wr al fr ck st) (by
    obtain ⟨hw, ho, h0, h1, hfit, hrd, hwr, hal, hfr, hck⟩ := h
    have e1 : IntKind.i64.wrap (IntKind.i64.wrap (IntKind.i64.wrap (IntKind.i64.wrap (0 + c0) + c1) + 0) + 0) = c0 + c1 := by
      simp (disch := omega) only [i64s, Int.zero_add, Int.add_zero, Int.mul_one]
    have e2 : IntKind.i64.wrap (IntKind.i64.wrap (IntKind.i64.wrap (IntKind.i64.wrap (0 + IntKind.i64.wrap (c0 * 1)) + IntKind.i64.wrap (c1 * 2)) + 0) + 0) = c0 + c1 * 2 := by
      simp (disch := omega) only [i64s, Int.zero_add, Int.add_zero, Int.mul_one]
    have e3 : IntKind.i64.wrap (2 + (c0 + c1 * 2)) = 2 + (c0 + c1 * 2) := i64s (by omega)
    refine cj_all ?_
    rw [e1, e2, e3]
    simp
    omega) rfl trivial rfl
end Go.Proofs.YtggpohgoebicjaaGreatDoor

namespace Go.Proofs.YtggpohgoebicjaaGreatDoor
open Go Go.Ev
set_option maxRecDepth 10000

/-! ## cells.New -/
noncomputable def TC : FuncId → Option Prim := tableT [(43, cfgP fun _ _ _ _ _ _ _ _ _ => LI 0), (48, cloneP 42 1 8)]
theorem TC_ok (gl : Nat → Option Nat) : PrimOK Tryz.prog gl TC := tableT_ok fun x hx => by
  simp only [List.mem_cons, List.not_mem_nil, or_false] at hx
  rcases hx with rfl | rfl
  · exact check43_ok gl
  · exact cloneT_ok gl (48, cloneP 42 1 8) (by simp [cloneT])

/-- the map of the cells' lists -/
def cellsM (d o c t s l h x : Nat) : Int → Option Cell := setKey (setKey (setKey (setKey (setKey (setKey (setKey (setKey (fun _ => none) 1 (.r d)) 2 (.r o)) 3 (.r c)) 4 (.r t)) 5 (.r s)) 6 (.r l)) 7 (.r h)) 8 (.r x)
def rowU (n : Nat) (g : Nat → Int) : Entry := .row false 42 1 n (shU g)
def padF (n : Nat) (g : Nat → Int) (j : Nat) : Int := bif decide (j < n) then g j else 0

@[reducible] def CellsFact (c0 c1 ways : Nat) (w o rd wr al fr ck th : Int) (st : Bool) (n : Nat) (g : Nat → Int) (H N : Nat → Int) : Prop :=
  CallFact Tryz.prog glN TC mk0 41 1 [1, 2, 3, 4, 5, 6, 7, 8, 9, 10, 11, 12, 13, 14, 15] [(0, true), (1, false), (2, false), (0, false), (1, true), (ways, true), (0, true), (1, true), (0, true), (3, true)]
    [cfgV w o c0 c1 rd wr al fr ck st, .c (I th), .c (.r 0)] [(0, rowU n g)] (.t [.c (.p 15 0), .c (I 0)])
    [(0, rowU n g), (3, rowU 4 H), (6, rowU (c0 + c1) N), (7, .map (cellsM 9 10 11 12 13 14 3 6)), (9, rowU (n + (c0 + c1)) (padF n g)), (10, rowU o.toNat fun _ => 0), (11, rowU 1 fun _ => 0), (12, rowU 1 fun _ => 0), (13, rowU 1 fun _ => 0), (14, rowU th.toNat fun _ => 0), (15, .cells 131 [.m 7])]
    (cj true [dq ((2 : Int) = 2 ∧ (0 : Int) = 0 ∧ (0 : Int) = 0 ∧ CfgOK w o c0 c1 rd wr al fr ck), !(decide (th < 1)), !(decide (th > 16)), !((n : Int) != w), dq ((2 : Int) = 2 ∧ (0 : Int) = 0 ∧ (0 : Int) = 0 ∧ CfgOK w o c0 c1 rd wr al fr ck),
      plainN 1 (shU g) n, decide (n * 8 ≤ 140737488355328), decide ((n + (c0 + c1)) * 8 ≤ 140737488355328), decide (0 ≤ o ∧ o ≤ o ∧ o * 8 ≤ 140737488355328), decide (0 ≤ th ∧ th ≤ th ∧ th * 8 ≤ 140737488355328)]) true

theorem cells00 (w o rd wr al fr ck th : Int) (st : Bool) (n : Nat) (g : Nat → Int) : CellsFact 0 0 96 w o rd wr al fr ck th st n g (fun j => bif decide (j = 3) then 0 else bif decide (j = 2) then 0 else bif decide (j = 1) then 0 else bif decide (j = 0) then 0 else 0) (fun j => 0) := by show _ = _; kernel_rfl
theorem cells01 (w o rd wr al fr ck th : Int) (st : Bool) (n : Nat) (g : Nat → Int) : CellsFact 0 1 96 w o rd wr al fr ck th st n g (fun j => bif decide (j = 3) then 0 else bif decide (j = 2) then 0 else bif decide (j = 1) then 1 else bif decide (j = 0) then 0 else 0) (fun j => 0) := by show _ = _; kernel_rfl
theorem cells02 (w o rd wr al fr ck th : Int) (st : Bool) (n : Nat) (g : Nat → Int) : CellsFact 0 2 99 w o rd wr al fr ck th st n g (fun j => bif decide (j = 3) then 0 else bif decide (j = 2) then 0 else bif decide (j = 1) then 1 else bif decide (j = 0) then 0 else 0) (fun j => (bif decide (j = 0) then 2 else 0)) := by show _ = _; kernel_rfl
theorem cells10 (w o rd wr al fr ck th : Int) (st : Bool) (n : Nat) (g : Nat → Int) : CellsFact 1 0 96 w o rd wr al fr ck th st n g (fun j => bif decide (j = 3) then 0 else bif decide (j = 2) then 0 else bif decide (j = 1) then 0 else bif decide (j = 0) then 1 else 0) (fun j => 0) := by show _ = _; kernel_rfl
theorem cells11 (w o rd wr al fr ck th : Int) (st : Bool) (n : Nat) (g : Nat → Int) : CellsFact 1 1 96 w o rd wr al fr ck th st n g (fun j => bif decide (j = 3) then 0 else bif decide (j = 2) then 0 else bif decide (j = 1) then 2 else bif decide (j = 0) then 1 else 0) (fun j => 0) := by show _ = _; kernel_rfl
theorem cells12 (w o rd wr al fr ck th : Int) (st : Bool) (n : Nat) (g : Nat → Int) : CellsFact 1 2 99 w o rd wr al fr ck th st n g (fun j => bif decide (j = 3) then 0 else bif decide (j = 2) then 0 else bif decide (j = 1) then 2 else bif decide (j = 0) then 1 else 0) (fun j => (bif decide (j = 1) then 3 else 0)) := by show _ = _; kernel_rfl
theorem cells20 (w o rd wr al fr ck th : Int) (st : Bool) (n : Nat) (g : Nat → Int) : CellsFact 2 0 99 w o rd wr al fr ck th st n g (fun j => bif decide (j = 3) then 0 else bif decide (j = 2) then 0 else bif decide (j = 1) then 0 else bif decide (j = 0) then 1 else 0) (fun j => (bif decide (j = 0) then 2 else 0)) := by show _ = _; kernel_rfl
theorem cells21 (w o rd wr al fr ck th : Int) (st : Bool) (n : Nat) (g : Nat → Int) : CellsFact 2 1 99 w o rd wr al fr ck th st n g (fun j => bif decide (j = 3) then 0 else bif decide (j = 2) then 0 else bif decide (j = 1) then 3 else bif decide (j = 0) then 1 else 0) (fun j => (bif decide (j = 0) then 2 else 0)) := by show _ = _; kernel_rfl
theorem cells22 (w o rd wr al fr ck th : Int) (st : Bool) (n : Nat) (g : Nat → Int) : CellsFact 2 2 102 w o rd wr al fr ck th st n g (fun j => bif decide (j = 3) then 0 else bif decide (j = 2) then 0 else bif decide (j = 1) then 3 else bif decide (j = 0) then 1 else 0) (fun j => (bif decide (j = 2) then 4 else (bif decide (j = 0) then 2 else 0))) := by show _ = _; kernel_rfl

def hdF (c0 c1 : Int) (j : Nat) : Int := if j = 0 then (if 0 < c0 then 1 else 0) else if j = 1 then (if 0 < c1 then c0 + 1 else 0) else 0
def nxF (c0 c1 : Int) (j : Nat) : Int := if j = 0 ∧ c0 = 2 then 2 else if (j : Int) = c0 ∧ c1 = 2 then c0 + 2 else 0
def cellsL (w o c0 c1 th : Int) (n : Nat) (g : Nat → Int) : List (Nat × Entry) :=
  [(0, rowU n g), (3, rowU 4 (hdF c0 c1)), (6, rowU (c0 + c1).toNat (nxF c0 c1)), (7, .map (cellsM 9 10 11 12 13 14 3 6)), (9, rowU (n + (c0 + c1).toNat) (padF n g)), (10, rowU o.toNat fun _ => 0), (11, rowU 1 fun _ => 0), (12, rowU 1 fun _ => 0), (13, rowU 1 fun _ => 0), (14, rowU th.toNat fun _ => 0), (15, .cells 131 [.m 7])]

theorem cellsM_fix (l : List Nat) (hl : ∀ h, 1 ≤ h → h ≤ 15 → RenL 1 l h = .to h) : MapFix (RenL 1 l) (cellsM 9 10 11 12 13 14 3 6) := by
  intro k c hk
  unfold cellsM setKey at hk
  repeat' split at hk
  all_goals first | (cases hk; exact ⟨by simp only [cellI]; rw [hl _ (by decide) (by decide)], by simp⟩) | cases hk

theorem sameU {n : Nat} {g g' : Nat → Int} (h : ∀ j, j < n → g j = g' j) : SameE (rowU n g) (rowU n g') := .inr ⟨42, 1, n, shU g, shU g', rfl, rfl, fun j hj => by simp [shU, h j hj]⟩

theorem cells_small {w o c0 c1 rd wr al fr ck th : Int} {st : Bool} {n : Nat} {g : Nat → Int} (hc : CfgOK w o c0 c1 rd wr al fr ck) (ht : 1 ≤ th ∧ th ≤ 16) (hn : (n : Int) = w) :
    Small Tryz.prog glN 41 [cfgV w o c0 c1 rd wr al fr ck st, .c (I th), .c (.r 0)] (ofList [(0, rowU n g)]) 1 (.t [.c (.p 15 0), .c (I 0)]) (ofList (cellsL w o c0 c1 th n g)) 15 := by
  have conds : ∀ (a b : Nat), (a : Int) = c0 → (b : Int) = c1 → cj true [dq ((2 : Int) = 2 ∧ (0 : Int) = 0 ∧ (0 : Int) = 0 ∧ CfgOK w o a b rd wr al fr ck), !(decide (th < 1)), !(decide (th > 16)), !((n : Int) != w), dq ((2 : Int) = 2 ∧ (0 : Int) = 0 ∧ (0 : Int) = 0 ∧ CfgOK w o a b rd wr al fr ck),
      plainN 1 (shU g) n, decide (n * 8 ≤ 140737488355328), decide ((n + (a + b)) * 8 ≤ 140737488355328), decide (0 ≤ o ∧ o ≤ o ∧ o * 8 ≤ 140737488355328), decide (0 ≤ th ∧ th ≤ th ∧ th * 8 ≤ 140737488355328)] = true := by
    intro a b ha hb
    subst ha; subst hb
    have hq : dq ((2 : Int) = 2 ∧ (0 : Int) = 0 ∧ (0 : Int) = 0 ∧ CfgOK w o a b rd wr al fr ck) = true := dq_iff.2 ⟨rfl, rfl, rfl, hc⟩
    have hg : plainN 1 (shU g) n = true := plain_shU g n
    obtain ⟨hw, ho, h0, h1, _⟩ := hc
    refine cj_all ?_
    rw [hq, hg]
    simp
    omega
  have h0 := hc.h0
  have h1 := hc.h1
  have e0 : c0 = (0 : Nat) ∨ c0 = (1 : Nat) ∨ c0 = (2 : Nat) := by omega
  have e1 : c1 = (0 : Nat) ∨ c1 = (1 : Nat) ∨ c1 = (2 : Nat) := by omega
  have fix := cellsM_fix [1, 2, 3, 4, 5, 6, 7, 8, 9, 10, 11, 12, 13, 14, 15] (fun h h1 h2 => by
    rcases (by omega : h = 1 ∨ h = 2 ∨ h = 3 ∨ h = 4 ∨ h = 5 ∨ h = 6 ∨ h = 7 ∨ h = 8 ∨ h = 9 ∨ h = 10 ∨ h = 11 ∨ h = 12 ∨ h = 13 ∨ h = 14 ∨ h = 15) with rfl | rfl | rfl | rfl | rfl | rfl | rfl | rfl | rfl | rfl | rfl | rfl | rfl | rfl | rfl <;> rfl)
  have hd : ∀ {H H' : Nat → Int}, H 0 = H' 0 → H 1 = H' 1 → H 2 = H' 2 → H 3 = H' 3 → SameE (rowU 4 H) (rowU 4 H') := fun a b c d => sameU fun j hj => by
    match j, hj with
    | 0, _ => exact a
    | 1, _ => exact b
    | 2, _ => exact c
    | 3, _ => exact d
  have fin : ∀ {H N : Nat → Int} {a b : Nat}, (a : Int) = c0 → (b : Int) = c1 → SameE (rowU 4 H) (rowU 4 (hdF c0 c1)) → (∀ j, j < a + b → N j = nxF c0 c1 j) →
      Small Tryz.prog glN 41 [cfgV w o c0 c1 rd wr al fr ck st, .c (I th), .c (.r 0)] (ofList [(0, rowU n g)]) 1 (.t [.c (.p 15 0), .c (I 0)])
        (ofList [(0, rowU n g), (3, rowU 4 H), (6, rowU (a + b) N), (7, .map (cellsM 9 10 11 12 13 14 3 6)), (9, rowU (n + (a + b)) (padF n g)), (10, rowU o.toNat fun _ => 0), (11, rowU 1 fun _ => 0), (12, rowU 1 fun _ => 0), (13, rowU 1 fun _ => 0), (14, rowU th.toNat fun _ => 0), (15, .cells 131 [.m 7])]) 15 →
      Small Tryz.prog glN 41 [cfgV w o c0 c1 rd wr al fr ck st, .c (I th), .c (.r 0)] (ofList [(0, rowU n g)]) 1 (.t [.c (.p 15 0), .c (I 0)]) (ofList (cellsL w o c0 c1 th n g)) 15 := by
    intro H N a b ha hb hH hN h
    have hab : (c0 + c1).toNat = a + b := by omega
    refine h.ext ⟨rfl, .inl rfl, rfl, hH, rfl, ?_, rfl, .inl rfl, rfl, ?_, rfl, .inl rfl, rfl, .inl rfl, rfl, .inl rfl, rfl, .inl rfl, rfl, .inl rfl, rfl, .inl rfl, trivial⟩
    · rw [hab]; exact sameU hN
    · rw [hab]; exact .inl rfl
  rcases e0 with rfl | rfl | rfl <;> rcases e1 with rfl | rfl | rfl
  · exact fin rfl rfl (hd (by decide) (by decide) (by decide) (by decide)) (fun j hj => by omega) (small_path mixed names_ok (TC_ok glN) (cells00 w o rd wr al fr ck th st n g) (conds 0 0 rfl rfl) rfl ⟨fix, trivial⟩ rfl)
  · exact fin rfl rfl (hd (by decide) (by decide) (by decide) (by decide)) (fun j hj => by rcases (by omega : j = 0) with rfl <;> decide) (small_path mixed names_ok (TC_ok glN) (cells01 w o rd wr al fr ck th st n g) (conds 0 1 rfl rfl) rfl ⟨fix, trivial⟩ rfl)
  · exact fin rfl rfl (hd (by decide) (by decide) (by decide) (by decide)) (fun j hj => by rcases (by omega : j = 0 ∨ j = 1) with rfl | rfl <;> decide) (small_path mixed names_ok (TC_ok glN) (cells02 w o rd wr al fr ck th st n g) (conds 0 2 rfl rfl) rfl ⟨fix, trivial⟩ rfl)
  · exact fin rfl rfl (hd (by decide) (by decide) (by decide) (by decide)) (fun j hj => by rcases (by omega : j = 0) with rfl <;> decide) (small_path mixed names_ok (TC_ok glN) (cells10 w o rd wr al fr ck th st n g) (conds 1 0 rfl rfl) rfl ⟨fix, trivial⟩ rfl)
  · exact fin rfl rfl (hd (by decide) (by decide) (by decide) (by decide)) (fun j hj => by rcases (by omega : j = 0 ∨ j = 1) with rfl | rfl <;> decide) (small_path mixed names_ok (TC_ok glN) (cells11 w o rd wr al fr ck th st n g) (conds 1 1 rfl rfl) rfl ⟨fix, trivial⟩ rfl)
  · exact fin rfl rfl (hd (by decide) (by decide) (by decide) (by decide)) (fun j hj => by rcases (by omega : j = 0 ∨ j = 1 ∨ j = 2) with rfl | rfl | rfl <;> decide) (small_path mixed names_ok (TC_ok glN) (cells12 w o rd wr al fr ck th st n g) (conds 1 2 rfl rfl) rfl ⟨fix, trivial⟩ rfl)
  · exact fin rfl rfl (hd (by decide) (by decide) (by decide) (by decide)) (fun j hj => by rcases (by omega : j = 0 ∨ j = 1) with rfl | rfl <;> decide) (small_path mixed names_ok (TC_ok glN) (cells20 w o rd wr al fr ck th st n g) (conds 2 0 rfl rfl) rfl ⟨fix, trivial⟩ rfl)
  · exact fin rfl rfl (hd (by decide) (by decide) (by decide) (by decide)) (fun j hj => by rcases (by omega : j = 0 ∨ j = 1 ∨ j = 2) with rfl | rfl | rfl <;> decide) (small_path mixed names_ok (TC_ok glN) (cells21 w o rd wr al fr ck th st n g) (conds 2 1 rfl rfl) rfl ⟨fix, trivial⟩ rfl)
  · exact fin rfl rfl (hd (by decide) (by decide) (by decide) (by decide)) (fun j hj => by rcases (by omega : j = 0 ∨ j = 1 ∨ j = 2 ∨ j = 3) with rfl | rfl | rfl | rfl <;> decide) (small_path mixed names_ok (TC_ok glN) (cells22 w o rd wr al fr ck th st n g) (conds 2 2 rfl rfl) rfl ⟨fix, trivial⟩ rfl)

end Go.Proofs.YtggpohgoebicjaaGreatDoor
