/- What is proved: one arm of SockPlays' switch. Conditions: the states are alike. -/
import Derived.Test.YtgegpjkihbhndaaDoorBlk3
namespace Go.Proofs.YtgegpjkihbhndaaDoor
open Go.RowKit
set_option linter.unusedVariables false
set_option maxHeartbeats 3200000 in
set_option maxRecDepth 1000000 in
theorem arm3_5c {B : BI} (hE : B.all) {p q og : Nat} {s : SPair} {r : RPair} {k e n : Int} {m cc : Nat} {l : List UInt8} {Ab : Option Addr} {R : List Asn} {w9 : World}
    (H9 : Hid (Sep w9 (base B :: pairA p s :: refA q r :: Blk og 37 #[.int .i64 5, .int .i64 e, .int .i64 n, .slice Ab m cc] :: R))) (Hb : Hid (Rd B.w0 1 (.slice Ab m cc) m cc (bv l) ∧ m ≤ 140737488355322))
    {i : Nat} (hR : Rel3 (65536 * i) s r) (hi : i ≤ 300) (hg : r.cut = false ∧ ¬ r.a.car < r.a.all.length ∧ r.b.car < r.b.all.length) (x0 x1 x2 x3 x4 x6 x8 x11 x12 x13 x14 x15 x16 x17 x18 x19 x20 x21 x22 x23 x24 x25 x26 x27 x28 x29 x30 x31 x32 x33 x34 x35 x36 x37 x38 x39 x40 x41 x42 x43 x44 x45 x46 x47 x48 x49 x50 x51 x52 x53 x54 x55 x56 x57 x58 x59 x60 x61 x62 x63 x64 x66 x67 x68 x69 x70 x71 x72 x73 x74 x75 x76 x77 x78 x79 x80 x81 x82 x83 x84 x85 x86 x87 x88 x89 x90 x91 x92 x93 x94 x95 x96 x97 x98 x99 x100 x101 x102 x103 x104 x105 x106 x107 x108 x109 x110 x111 x112 x113 x114 x115 x116 x117 x118 x119 x120 x121 x122 x123 x124 x125 x126 x127 x128 x129 x130 x131 x132 x133 x134 x135 x136 x137 x138 x139 x140 x141 x142 x143 x144 x145 x146 x147 x148 x149 x150 x151 x152 x153 x154 x155 x156 x157 x158 x159 x160 x161 x162 x163 x164 x165 x166 x167 x168 x169 x170 x171 x172 x173 x174 x175 x176 x177 x178 x179 x180 x181 x182 x183 x184 x185 x186 x187 x188 x189 x190 x191 x192 x193 x194 x195 x196 x197 x198 x199 x200 x201 x202 x203 x204 x205 x206 x207 x208 x209 x210 x211 x212 x213 x214 x215 x216 x217 x218 x219 x220 x221 x222 x223 x224 x225 x226 x227 x228 x229 x230 x231 x232 x233 x234 x235 x236 x237 x238 x239 x240 x241 x242 x243 x244 x245 x246 x247 x248 x249 x250 x251 x252 x253 x254 x255 x256 x257 x258 x259 x260 x261 x262 x263 x264 x265 x266 x267 x268 x269 x270 x271 x272 x273 x274 x275 x276 x277 x278 x279 x280 x281 x282 x283 : Value) {K' : Act → World → Prop} {Q' : Exit → Act → World → Prop}
    (HK : Hid (∀ (y10 y11 y12 y13 y14 y15 y16 y17 y18 y19 y20 y21 y22 y23 y24 y66 y67 y68 y69 y70 y71 y72 y73 y74 y75 y76 y77 y78 y79 y80 y81 y82 y83 y84 y85 y86 y87 y88 y89 y90 y91 y92 y93 y94 y95 y96 y97 y98 y99 y100 y101 y102 y103 y104 y105 y106 y107 y108 y109 y110 y111 y112 y113 y114 y115 y116 y117 y118 y119 y120 y121 y122 y123 y124 y125 y126 y127 y128 y129 y130 y131 y132 y133 y134 y135 y136 y137 y138 y139 y140 y141 y142 y143 y144 y145 y146 y147 y148 y149 y150 y151 y152 y153 y154 y155 y156 y157 y158 y159 y160 y161 y162 y163 y164 y165 y166 y167 y168 y169 y170 y171 y172 y173 y174 y175 y176 y177 y178 y179 y180 y181 y182 y183 y184 y185 y186 y187 y188 y189 y190 y191 y192 y193 y194 y195 y196 y197 y198 y199 y200 y201 y202 y203 y204 y205 y206 y207 y208 y209 y210 y211 y212 y213 y214 y215 y216 y217 y218 y219 y220 y221 y222 y223 y224 y225 y226 y227 y228 y229 y230 y231 y232 y233 : Value) (wc : World), (y10 = .bool true ∧ ∃ s' r', Rel3 (65536 * (i + 1)) s' r' ∧ Sep wc (base B :: pairA p s' :: refA q r' :: R)) → K' ⟨List.toArray (x0 :: x1 :: x2 :: x3 :: x4 :: .pointer (some ⟨p, 0, none⟩) :: x6 :: .pointer (some ⟨q, 0, none⟩) :: x8 :: .pointer (some ⟨og, 0, none⟩) :: y10 :: y11 :: y12 :: y13 :: y14 :: y15 :: y16 :: y17 :: y18 :: y19 :: y20 :: y21 :: y22 :: y23 :: y24 :: x25 :: x26 :: x27 :: x28 :: x29 :: x30 :: x31 :: x32 :: x33 :: x34 :: x35 :: x36 :: x37 :: x38 :: x39 :: x40 :: x41 :: x42 :: x43 :: x44 :: x45 :: x46 :: x47 :: x48 :: x49 :: x50 :: x51 :: x52 :: x53 :: x54 :: x55 :: x56 :: x57 :: x58 :: x59 :: x60 :: x61 :: x62 :: x63 :: x64 :: .int .i64 5 :: y66 :: y67 :: y68 :: y69 :: y70 :: y71 :: y72 :: y73 :: y74 :: y75 :: y76 :: y77 :: y78 :: y79 :: y80 :: y81 :: y82 :: y83 :: y84 :: y85 :: y86 :: y87 :: y88 :: y89 :: y90 :: y91 :: y92 :: y93 :: y94 :: y95 :: y96 :: y97 :: y98 :: y99 :: y100 :: y101 :: y102 :: y103 :: y104 :: y105 :: y106 :: y107 :: y108 :: y109 :: y110 :: y111 :: y112 :: y113 :: y114 :: y115 :: y116 :: y117 :: y118 :: y119 :: y120 :: y121 :: y122 :: y123 :: y124 :: y125 :: y126 :: y127 :: y128 :: y129 :: y130 :: y131 :: y132 :: y133 :: y134 :: y135 :: y136 :: y137 :: y138 :: y139 :: y140 :: y141 :: y142 :: y143 :: y144 :: y145 :: y146 :: y147 :: y148 :: y149 :: y150 :: y151 :: y152 :: y153 :: y154 :: y155 :: y156 :: y157 :: y158 :: y159 :: y160 :: y161 :: y162 :: y163 :: y164 :: y165 :: y166 :: y167 :: y168 :: y169 :: y170 :: y171 :: y172 :: y173 :: y174 :: y175 :: y176 :: y177 :: y178 :: y179 :: y180 :: y181 :: y182 :: y183 :: y184 :: y185 :: y186 :: y187 :: y188 :: y189 :: y190 :: y191 :: y192 :: y193 :: y194 :: y195 :: y196 :: y197 :: y198 :: y199 :: y200 :: y201 :: y202 :: y203 :: y204 :: y205 :: y206 :: y207 :: y208 :: y209 :: y210 :: y211 :: y212 :: y213 :: y214 :: y215 :: y216 :: y217 :: y218 :: y219 :: y220 :: y221 :: y222 :: y223 :: y224 :: y225 :: y226 :: y227 :: y228 :: y229 :: y230 :: y231 :: y232 :: y233 :: x234 :: x235 :: x236 :: x237 :: x238 :: x239 :: x240 :: x241 :: x242 :: x243 :: x244 :: x245 :: x246 :: x247 :: x248 :: x249 :: x250 :: x251 :: x252 :: x253 :: x254 :: x255 :: x256 :: x257 :: x258 :: x259 :: x260 :: x261 :: x262 :: x263 :: x264 :: x265 :: x266 :: x267 :: x268 :: x269 :: x270 :: x271 :: x272 :: x273 :: x274 :: x275 :: x276 :: x277 :: x278 :: x279 :: x280 :: x281 :: x282 :: x283 :: []), []⟩ wc)) :
    Code.wp Tryd.prog blk2 (Exit.then K' Q') ⟨List.toArray (x0 :: x1 :: x2 :: x3 :: x4 :: .pointer (some ⟨p, 0, none⟩) :: x6 :: .pointer (some ⟨q, 0, none⟩) :: x8 :: .pointer (some ⟨og, 0, none⟩) :: .bool true :: x11 :: x12 :: x13 :: x14 :: x15 :: x16 :: x17 :: x18 :: x19 :: x20 :: x21 :: x22 :: x23 :: x24 :: x25 :: x26 :: x27 :: x28 :: x29 :: x30 :: x31 :: x32 :: x33 :: x34 :: x35 :: x36 :: x37 :: x38 :: x39 :: x40 :: x41 :: x42 :: x43 :: x44 :: x45 :: x46 :: x47 :: x48 :: x49 :: x50 :: x51 :: x52 :: x53 :: x54 :: x55 :: x56 :: x57 :: x58 :: x59 :: x60 :: x61 :: x62 :: x63 :: x64 :: .int .i64 5 :: x66 :: x67 :: x68 :: x69 :: x70 :: x71 :: x72 :: x73 :: x74 :: x75 :: x76 :: x77 :: x78 :: x79 :: x80 :: x81 :: x82 :: x83 :: x84 :: x85 :: x86 :: x87 :: x88 :: x89 :: x90 :: x91 :: x92 :: x93 :: x94 :: x95 :: x96 :: x97 :: x98 :: x99 :: x100 :: x101 :: x102 :: x103 :: x104 :: x105 :: x106 :: x107 :: x108 :: x109 :: x110 :: x111 :: x112 :: x113 :: x114 :: x115 :: x116 :: x117 :: x118 :: x119 :: x120 :: x121 :: x122 :: x123 :: x124 :: x125 :: x126 :: x127 :: x128 :: x129 :: x130 :: x131 :: x132 :: x133 :: x134 :: x135 :: x136 :: x137 :: x138 :: x139 :: x140 :: x141 :: x142 :: x143 :: x144 :: x145 :: x146 :: x147 :: x148 :: x149 :: x150 :: x151 :: x152 :: x153 :: x154 :: x155 :: x156 :: x157 :: x158 :: x159 :: x160 :: x161 :: x162 :: x163 :: x164 :: x165 :: x166 :: x167 :: x168 :: x169 :: x170 :: x171 :: x172 :: x173 :: x174 :: x175 :: x176 :: x177 :: x178 :: x179 :: x180 :: x181 :: x182 :: x183 :: x184 :: x185 :: x186 :: x187 :: x188 :: x189 :: x190 :: x191 :: x192 :: x193 :: x194 :: x195 :: x196 :: x197 :: x198 :: x199 :: x200 :: x201 :: x202 :: x203 :: x204 :: x205 :: x206 :: x207 :: x208 :: x209 :: x210 :: x211 :: x212 :: x213 :: x214 :: x215 :: x216 :: x217 :: x218 :: x219 :: x220 :: x221 :: x222 :: x223 :: x224 :: x225 :: x226 :: x227 :: x228 :: x229 :: x230 :: x231 :: x232 :: x233 :: x234 :: x235 :: x236 :: x237 :: x238 :: x239 :: x240 :: x241 :: x242 :: x243 :: x244 :: x245 :: x246 :: x247 :: x248 :: x249 :: x250 :: x251 :: x252 :: x253 :: x254 :: x255 :: x256 :: x257 :: x258 :: x259 :: x260 :: x261 :: x262 :: x263 :: x264 :: x265 :: x266 :: x267 :: x268 :: x269 :: x270 :: x271 :: x272 :: x273 :: x274 :: x275 :: x276 :: x277 :: x278 :: x279 :: x280 :: x281 :: x282 :: x283 :: []), []⟩ w9 := by
  have o1 := H9.out.cell3 1 _ rfl
  have o2 := H9.out.cell3 2 _ rfl
  have o3 := H9.out.cell3 3 _ rfl
  have hR' := hR.mono (show 65536 * i ≤ 65536 * (i + 1) by omega)
  have hsok := hR.sok
  have hrok := hR.rok (by omega)
  have HR := hid hR
  have HR' := hid hR'
  clear hR hR'
  conv => arg 2; whnf
  have HG := hid hg
  clear hg
  have d := sCut_any H9.out hsok
  go_wp2_with (go_at_call 22; refine d.mono ?c51)
  case c51 =>
  first | (rintro x w11 hx0 h11; subst hx0) | rintro x w11 ⟨rfl, h11⟩
  clear d o1 o2 o3
  have hRc := HR'.out.cut'
  have h12 := Sep.re (xs := [_, _, _, _]) h11 [0, 2, 1, 3] (by decide) rfl
  obtain ⟨A0, A1, c0, c1, hq⟩ := ref_open h12
  obtain ⟨hqc, hqf⟩ := hq.swap.cells
  obtain ⟨room', ⟨aa, ac, ad', as'⟩, ⟨ba, bc, bd', bs'⟩, cut⟩ := r
  obtain ⟨_, ⟨q2, q3, q4, q5⟩, ⟨q6, q7, q8, q9⟩⟩ := hrok
  dsimp only at hqc hq q2 q3 q4 q5 q6 q7 q8 q9
  have hle0 := (Sep.re (xs := [_, _, _, _]) hq [2, 0, 1, 3] (by decide) rfl).own_le
  have hle1 := (Sep.re (xs := [_, _, _, _]) hq [3, 0, 1, 2] (by decide) rfl).own_le
  have HY := hid (And.intro hRc (And.intro h11 hq))
  clear hRc h11 h12 hq
  obtain rfl : cut = false := HG.out.1
  have tA := (take_any slU8 A0 aa.length c0 ac .i64 q3 hle0.1).1
  have tB := (take_any slU8 A1 ba.length c1 bc .i64 q7 hle1.1).1
  obtain ⟨TL, hTL, hS⟩ : ∃ TL, TL = _ ∧ Sep w11 (Blk q 35 #[.int .i64 room', .slice A0 aa.length c0, .int .i64 ac, .int .i64 ad', .bool as', .slice A1 ba.length c1, .int .i64 bc, .int .i64 bd', .bool bs', .bool false] :: TL) := ⟨_, rfl, HY.out.2.2.swap⟩
  have HS := hid hS
  have HTL := hid hTL
  clear hS hTL
  have g0 := HG.out.2.1
  have g1 := HG.out.2.2
  dsimp only at g0 g1
  have g0' : decide ((ac : Int) < (aa.length : Int)) = false := by simpa using g0
  go_wp2
  refine wp_loop_rounds 3 ?_
  rw [rounds_succ]
  go_upto_block 4 with (fail)
  go_cut [24] from 189 to 232 (fun v24 wx => Sep wx (Blk q 35 #[.int .i64 room', .slice A0 aa.length c0, .int .i64 ac, .int .i64 ad', .bool as', .slice A1 ba.length c1, .int .i64 bc, .int .i64 bd', .bool bs', .bool true] :: TL))
  case first =>
    go_wp2
    go_quiet (fail)
    go_wp2
    go_meet
    case rel => exact (HS.out.store 9 (.bool true)).drewN nq
  case rest =>
  clear hqc hqf HS
  obtain ⟨hqc, hqf⟩ := hcut.cells
  have HS := hid hcut
  clear hcut
  have g1' : decide ((bc : Int) < (ba.length : Int)) = true := by simpa using g1
  go_wp2
  rw [rounds_succ]
  go_upto_block 4 with (fail)
  go_cut [24] from 189 to 232 (fun v24 wx => Sep wx (Blk q 35 #[.int .i64 room', .slice A0 aa.length c0, .int .i64 ac, .int .i64 ad', .bool as', .slice A1 bc c1, .int .i64 bc, .int .i64 bd', .bool false, .bool true] :: TL))
  case first =>
    go_wp2
    go_quiet (fail)
    go_wp2
    have hS2 : Sep _ (Blk q 35 #[.int .i64 room', .slice A0 aa.length c0, .int .i64 ac, .int .i64 ad', .bool as', .slice A1 ba.length c1, .int .i64 bc, .int .i64 bd', .bool false, .bool true] :: TL) := (HS.out.drewN nq).store 8 (.bool false)
    generalize (World.drewN wc nq).setCell ⟨q, 8, none⟩ (.bool false) = wA at hS2 ⊢
    clear hqc hqf
    obtain ⟨hqc, hqf⟩ := hS2.cells
    have HS2 := hid hS2
    clear hS2 HS
    go_still_tail 21, (by kernel_rfl)
    change wpList _ _ _ _ _ wA.drew
    have hS3 : Sep wA.drew _ := HS2.out.drewN 1
    clear hqc hqf HS2
    generalize wA.drew = wB at hS3 ⊢
    obtain ⟨hqc, hqf⟩ := hS3.cells
    have HS3 := hid hS3
    clear hS3
    go_wp2
    go_meet
    case rel => exact HS3.out.store 5 (.slice A1 bc c1)
  case rest =>
  clear hqc hqf HS
  obtain ⟨hqc, hqf⟩ := hcut.cells
  have HS := hid hcut
  clear hcut
  go_wp2
  rw [rounds_succ]
  go_wp2
  apply HK.out
  have hf := HS.out
  rw [HTL.out] at hf
  have hf2 := ref_gone (a := ⟨aa, ac, ad', as'⟩) (b := ⟨ba, bc, bd', bs'⟩) hf (by dsimp only; omega) (by dsimp only; omega) (RWay.gone_no _ g0) (RWay.gone_yes _ g1)
  exact ⟨rfl, _, _, HY.out.1, Sep.tail (Sep.re (xs := [_, _, _, _]) hf2 [3, 0, 2, 1] (by decide) rfl)⟩
end Go.Proofs.YtgegpjkihbhndaaDoor
