/- What is proved: SockPlays returns true. Conditions: the errors are known; the script can be read. -/
import Derived.Test.YtgegpjkihbhndaaDoorArm3_1
import Derived.Test.YtgegpjkihbhndaaDoorArm3_2
import Derived.Test.YtgegpjkihbhndaaDoorArm3_3
import Derived.Test.YtgegpjkihbhndaaDoorArm3_4
import Derived.Test.YtgegpjkihbhndaaDoorArm3_5
import Derived.Test.YtgegpjkihbhndaaDoorArm3_5a
import Derived.Test.YtgegpjkihbhndaaDoorArm3_5b
import Derived.Test.YtgegpjkihbhndaaDoorArm3_5c
import Derived.Test.YtgegpjkihbhndaaDoorArm3_5d
import Derived.Test.YtgegpjkihbhndaaDoorArm3_6
import Derived.Deep.LoopGhost
import Derived.Deep.CutBlock
import Derived.Deep.DeepCutAuto
import Derived.Deep.MidRow
import Derived.Deep.RegionHeld3
import Derived.StillTailTactics
namespace Go.Proofs.YtgegpjkihbhndaaDoor
open Go.RowKit
set_option linter.unusedVariables false

set_option maxHeartbeats 3200000 in
set_option maxRecDepth 1000000 in
theorem law3_loop {B : BI} (hE : B.all) {A : Option Addr} {c : Nat} {ops : List OpV} (hops : Script3 B.w0 A ops) (hnm : ops.length ≤ 281474976710656) {w : World} {R : List Asn} (hs : Sep w (base B :: R)) (room : Nat) (h1 : 1 ≤ room) (h2 : room ≤ 65536) :
    Calls Tryd.prog 3 #[.int .i64 room, .slice A ops.length c] w fun r w' => r = .returned (.bool true) ∧ Sep w' (base B :: R) := by
  have d0 := alive3 hs hE
  go_enter Tryd.func3, Tryd.ntmps3
  go_wp2_with (go_at_call 9; refine d0.mono ?c1)
  case c1 =>
  rintro r w1 ⟨rfl, hs⟩
  clear d0
  have d0 := sNew_ok hs room h1 h2
  go_wp2_with (go_at_call 10; refine d0.mono ?c2)
  case c2 =>
  rintro r w2 ⟨p, rfl, hs⟩
  clear d0
  have hq := Sep.alloc hs 35 #[.int .i64 room, .slice none 0 0, .int .i64 0, .int .i64 0, .bool false, .slice none 0 0, .int .i64 0, .int .i64 0, .bool false, .bool false]
  have hq2 : Sep (w2.alloc (.cells #[.int .i64 room, .slice none 0 0, .int .i64 0, .int .i64 0, .bool false, .slice none 0 0, .int .i64 0, .int .i64 0, .bool false, .bool false] 35)) (base B :: refA w2.heap.size ⟨room, ⟨[], 0, 0, false⟩, ⟨[], 0, 0, false⟩, false⟩ :: pairA p ⟨room, ⟨[], [], false, false⟩, ⟨[], [], false, false⟩, false⟩ :: R) :=
    ref_close (A0 := none) (A1 := none) (c0 := 0) (c1 := 0) (Sep.re (xs := [_, _, _, _]) ((hq.own_nil 5 1).own_nil 5 1) [3, 2, 0, 1] (by decide) rfl)
  have H0 := hid (Sep.re (xs := [_, _, _]) hq2 [0, 2, 1] (by decide) rfl)
  clear hq hq2 hs
  obtain ⟨q, hq⟩ : ∃ q, w2.heap.size = q := ⟨_, rfl⟩
  rw [hq] at H0
  go_wp2_with (fail)
  clear hq
  go_loopg [57] 302 (fun g v wr => ∃ (i : Nat) (s : SPair) (r : RPair), g + i = 302 ∧ i ≤ ops.length ∧ v = .int .i64 i ∧ Rel3 (65536 * i) s r ∧ Sep wr (base B :: pairA p s :: refA q r :: R))
  case atStart => exact ⟨0, _, _, rfl, Nat.zero_le _, rfl, Rel3.start room h2, H0.out⟩
  case round =>
    obtain ⟨i, s, r, hg, hi, rfl, hR, hs⟩ := hrel
    clear H0
    by_cases hlt : i < ops.length
    · by_cases h300 : 300 < i
      · obtain ⟨ad, rfl, hcell⟩ := hops.rd i _ (List.getElem?_eq_getElem hlt)
        obtain ⟨⟨k, e, n, v, m, cc, l⟩, ho⟩ : ∃ o, ops[i] = o := ⟨_, rfl⟩
        have hb := hops.bytes i _ (List.getElem?_eq_getElem hlt)
        rw [ho] at hcell hb
        obtain ⟨Ab, hv⟩ := hb.1.form
        dsimp only at hv
        subst hv
        have c0 : wr.cell? (ad.add (i * 4)) = some (.int .i64 k) := hs.base_cell (hcell 0 _ rfl)
        have c1 : wr.cell? ⟨(ad.add (i * 4)).block, (ad.add (i * 4)).off + 1, none⟩ = some (.int .i64 e) := hs.base_cell (hcell 1 _ rfl)
        have c2 : wr.cell? ⟨(ad.add (i * 4)).block, (ad.add (i * 4)).off + 2, none⟩ = some (.int .i64 n) := hs.base_cell (hcell 2 _ rfl)
        have c3 : wr.cell? ⟨(ad.add (i * 4)).block, (ad.add (i * 4)).off + 3, none⟩ = some (.slice Ab m cc) := hs.base_cell (hcell 3 _ rfl)
        dsimp only at hb
        have Hs := hid hs
        clear hs hcell hb ho
        go_wp2
        go_ret
        exact ⟨rfl, (Hs.out.alloc_ _).drop1.drop1⟩
      · obtain ⟨ad, rfl, hcell⟩ := hops.rd i _ (List.getElem?_eq_getElem hlt)
        obtain ⟨⟨k, e, n, v, m, cc, l⟩, ho⟩ : ∃ o, ops[i] = o := ⟨_, rfl⟩
        have hb := hops.bytes i _ (List.getElem?_eq_getElem hlt)
        rw [ho] at hcell hb
        obtain ⟨Ab, hv⟩ := hb.1.form
        dsimp only at hv
        subst hv
        have c0 : wr.cell? (ad.add (i * 4)) = some (.int .i64 k) := hs.base_cell (hcell 0 _ rfl)
        have c1 : wr.cell? ⟨(ad.add (i * 4)).block, (ad.add (i * 4)).off + 1, none⟩ = some (.int .i64 e) := hs.base_cell (hcell 1 _ rfl)
        have c2 : wr.cell? ⟨(ad.add (i * 4)).block, (ad.add (i * 4)).off + 2, none⟩ = some (.int .i64 n) := hs.base_cell (hcell 2 _ rfl)
        have c3 : wr.cell? ⟨(ad.add (i * 4)).block, (ad.add (i * 4)).off + 3, none⟩ = some (.slice Ab m cc) := hs.base_cell (hcell 3 _ rfl)
        dsimp only at hb
        have Hs := hid hs
        have Hb := hid hb
        clear hs hcell hb ho
        go_upto_block 2 with (fail)
        have h9 : Sep (wr.alloc (.cells #[.int .i64 k, .int .i64 e, .int .i64 n, .slice Ab m cc] 37)) (base B :: pairA p s :: refA q r :: Blk wr.heap.size 37 #[.int .i64 k, .int .i64 e, .int .i64 n, .slice Ab m cc] :: R) :=
          Sep.re (xs := [_, _, _, _]) (Hs.out.alloc 37 #[.int .i64 k, .int .i64 e, .int .i64 n, .slice Ab m cc]) [1, 2, 3, 0] (by decide) rfl
        generalize wr.heap.size = og at h9 ⊢
        generalize (wr.alloc (.cells #[.int .i64 k, .int .i64 e, .int .i64 n, .slice Ab m cc] 37)) = w9 at h9 ⊢
        have H9 := hid h9
        clear Hs c0 c1 c2 c3 h9
        go_cut [10] (fun v10 wc => v10 = .bool true ∧ ∃ s' r', Rel3 (65536 * (i + 1)) s' r' ∧ Sep wc (base B :: pairA p s' :: refA q r' :: R))
        case first =>
          by_cases k1 : k = 1
          · subst k1
            refine use_blk2 (by kernel_rfl) (arm3_1 (k := 0) (HK := hid ?_) hE H9 Hb hR (by omega) _ _ _ _ _ _ _ _ _ _ _ _ _ _ _ _ _ _ _ _ _ _ _ _ _ _ _ _ _ _ _ _ _ _ _ _ _ _ _ _ _ _ _ _ _ _ _ _ _ _ _ _ _ _ _ _ _ _ _ _ _ _ _ _ _ _ _ _ _ _ _ _ _ _ _ _ _ _ _ _ _ _ _ _ _ _ _ _ _ _ _ _ _ _ _ _ _ _ _ _ _ _ _ _ _ _ _ _ _ _ _ _ _ _ _ _ _ _ _ _ _ _ _ _ _ _ _ _ _ _ _ _ _ _ _ _ _ _ _ _ _ _ _ _ _ _ _ _ _ _ _ _ _ _ _ _ _ _ _ _ _ _ _ _ _ _ _ _ _ _ _ _ _ _ _ _ _ _ _ _ _ _ _ _ _ _ _ _ _ _ _ _ _ _ _ _ _ _ _ _ _ _ _ _ _ _ _ _ _ _ _ _ _ _ _ _ _ _ _ _ _ _ _ _ _ _ _ _ _ _ _ _ _ _ _ _ _ _ _ _ _ _ _ _ _ _ _ _ _ _ _ _ _ _ _ _ _ _ _ _ _ _ _ _ _ _ _ _ _ _ _ _ _ _ _ _ _ _ _)
            intro y10 y11 y12 y13 y14 y15 y16 y17 y18 y19 y20 y21 y22 y23 y24 y66 y67 y68 y69 y70 y71 y72 y73 y74 y75 y76 y77 y78 y79 y80 y81 y82 y83 y84 y85 y86 y87 y88 y89 y90 y91 y92 y93 y94 y95 y96 y97 y98 y99 y100 y101 y102 y103 y104 y105 y106 y107 y108 y109 y110 y111 y112 y113 y114 y115 y116 y117 y118 y119 y120 y121 y122 y123 y124 y125 y126 y127 y128 y129 y130 y131 y132 y133 y134 y135 y136 y137 y138 y139 y140 y141 y142 y143 y144 y145 y146 y147 y148 y149 y150 y151 y152 y153 y154 y155 y156 y157 y158 y159 y160 y161 y162 y163 y164 y165 y166 y167 y168 y169 y170 y171 y172 y173 y174 y175 y176 y177 y178 y179 y180 y181 y182 y183 y184 y185 y186 y187 y188 y189 y190 y191 y192 y193 y194 y195 y196 y197 y198 y199 y200 y201 y202 y203 y204 y205 y206 y207 y208 y209 y210 y211 y212 y213 y214 y215 y216 y217 y218 y219 y220 y221 y222 y223 y224 y225 y226 y227 y228 y229 y230 y231 y232 y233 wc hK
            obtain ⟨rfl, s', r', hK⟩ := hK
            go_step
            go_meet
            case rel => exact ⟨rfl, s', r', hK⟩
          by_cases k2 : k = 2
          · subst k2
            refine use_blk2 (by kernel_rfl) (arm3_2 (k := 0) (HK := hid ?_) hE H9 Hb hR (by omega) _ _ _ _ _ _ _ _ _ _ _ _ _ _ _ _ _ _ _ _ _ _ _ _ _ _ _ _ _ _ _ _ _ _ _ _ _ _ _ _ _ _ _ _ _ _ _ _ _ _ _ _ _ _ _ _ _ _ _ _ _ _ _ _ _ _ _ _ _ _ _ _ _ _ _ _ _ _ _ _ _ _ _ _ _ _ _ _ _ _ _ _ _ _ _ _ _ _ _ _ _ _ _ _ _ _ _ _ _ _ _ _ _ _ _ _ _ _ _ _ _ _ _ _ _ _ _ _ _ _ _ _ _ _ _ _ _ _ _ _ _ _ _ _ _ _ _ _ _ _ _ _ _ _ _ _ _ _ _ _ _ _ _ _ _ _ _ _ _ _ _ _ _ _ _ _ _ _ _ _ _ _ _ _ _ _ _ _ _ _ _ _ _ _ _ _ _ _ _ _ _ _ _ _ _ _ _ _ _ _ _ _ _ _ _ _ _ _ _ _ _ _ _ _ _ _ _ _ _ _ _ _ _ _ _ _ _ _ _ _ _ _ _ _ _ _ _ _ _ _ _ _ _ _ _ _ _ _ _ _ _ _ _ _ _ _ _ _ _ _ _ _ _ _ _ _ _ _ _)
            intro y10 y11 y12 y13 y14 y15 y16 y17 y18 y19 y20 y21 y22 y23 y24 y66 y67 y68 y69 y70 y71 y72 y73 y74 y75 y76 y77 y78 y79 y80 y81 y82 y83 y84 y85 y86 y87 y88 y89 y90 y91 y92 y93 y94 y95 y96 y97 y98 y99 y100 y101 y102 y103 y104 y105 y106 y107 y108 y109 y110 y111 y112 y113 y114 y115 y116 y117 y118 y119 y120 y121 y122 y123 y124 y125 y126 y127 y128 y129 y130 y131 y132 y133 y134 y135 y136 y137 y138 y139 y140 y141 y142 y143 y144 y145 y146 y147 y148 y149 y150 y151 y152 y153 y154 y155 y156 y157 y158 y159 y160 y161 y162 y163 y164 y165 y166 y167 y168 y169 y170 y171 y172 y173 y174 y175 y176 y177 y178 y179 y180 y181 y182 y183 y184 y185 y186 y187 y188 y189 y190 y191 y192 y193 y194 y195 y196 y197 y198 y199 y200 y201 y202 y203 y204 y205 y206 y207 y208 y209 y210 y211 y212 y213 y214 y215 y216 y217 y218 y219 y220 y221 y222 y223 y224 y225 y226 y227 y228 y229 y230 y231 y232 y233 wc hK
            obtain ⟨rfl, s', r', hK⟩ := hK
            go_step
            go_meet
            case rel => exact ⟨rfl, s', r', hK⟩
          by_cases k3 : k = 3
          · subst k3
            refine use_blk2 (by kernel_rfl) (arm3_3 (k := 0) (HK := hid ?_) hE H9 Hb hR (by omega) _ _ _ _ _ _ _ _ _ _ _ _ _ _ _ _ _ _ _ _ _ _ _ _ _ _ _ _ _ _ _ _ _ _ _ _ _ _ _ _ _ _ _ _ _ _ _ _ _ _ _ _ _ _ _ _ _ _ _ _ _ _ _ _ _ _ _ _ _ _ _ _ _ _ _ _ _ _ _ _ _ _ _ _ _ _ _ _ _ _ _ _ _ _ _ _ _ _ _ _ _ _ _ _ _ _ _ _ _ _ _ _ _ _ _ _ _ _ _ _ _ _ _ _ _ _ _ _ _ _ _ _ _ _ _ _ _ _ _ _ _ _ _ _ _ _ _ _ _ _ _ _ _ _ _ _ _ _ _ _ _ _ _ _ _ _ _ _ _ _ _ _ _ _ _ _ _ _ _ _ _ _ _ _ _ _ _ _ _ _ _ _ _ _ _ _ _ _ _ _ _ _ _ _ _ _ _ _ _ _ _ _ _ _ _ _ _ _ _ _ _ _ _ _ _ _ _ _ _ _ _ _ _ _ _ _ _ _ _ _ _ _ _ _ _ _ _ _ _ _ _ _ _ _ _ _ _ _ _ _ _ _ _ _ _ _ _ _ _ _ _ _ _ _ _ _ _ _ _)
            intro y10 y11 y12 y13 y14 y15 y16 y17 y18 y19 y20 y21 y22 y23 y24 y66 y67 y68 y69 y70 y71 y72 y73 y74 y75 y76 y77 y78 y79 y80 y81 y82 y83 y84 y85 y86 y87 y88 y89 y90 y91 y92 y93 y94 y95 y96 y97 y98 y99 y100 y101 y102 y103 y104 y105 y106 y107 y108 y109 y110 y111 y112 y113 y114 y115 y116 y117 y118 y119 y120 y121 y122 y123 y124 y125 y126 y127 y128 y129 y130 y131 y132 y133 y134 y135 y136 y137 y138 y139 y140 y141 y142 y143 y144 y145 y146 y147 y148 y149 y150 y151 y152 y153 y154 y155 y156 y157 y158 y159 y160 y161 y162 y163 y164 y165 y166 y167 y168 y169 y170 y171 y172 y173 y174 y175 y176 y177 y178 y179 y180 y181 y182 y183 y184 y185 y186 y187 y188 y189 y190 y191 y192 y193 y194 y195 y196 y197 y198 y199 y200 y201 y202 y203 y204 y205 y206 y207 y208 y209 y210 y211 y212 y213 y214 y215 y216 y217 y218 y219 y220 y221 y222 y223 y224 y225 y226 y227 y228 y229 y230 y231 y232 y233 wc hK
            obtain ⟨rfl, s', r', hK⟩ := hK
            go_step
            go_meet
            case rel => exact ⟨rfl, s', r', hK⟩
          by_cases k4 : k = 4
          · subst k4
            refine use_blk2 (by kernel_rfl) (arm3_4 (k := 0) (HK := hid ?_) hE H9 Hb hR (by omega) _ _ _ _ _ _ _ _ _ _ _ _ _ _ _ _ _ _ _ _ _ _ _ _ _ _ _ _ _ _ _ _ _ _ _ _ _ _ _ _ _ _ _ _ _ _ _ _ _ _ _ _ _ _ _ _ _ _ _ _ _ _ _ _ _ _ _ _ _ _ _ _ _ _ _ _ _ _ _ _ _ _ _ _ _ _ _ _ _ _ _ _ _ _ _ _ _ _ _ _ _ _ _ _ _ _ _ _ _ _ _ _ _ _ _ _ _ _ _ _ _ _ _ _ _ _ _ _ _ _ _ _ _ _ _ _ _ _ _ _ _ _ _ _ _ _ _ _ _ _ _ _ _ _ _ _ _ _ _ _ _ _ _ _ _ _ _ _ _ _ _ _ _ _ _ _ _ _ _ _ _ _ _ _ _ _ _ _ _ _ _ _ _ _ _ _ _ _ _ _ _ _ _ _ _ _ _ _ _ _ _ _ _ _ _ _ _ _ _ _ _ _ _ _ _ _ _ _ _ _ _ _ _ _ _ _ _ _ _ _ _ _ _ _ _ _ _ _ _ _ _ _ _ _ _ _ _ _ _ _ _ _ _ _ _ _ _ _ _ _ _ _ _ _ _ _ _ _ _)
            intro y10 y11 y12 y13 y14 y15 y16 y17 y18 y19 y20 y21 y22 y23 y24 y66 y67 y68 y69 y70 y71 y72 y73 y74 y75 y76 y77 y78 y79 y80 y81 y82 y83 y84 y85 y86 y87 y88 y89 y90 y91 y92 y93 y94 y95 y96 y97 y98 y99 y100 y101 y102 y103 y104 y105 y106 y107 y108 y109 y110 y111 y112 y113 y114 y115 y116 y117 y118 y119 y120 y121 y122 y123 y124 y125 y126 y127 y128 y129 y130 y131 y132 y133 y134 y135 y136 y137 y138 y139 y140 y141 y142 y143 y144 y145 y146 y147 y148 y149 y150 y151 y152 y153 y154 y155 y156 y157 y158 y159 y160 y161 y162 y163 y164 y165 y166 y167 y168 y169 y170 y171 y172 y173 y174 y175 y176 y177 y178 y179 y180 y181 y182 y183 y184 y185 y186 y187 y188 y189 y190 y191 y192 y193 y194 y195 y196 y197 y198 y199 y200 y201 y202 y203 y204 y205 y206 y207 y208 y209 y210 y211 y212 y213 y214 y215 y216 y217 y218 y219 y220 y221 y222 y223 y224 y225 y226 y227 y228 y229 y230 y231 y232 y233 wc hK
            obtain ⟨rfl, s', r', hK⟩ := hK
            go_step
            go_meet
            case rel => exact ⟨rfl, s', r', hK⟩
          by_cases k5 : k = 5
          · subst k5
            cases hcv : r.cut
            · by_cases g0 : r.a.car < r.a.all.length
              · by_cases g1 : r.b.car < r.b.all.length
                · have hg := hid (And.intro hcv (And.intro g0 g1))
                  clear hcv g0 g1
                  refine use_blk2 (by kernel_rfl) (arm3_5a (k := 0) (HK := hid ?_) hE H9 Hb hR (by omega) hg.out _ _ _ _ _ _ _ _ _ _ _ _ _ _ _ _ _ _ _ _ _ _ _ _ _ _ _ _ _ _ _ _ _ _ _ _ _ _ _ _ _ _ _ _ _ _ _ _ _ _ _ _ _ _ _ _ _ _ _ _ _ _ _ _ _ _ _ _ _ _ _ _ _ _ _ _ _ _ _ _ _ _ _ _ _ _ _ _ _ _ _ _ _ _ _ _ _ _ _ _ _ _ _ _ _ _ _ _ _ _ _ _ _ _ _ _ _ _ _ _ _ _ _ _ _ _ _ _ _ _ _ _ _ _ _ _ _ _ _ _ _ _ _ _ _ _ _ _ _ _ _ _ _ _ _ _ _ _ _ _ _ _ _ _ _ _ _ _ _ _ _ _ _ _ _ _ _ _ _ _ _ _ _ _ _ _ _ _ _ _ _ _ _ _ _ _ _ _ _ _ _ _ _ _ _ _ _ _ _ _ _ _ _ _ _ _ _ _ _ _ _ _ _ _ _ _ _ _ _ _ _ _ _ _ _ _ _ _ _ _ _ _ _ _ _ _ _ _ _ _ _ _ _ _ _ _ _ _ _ _ _ _ _ _ _ _ _ _ _ _ _ _ _ _ _ _ _ _ _)
                  intro y10 y11 y12 y13 y14 y15 y16 y17 y18 y19 y20 y21 y22 y23 y24 y66 y67 y68 y69 y70 y71 y72 y73 y74 y75 y76 y77 y78 y79 y80 y81 y82 y83 y84 y85 y86 y87 y88 y89 y90 y91 y92 y93 y94 y95 y96 y97 y98 y99 y100 y101 y102 y103 y104 y105 y106 y107 y108 y109 y110 y111 y112 y113 y114 y115 y116 y117 y118 y119 y120 y121 y122 y123 y124 y125 y126 y127 y128 y129 y130 y131 y132 y133 y134 y135 y136 y137 y138 y139 y140 y141 y142 y143 y144 y145 y146 y147 y148 y149 y150 y151 y152 y153 y154 y155 y156 y157 y158 y159 y160 y161 y162 y163 y164 y165 y166 y167 y168 y169 y170 y171 y172 y173 y174 y175 y176 y177 y178 y179 y180 y181 y182 y183 y184 y185 y186 y187 y188 y189 y190 y191 y192 y193 y194 y195 y196 y197 y198 y199 y200 y201 y202 y203 y204 y205 y206 y207 y208 y209 y210 y211 y212 y213 y214 y215 y216 y217 y218 y219 y220 y221 y222 y223 y224 y225 y226 y227 y228 y229 y230 y231 y232 y233 wc hK
                  obtain ⟨rfl, s', r', hK⟩ := hK
                  go_step
                  go_meet
                  case rel => exact ⟨rfl, s', r', hK⟩
                · have hg := hid (And.intro hcv (And.intro g0 g1))
                  clear hcv g0 g1
                  refine use_blk2 (by kernel_rfl) (arm3_5b (k := 0) (HK := hid ?_) hE H9 Hb hR (by omega) hg.out _ _ _ _ _ _ _ _ _ _ _ _ _ _ _ _ _ _ _ _ _ _ _ _ _ _ _ _ _ _ _ _ _ _ _ _ _ _ _ _ _ _ _ _ _ _ _ _ _ _ _ _ _ _ _ _ _ _ _ _ _ _ _ _ _ _ _ _ _ _ _ _ _ _ _ _ _ _ _ _ _ _ _ _ _ _ _ _ _ _ _ _ _ _ _ _ _ _ _ _ _ _ _ _ _ _ _ _ _ _ _ _ _ _ _ _ _ _ _ _ _ _ _ _ _ _ _ _ _ _ _ _ _ _ _ _ _ _ _ _ _ _ _ _ _ _ _ _ _ _ _ _ _ _ _ _ _ _ _ _ _ _ _ _ _ _ _ _ _ _ _ _ _ _ _ _ _ _ _ _ _ _ _ _ _ _ _ _ _ _ _ _ _ _ _ _ _ _ _ _ _ _ _ _ _ _ _ _ _ _ _ _ _ _ _ _ _ _ _ _ _ _ _ _ _ _ _ _ _ _ _ _ _ _ _ _ _ _ _ _ _ _ _ _ _ _ _ _ _ _ _ _ _ _ _ _ _ _ _ _ _ _ _ _ _ _ _ _ _ _ _ _ _ _ _ _ _ _ _)
                  intro y10 y11 y12 y13 y14 y15 y16 y17 y18 y19 y20 y21 y22 y23 y24 y66 y67 y68 y69 y70 y71 y72 y73 y74 y75 y76 y77 y78 y79 y80 y81 y82 y83 y84 y85 y86 y87 y88 y89 y90 y91 y92 y93 y94 y95 y96 y97 y98 y99 y100 y101 y102 y103 y104 y105 y106 y107 y108 y109 y110 y111 y112 y113 y114 y115 y116 y117 y118 y119 y120 y121 y122 y123 y124 y125 y126 y127 y128 y129 y130 y131 y132 y133 y134 y135 y136 y137 y138 y139 y140 y141 y142 y143 y144 y145 y146 y147 y148 y149 y150 y151 y152 y153 y154 y155 y156 y157 y158 y159 y160 y161 y162 y163 y164 y165 y166 y167 y168 y169 y170 y171 y172 y173 y174 y175 y176 y177 y178 y179 y180 y181 y182 y183 y184 y185 y186 y187 y188 y189 y190 y191 y192 y193 y194 y195 y196 y197 y198 y199 y200 y201 y202 y203 y204 y205 y206 y207 y208 y209 y210 y211 y212 y213 y214 y215 y216 y217 y218 y219 y220 y221 y222 y223 y224 y225 y226 y227 y228 y229 y230 y231 y232 y233 wc hK
                  obtain ⟨rfl, s', r', hK⟩ := hK
                  go_step
                  go_meet
                  case rel => exact ⟨rfl, s', r', hK⟩
              · by_cases g1 : r.b.car < r.b.all.length
                · have hg := hid (And.intro hcv (And.intro g0 g1))
                  clear hcv g0 g1
                  refine use_blk2 (by kernel_rfl) (arm3_5c (k := 0) (HK := hid ?_) hE H9 Hb hR (by omega) hg.out _ _ _ _ _ _ _ _ _ _ _ _ _ _ _ _ _ _ _ _ _ _ _ _ _ _ _ _ _ _ _ _ _ _ _ _ _ _ _ _ _ _ _ _ _ _ _ _ _ _ _ _ _ _ _ _ _ _ _ _ _ _ _ _ _ _ _ _ _ _ _ _ _ _ _ _ _ _ _ _ _ _ _ _ _ _ _ _ _ _ _ _ _ _ _ _ _ _ _ _ _ _ _ _ _ _ _ _ _ _ _ _ _ _ _ _ _ _ _ _ _ _ _ _ _ _ _ _ _ _ _ _ _ _ _ _ _ _ _ _ _ _ _ _ _ _ _ _ _ _ _ _ _ _ _ _ _ _ _ _ _ _ _ _ _ _ _ _ _ _ _ _ _ _ _ _ _ _ _ _ _ _ _ _ _ _ _ _ _ _ _ _ _ _ _ _ _ _ _ _ _ _ _ _ _ _ _ _ _ _ _ _ _ _ _ _ _ _ _ _ _ _ _ _ _ _ _ _ _ _ _ _ _ _ _ _ _ _ _ _ _ _ _ _ _ _ _ _ _ _ _ _ _ _ _ _ _ _ _ _ _ _ _ _ _ _ _ _ _ _ _ _ _ _ _ _ _ _ _)
                  intro y10 y11 y12 y13 y14 y15 y16 y17 y18 y19 y20 y21 y22 y23 y24 y66 y67 y68 y69 y70 y71 y72 y73 y74 y75 y76 y77 y78 y79 y80 y81 y82 y83 y84 y85 y86 y87 y88 y89 y90 y91 y92 y93 y94 y95 y96 y97 y98 y99 y100 y101 y102 y103 y104 y105 y106 y107 y108 y109 y110 y111 y112 y113 y114 y115 y116 y117 y118 y119 y120 y121 y122 y123 y124 y125 y126 y127 y128 y129 y130 y131 y132 y133 y134 y135 y136 y137 y138 y139 y140 y141 y142 y143 y144 y145 y146 y147 y148 y149 y150 y151 y152 y153 y154 y155 y156 y157 y158 y159 y160 y161 y162 y163 y164 y165 y166 y167 y168 y169 y170 y171 y172 y173 y174 y175 y176 y177 y178 y179 y180 y181 y182 y183 y184 y185 y186 y187 y188 y189 y190 y191 y192 y193 y194 y195 y196 y197 y198 y199 y200 y201 y202 y203 y204 y205 y206 y207 y208 y209 y210 y211 y212 y213 y214 y215 y216 y217 y218 y219 y220 y221 y222 y223 y224 y225 y226 y227 y228 y229 y230 y231 y232 y233 wc hK
                  obtain ⟨rfl, s', r', hK⟩ := hK
                  go_step
                  go_meet
                  case rel => exact ⟨rfl, s', r', hK⟩
                · have hg := hid (And.intro hcv (And.intro g0 g1))
                  clear hcv g0 g1
                  refine use_blk2 (by kernel_rfl) (arm3_5d (k := 0) (HK := hid ?_) hE H9 Hb hR (by omega) hg.out _ _ _ _ _ _ _ _ _ _ _ _ _ _ _ _ _ _ _ _ _ _ _ _ _ _ _ _ _ _ _ _ _ _ _ _ _ _ _ _ _ _ _ _ _ _ _ _ _ _ _ _ _ _ _ _ _ _ _ _ _ _ _ _ _ _ _ _ _ _ _ _ _ _ _ _ _ _ _ _ _ _ _ _ _ _ _ _ _ _ _ _ _ _ _ _ _ _ _ _ _ _ _ _ _ _ _ _ _ _ _ _ _ _ _ _ _ _ _ _ _ _ _ _ _ _ _ _ _ _ _ _ _ _ _ _ _ _ _ _ _ _ _ _ _ _ _ _ _ _ _ _ _ _ _ _ _ _ _ _ _ _ _ _ _ _ _ _ _ _ _ _ _ _ _ _ _ _ _ _ _ _ _ _ _ _ _ _ _ _ _ _ _ _ _ _ _ _ _ _ _ _ _ _ _ _ _ _ _ _ _ _ _ _ _ _ _ _ _ _ _ _ _ _ _ _ _ _ _ _ _ _ _ _ _ _ _ _ _ _ _ _ _ _ _ _ _ _ _ _ _ _ _ _ _ _ _ _ _ _ _ _ _ _ _ _ _ _ _ _ _ _ _ _ _ _ _ _ _)
                  intro y10 y11 y12 y13 y14 y15 y16 y17 y18 y19 y20 y21 y22 y23 y24 y66 y67 y68 y69 y70 y71 y72 y73 y74 y75 y76 y77 y78 y79 y80 y81 y82 y83 y84 y85 y86 y87 y88 y89 y90 y91 y92 y93 y94 y95 y96 y97 y98 y99 y100 y101 y102 y103 y104 y105 y106 y107 y108 y109 y110 y111 y112 y113 y114 y115 y116 y117 y118 y119 y120 y121 y122 y123 y124 y125 y126 y127 y128 y129 y130 y131 y132 y133 y134 y135 y136 y137 y138 y139 y140 y141 y142 y143 y144 y145 y146 y147 y148 y149 y150 y151 y152 y153 y154 y155 y156 y157 y158 y159 y160 y161 y162 y163 y164 y165 y166 y167 y168 y169 y170 y171 y172 y173 y174 y175 y176 y177 y178 y179 y180 y181 y182 y183 y184 y185 y186 y187 y188 y189 y190 y191 y192 y193 y194 y195 y196 y197 y198 y199 y200 y201 y202 y203 y204 y205 y206 y207 y208 y209 y210 y211 y212 y213 y214 y215 y216 y217 y218 y219 y220 y221 y222 y223 y224 y225 y226 y227 y228 y229 y230 y231 y232 y233 wc hK
                  obtain ⟨rfl, s', r', hK⟩ := hK
                  go_step
                  go_meet
                  case rel => exact ⟨rfl, s', r', hK⟩
            · have hg := hid hcv
              clear hcv
              refine use_blk2 (by kernel_rfl) (arm3_5 (k := 0) (HK := hid ?_) hE H9 Hb hR (by omega) hg.out _ _ _ _ _ _ _ _ _ _ _ _ _ _ _ _ _ _ _ _ _ _ _ _ _ _ _ _ _ _ _ _ _ _ _ _ _ _ _ _ _ _ _ _ _ _ _ _ _ _ _ _ _ _ _ _ _ _ _ _ _ _ _ _ _ _ _ _ _ _ _ _ _ _ _ _ _ _ _ _ _ _ _ _ _ _ _ _ _ _ _ _ _ _ _ _ _ _ _ _ _ _ _ _ _ _ _ _ _ _ _ _ _ _ _ _ _ _ _ _ _ _ _ _ _ _ _ _ _ _ _ _ _ _ _ _ _ _ _ _ _ _ _ _ _ _ _ _ _ _ _ _ _ _ _ _ _ _ _ _ _ _ _ _ _ _ _ _ _ _ _ _ _ _ _ _ _ _ _ _ _ _ _ _ _ _ _ _ _ _ _ _ _ _ _ _ _ _ _ _ _ _ _ _ _ _ _ _ _ _ _ _ _ _ _ _ _ _ _ _ _ _ _ _ _ _ _ _ _ _ _ _ _ _ _ _ _ _ _ _ _ _ _ _ _ _ _ _ _ _ _ _ _ _ _ _ _ _ _ _ _ _ _ _ _ _ _ _ _ _ _ _ _ _ _ _ _ _ _)
              intro y10 y11 y12 y13 y14 y15 y16 y17 y18 y19 y20 y21 y22 y23 y24 y66 y67 y68 y69 y70 y71 y72 y73 y74 y75 y76 y77 y78 y79 y80 y81 y82 y83 y84 y85 y86 y87 y88 y89 y90 y91 y92 y93 y94 y95 y96 y97 y98 y99 y100 y101 y102 y103 y104 y105 y106 y107 y108 y109 y110 y111 y112 y113 y114 y115 y116 y117 y118 y119 y120 y121 y122 y123 y124 y125 y126 y127 y128 y129 y130 y131 y132 y133 y134 y135 y136 y137 y138 y139 y140 y141 y142 y143 y144 y145 y146 y147 y148 y149 y150 y151 y152 y153 y154 y155 y156 y157 y158 y159 y160 y161 y162 y163 y164 y165 y166 y167 y168 y169 y170 y171 y172 y173 y174 y175 y176 y177 y178 y179 y180 y181 y182 y183 y184 y185 y186 y187 y188 y189 y190 y191 y192 y193 y194 y195 y196 y197 y198 y199 y200 y201 y202 y203 y204 y205 y206 y207 y208 y209 y210 y211 y212 y213 y214 y215 y216 y217 y218 y219 y220 y221 y222 y223 y224 y225 y226 y227 y228 y229 y230 y231 y232 y233 wc hK
              obtain ⟨rfl, s', r', hK⟩ := hK
              go_step
              go_meet
              case rel => exact ⟨rfl, s', r', hK⟩
          have hk := hid (And.intro k1 (And.intro k2 (And.intro k3 (And.intro k4 k5))))
          clear k1 k2 k3 k4 k5
          refine use_blk2 (by kernel_rfl) (arm3_6 (HK := hid ?_) hE H9 Hb hR (by omega) hk.out.1 hk.out.2.1 hk.out.2.2.1 hk.out.2.2.2.1 hk.out.2.2.2.2 _ _ _ _ _ _ _ _ _ _ _ _ _ _ _ _ _ _ _ _ _ _ _ _ _ _ _ _ _ _ _ _ _ _ _ _ _ _ _ _ _ _ _ _ _ _ _ _ _ _ _ _ _ _ _ _ _ _ _ _ _ _ _ _ _ _ _ _ _ _ _ _ _ _ _ _ _ _ _ _ _ _ _ _ _ _ _ _ _ _ _ _ _ _ _ _ _ _ _ _ _ _ _ _ _ _ _ _ _ _ _ _ _ _ _ _ _ _ _ _ _ _ _ _ _ _ _ _ _ _ _ _ _ _ _ _ _ _ _ _ _ _ _ _ _ _ _ _ _ _ _ _ _ _ _ _ _ _ _ _ _ _ _ _ _ _ _ _ _ _ _ _ _ _ _ _ _ _ _ _ _ _ _ _ _ _ _ _ _ _ _ _ _ _ _ _ _ _ _ _ _ _ _ _ _ _ _ _ _ _ _ _ _ _ _ _ _ _ _ _ _ _ _ _ _ _ _ _ _ _ _ _ _ _ _ _ _ _ _ _ _ _ _ _ _ _ _ _ _ _ _ _ _ _ _ _ _ _ _ _ _ _ _ _ _ _ _ _ _ _ _ _ _ _ _ _ _ _ _)
          intro y10 y11 y12 y13 y14 y15 y16 y17 y18 y19 y20 y21 y22 y23 y24 y66 y67 y68 y69 y70 y71 y72 y73 y74 y75 y76 y77 y78 y79 y80 y81 y82 y83 y84 y85 y86 y87 y88 y89 y90 y91 y92 y93 y94 y95 y96 y97 y98 y99 y100 y101 y102 y103 y104 y105 y106 y107 y108 y109 y110 y111 y112 y113 y114 y115 y116 y117 y118 y119 y120 y121 y122 y123 y124 y125 y126 y127 y128 y129 y130 y131 y132 y133 y134 y135 y136 y137 y138 y139 y140 y141 y142 y143 y144 y145 y146 y147 y148 y149 y150 y151 y152 y153 y154 y155 y156 y157 y158 y159 y160 y161 y162 y163 y164 y165 y166 y167 y168 y169 y170 y171 y172 y173 y174 y175 y176 y177 y178 y179 y180 y181 y182 y183 y184 y185 y186 y187 y188 y189 y190 y191 y192 y193 y194 y195 y196 y197 y198 y199 y200 y201 y202 y203 y204 y205 y206 y207 y208 y209 y210 y211 y212 y213 y214 y215 y216 y217 y218 y219 y220 y221 y222 y223 y224 y225 y226 y227 y228 y229 y230 y231 y232 y233 wc hK
          obtain ⟨rfl, s', r', hK⟩ := hK
          go_step
          go_meet
          case rel => exact ⟨rfl, s', r', hK⟩
        case rest =>
          as_aux_lemma =>
            obtain ⟨rfl, s, r, hR, hs⟩ := hcut
            have hsok := hR.sok
            have hrok := hR.rok (by omega)
            have hcutEq := hR.cut
            clear H9 Hb
            have dB : ∀ (w' : World), Sep w' (base B :: pairA p s :: refA q r :: R) → Calls Tryd.prog 23 #[.pointer (some ⟨p, 0, none⟩)] w' fun x w'' => x = .returned (.bool r.cut) ∧ w' = w'' := fun w' h => by
              have := sBroken_any h
              rw [hcutEq] at this
              exact this
            have m9 : wc.cell? ⟨q, 9, none⟩ = some (.bool r.cut) := by
              obtain ⟨A0, A1, c0, c1, hq⟩ := ref_open (Sep.re (xs := [_, _, _]) hs [0, 2, 1] (by decide) rfl)
              exact hq.swap.cells.1 9
            have d := dB wc.drew (hs.drewN 1)
            have HR := hid hR
            have Hs := hid hs
            clear hs dB hcutEq hR
            go_wp2_with fail
            go_region_held3 (fun w' => w'.cell? ⟨q, 9, none⟩ = some (.bool r.cut)) (assumption)
              (first
                | (go_at_call 23; refine d.mono ?_; rintro x wa ⟨rfl, rfl⟩))
            obtain ⟨wd, hwd⟩ : ∃ wd, wc.drew = wd := ⟨_, rfl⟩
            have Hs2 : Sep wd (base B :: pairA p s :: refA q r :: R) := hwd ▸ Hs.out.drewN 1
            rw [hwd]
            clear hwd d m9 Hs
            have Hs := hid Hs2
            clear Hs2
            go_wp2_with fail
            go_loopg [25] 4 (fun g v wr => ∃ ej : Int, v = .int .i64 ej ∧ -1 ≤ ej ∧ (g : Int) = 3 - ej ∧ Sep wr (base B :: pairA p s :: refA q r :: R))
            case atStart => exact ⟨-1, rfl, by decide, rfl, Hs.out⟩
            case round =>
              obtain ⟨ej, rfl, hj1, hj2, hs⟩ := hrel
              clear Hs
              by_cases hj : ej ≤ 2
              · have e1 := HR.out.roomEq ej
                have e2 := HR.out.flightEq ej
                have e3 := HR.out.inboxEq ej
                have e4 := HR.out.endedEq ej
                have d1 : ∀ w', Sep w' (base B :: pairA p s :: refA q r :: R) → _ := fun w' h => rFree_at h hrok ej
                have d2 : ∀ w', Sep w' (base B :: pairA p s :: refA q r :: R) → _ := fun w' h => rFlight_at h hrok ej
                have d3 : ∀ w', Sep w' (base B :: pairA p s :: refA q r :: R) → _ := fun w' h => rInbox_at h hrok ej
                have d4 : ∀ w', Sep w' (base B :: pairA p s :: refA q r :: R) → _ := fun w' h => rEnded_at h hrok ej
                rw [← e1] at d1
                rw [← e2] at d2
                rw [← e3] at d3
                rw [← e4] at d4
                have D := hid (And.intro d1 (And.intro d2 (And.intro d3 d4)))
                clear d1 d2 d3 d4 e1 e2 e3 e4
                go_wp2_with (first
                  | (go_at_call 24; refine (sRoom_any ‹Sep _ (base B :: pairA p s :: _)› hsok _).mono ?_; rintro x wa ⟨rfl, ha⟩)
                  | (go_at_call 25; refine (D.out.1 _ ‹Sep _ (base B :: pairA p s :: _)›).mono ?_; rintro x wa ⟨rfl, ha⟩)
                  | (go_at_call 26; refine (sFlight_any ‹Sep _ (base B :: pairA p s :: _)› hsok _).mono ?_; rintro x wa ⟨rfl, ha⟩)
                  | (go_at_call 27; refine (D.out.2.1 _ ‹Sep _ (base B :: pairA p s :: _)›).mono ?_; rintro x wa ⟨rfl, ha⟩)
                  | (go_at_call 28; refine (sInbox_any ‹Sep _ (base B :: pairA p s :: _)› hsok _).mono ?_; rintro x wa ⟨rfl, ha⟩)
                  | (go_at_call 29; refine (D.out.2.2.1 _ ‹Sep _ (base B :: pairA p s :: _)›).mono ?_; rintro x wa ⟨rfl, ha⟩)
                  | (go_at_call 30; refine (sEnded_any ‹Sep _ (base B :: pairA p s :: _)› hsok _).mono ?_; rintro x wa ⟨rfl, ha⟩)
                  | (go_at_call 31; refine (D.out.2.2.2 _ ‹Sep _ (base B :: pairA p s :: _)›).mono ?_; rintro x wa ⟨rfl, ha⟩))
                go_roundg (gk - 1)
                case measure => omega
                case rel => exact ⟨ej + 1, by simp, by omega, by omega, ‹_›⟩
              · have Hs := hid hs
                clear hs
                go_wp2
                go_roundg (301 - i)
                case measure => omega
                case rel => exact ⟨i + 1, s, r, by omega, by omega, by simp, HR.out, Hs.out⟩
    · have := hid hs
      go_wp2
      go_ret
      exact ⟨rfl, this.out.drop1.drop1⟩
end Go.Proofs.YtgegpjkihbhndaaDoor
