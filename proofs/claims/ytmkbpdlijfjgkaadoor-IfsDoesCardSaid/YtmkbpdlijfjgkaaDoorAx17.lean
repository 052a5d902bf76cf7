/- The words of the engine as one simp set. -/
import Derived.Test.YtmkbpdlijfjgkaaDoorAx16
namespace Go.AX
set_option linter.unusedSimpArgs false
set_option linter.unusedVariables false
open Go Go.RowKit
theorem arr_ext {α : Type} {l : List α} {i j : Nat} : l.toArray.extract i j = ((l.drop i).take (j - i)).toArray := by
  apply Array.ext_getElem?
  intro k
  simp [Array.getElem?_extract, List.getElem?_take, List.getElem?_drop]
theorem i64km5 : IntKind.i64.wrap (-5) = -5 := by decide
theorem i64km4 : IntKind.i64.wrap (-4) = -4 := by decide
theorem i64km3 : IntKind.i64.wrap (-3) = -3 := by decide
theorem i64km2 : IntKind.i64.wrap (-2) = -2 := by decide
theorem i64km1 : IntKind.i64.wrap (-1) = -1 := by decide
theorem i64k0 : IntKind.i64.wrap (0) = 0 := by decide
theorem i64k1 : IntKind.i64.wrap (1) = 1 := by decide
theorem i64k2 : IntKind.i64.wrap (2) = 2 := by decide
theorem i64k3 : IntKind.i64.wrap (3) = 3 := by decide
theorem i64k4 : IntKind.i64.wrap (4) = 4 := by decide
theorem i64k5 : IntKind.i64.wrap (5) = 5 := by decide
theorem i64k6 : IntKind.i64.wrap (6) = 6 := by decide
theorem i64k7 : IntKind.i64.wrap (7) = 7 := by decide
theorem i64k8 : IntKind.i64.wrap (8) = 8 := by decide
theorem i64k9 : IntKind.i64.wrap (9) = 9 := by decide
theorem i64k10 : IntKind.i64.wrap (10) = 10 := by decide
theorem i64k11 : IntKind.i64.wrap (11) = 11 := by decide
theorem i64k12 : IntKind.i64.wrap (12) = 12 := by decide
theorem i64k13 : IntKind.i64.wrap (13) = 13 := by decide
theorem i64k14 : IntKind.i64.wrap (14) = 14 := by decide
theorem i64k15 : IntKind.i64.wrap (15) = 15 := by decide
theorem i64k16 : IntKind.i64.wrap (16) = 16 := by decide
theorem i64k17 : IntKind.i64.wrap (17) = 17 := by decide
theorem i64k18 : IntKind.i64.wrap (18) = 18 := by decide
theorem i64k19 : IntKind.i64.wrap (19) = 19 := by decide
theorem i64k20 : IntKind.i64.wrap (20) = 20 := by decide
theorem i64k21 : IntKind.i64.wrap (21) = 21 := by decide
theorem i64k22 : IntKind.i64.wrap (22) = 22 := by decide
theorem i64k23 : IntKind.i64.wrap (23) = 23 := by decide
theorem i64k24 : IntKind.i64.wrap (24) = 24 := by decide
theorem i64k25 : IntKind.i64.wrap (25) = 25 := by decide
theorem i64k26 : IntKind.i64.wrap (26) = 26 := by decide
theorem i64k27 : IntKind.i64.wrap (27) = 27 := by decide
theorem i64k28 : IntKind.i64.wrap (28) = 28 := by decide
theorem i64k29 : IntKind.i64.wrap (29) = 29 := by decide
theorem i64k30 : IntKind.i64.wrap (30) = 30 := by decide
theorem i64k31 : IntKind.i64.wrap (31) = 31 := by decide
theorem i64k32 : IntKind.i64.wrap (32) = 32 := by decide
theorem i64k33 : IntKind.i64.wrap (33) = 33 := by decide
theorem i64k34 : IntKind.i64.wrap (34) = 34 := by decide
theorem i64k35 : IntKind.i64.wrap (35) = 35 := by decide
theorem i64k36 : IntKind.i64.wrap (36) = 36 := by decide
theorem i64k37 : IntKind.i64.wrap (37) = 37 := by decide
theorem i64k38 : IntKind.i64.wrap (38) = 38 := by decide
theorem i64k39 : IntKind.i64.wrap (39) = 39 := by decide
theorem i64k40 : IntKind.i64.wrap (40) = 40 := by decide
theorem i64k41 : IntKind.i64.wrap (41) = 41 := by decide
theorem i64k42 : IntKind.i64.wrap (42) = 42 := by decide
theorem i64k43 : IntKind.i64.wrap (43) = 43 := by decide
theorem i64k44 : IntKind.i64.wrap (44) = 44 := by decide
theorem i64k45 : IntKind.i64.wrap (45) = 45 := by decide
theorem i64k46 : IntKind.i64.wrap (46) = 46 := by decide
theorem i64k47 : IntKind.i64.wrap (47) = 47 := by decide
theorem i64k48 : IntKind.i64.wrap (48) = 48 := by decide
theorem i64k49 : IntKind.i64.wrap (49) = 49 := by decide
theorem i64k50 : IntKind.i64.wrap (50) = 50 := by decide
theorem i64k51 : IntKind.i64.wrap (51) = 51 := by decide
theorem i64k52 : IntKind.i64.wrap (52) = 52 := by decide
theorem i64k53 : IntKind.i64.wrap (53) = 53 := by decide
theorem i64k54 : IntKind.i64.wrap (54) = 54 := by decide
theorem i64k55 : IntKind.i64.wrap (55) = 55 := by decide
theorem i64k56 : IntKind.i64.wrap (56) = 56 := by decide
theorem i64k57 : IntKind.i64.wrap (57) = 57 := by decide
theorem i64k58 : IntKind.i64.wrap (58) = 58 := by decide
theorem i64k59 : IntKind.i64.wrap (59) = 59 := by decide
theorem i64k60 : IntKind.i64.wrap (60) = 60 := by decide
theorem i64k61 : IntKind.i64.wrap (61) = 61 := by decide
theorem i64k62 : IntKind.i64.wrap (62) = 62 := by decide
theorem i64k63 : IntKind.i64.wrap (63) = 63 := by decide
theorem i64k64 : IntKind.i64.wrap (64) = 64 := by decide
theorem i64k65 : IntKind.i64.wrap (65) = 65 := by decide
theorem i64k66 : IntKind.i64.wrap (66) = 66 := by decide
theorem i64k67 : IntKind.i64.wrap (67) = 67 := by decide
theorem i64k68 : IntKind.i64.wrap (68) = 68 := by decide
theorem i64k69 : IntKind.i64.wrap (69) = 69 := by decide
theorem i64k70 : IntKind.i64.wrap (70) = 70 := by decide
theorem i64k71 : IntKind.i64.wrap (71) = 71 := by decide
theorem i64k72 : IntKind.i64.wrap (72) = 72 := by decide
theorem i64k73 : IntKind.i64.wrap (73) = 73 := by decide
theorem i64k74 : IntKind.i64.wrap (74) = 74 := by decide
theorem i64k75 : IntKind.i64.wrap (75) = 75 := by decide
theorem i64k76 : IntKind.i64.wrap (76) = 76 := by decide
theorem i64k77 : IntKind.i64.wrap (77) = 77 := by decide
theorem i64k78 : IntKind.i64.wrap (78) = 78 := by decide
theorem i64k79 : IntKind.i64.wrap (79) = 79 := by decide
theorem i64k80 : IntKind.i64.wrap (80) = 80 := by decide
theorem i64k81 : IntKind.i64.wrap (81) = 81 := by decide
theorem i64k82 : IntKind.i64.wrap (82) = 82 := by decide
theorem i64k83 : IntKind.i64.wrap (83) = 83 := by decide
theorem i64k84 : IntKind.i64.wrap (84) = 84 := by decide
theorem i64k85 : IntKind.i64.wrap (85) = 85 := by decide
theorem i64k86 : IntKind.i64.wrap (86) = 86 := by decide
theorem i64k87 : IntKind.i64.wrap (87) = 87 := by decide
theorem i64k88 : IntKind.i64.wrap (88) = 88 := by decide
theorem i64k89 : IntKind.i64.wrap (89) = 89 := by decide
theorem i64k90 : IntKind.i64.wrap (90) = 90 := by decide
theorem i64k91 : IntKind.i64.wrap (91) = 91 := by decide
theorem i64k92 : IntKind.i64.wrap (92) = 92 := by decide
theorem i64k93 : IntKind.i64.wrap (93) = 93 := by decide
theorem i64k94 : IntKind.i64.wrap (94) = 94 := by decide
theorem i64k95 : IntKind.i64.wrap (95) = 95 := by decide
theorem i64k96 : IntKind.i64.wrap (96) = 96 := by decide
theorem i64k97 : IntKind.i64.wrap (97) = 97 := by decide
theorem i64k98 : IntKind.i64.wrap (98) = 98 := by decide
theorem i64k99 : IntKind.i64.wrap (99) = 99 := by decide
theorem i64k100 : IntKind.i64.wrap (100) = 100 := by decide
theorem i64k101 : IntKind.i64.wrap (101) = 101 := by decide
theorem i64k102 : IntKind.i64.wrap (102) = 102 := by decide
theorem i64k103 : IntKind.i64.wrap (103) = 103 := by decide
theorem i64k104 : IntKind.i64.wrap (104) = 104 := by decide
theorem i64k105 : IntKind.i64.wrap (105) = 105 := by decide
theorem i64k106 : IntKind.i64.wrap (106) = 106 := by decide
theorem i64k107 : IntKind.i64.wrap (107) = 107 := by decide
theorem i64k108 : IntKind.i64.wrap (108) = 108 := by decide
theorem i64k109 : IntKind.i64.wrap (109) = 109 := by decide
theorem i64k110 : IntKind.i64.wrap (110) = 110 := by decide
theorem i64k111 : IntKind.i64.wrap (111) = 111 := by decide
theorem i64k112 : IntKind.i64.wrap (112) = 112 := by decide
theorem i64k113 : IntKind.i64.wrap (113) = 113 := by decide
theorem i64k114 : IntKind.i64.wrap (114) = 114 := by decide
theorem i64k115 : IntKind.i64.wrap (115) = 115 := by decide
theorem i64k116 : IntKind.i64.wrap (116) = 116 := by decide
theorem i64k117 : IntKind.i64.wrap (117) = 117 := by decide
theorem i64k118 : IntKind.i64.wrap (118) = 118 := by decide
theorem i64k119 : IntKind.i64.wrap (119) = 119 := by decide
theorem i64k120 : IntKind.i64.wrap (120) = 120 := by decide
theorem i64k121 : IntKind.i64.wrap (121) = 121 := by decide
theorem i64k122 : IntKind.i64.wrap (122) = 122 := by decide
theorem i64k123 : IntKind.i64.wrap (123) = 123 := by decide
theorem i64k124 : IntKind.i64.wrap (124) = 124 := by decide
theorem i64k125 : IntKind.i64.wrap (125) = 125 := by decide
theorem i64k126 : IntKind.i64.wrap (126) = 126 := by decide
theorem i64k127 : IntKind.i64.wrap (127) = 127 := by decide
theorem i64k128 : IntKind.i64.wrap (128) = 128 := by decide
theorem i64k129 : IntKind.i64.wrap (129) = 129 := by decide
theorem i64k130 : IntKind.i64.wrap (130) = 130 := by decide
theorem i64k131 : IntKind.i64.wrap (131) = 131 := by decide
theorem i64k132 : IntKind.i64.wrap (132) = 132 := by decide
theorem i64k133 : IntKind.i64.wrap (133) = 133 := by decide
theorem i64k134 : IntKind.i64.wrap (134) = 134 := by decide
theorem i64k135 : IntKind.i64.wrap (135) = 135 := by decide
theorem i64k136 : IntKind.i64.wrap (136) = 136 := by decide
theorem i64k137 : IntKind.i64.wrap (137) = 137 := by decide
theorem i64k138 : IntKind.i64.wrap (138) = 138 := by decide
theorem i64k139 : IntKind.i64.wrap (139) = 139 := by decide
theorem i64k140 : IntKind.i64.wrap (140) = 140 := by decide
theorem i64k141 : IntKind.i64.wrap (141) = 141 := by decide
theorem i64k142 : IntKind.i64.wrap (142) = 142 := by decide
theorem i64k143 : IntKind.i64.wrap (143) = 143 := by decide
theorem i64k144 : IntKind.i64.wrap (144) = 144 := by decide
theorem i64k145 : IntKind.i64.wrap (145) = 145 := by decide
theorem i64k146 : IntKind.i64.wrap (146) = 146 := by decide
theorem i64k147 : IntKind.i64.wrap (147) = 147 := by decide
theorem i64k148 : IntKind.i64.wrap (148) = 148 := by decide
theorem i64k149 : IntKind.i64.wrap (149) = 149 := by decide
theorem i64k150 : IntKind.i64.wrap (150) = 150 := by decide
theorem i64k151 : IntKind.i64.wrap (151) = 151 := by decide
theorem i64k152 : IntKind.i64.wrap (152) = 152 := by decide
theorem i64k153 : IntKind.i64.wrap (153) = 153 := by decide
theorem i64k154 : IntKind.i64.wrap (154) = 154 := by decide
theorem i64k155 : IntKind.i64.wrap (155) = 155 := by decide
theorem i64k156 : IntKind.i64.wrap (156) = 156 := by decide
theorem i64k157 : IntKind.i64.wrap (157) = 157 := by decide
theorem i64k158 : IntKind.i64.wrap (158) = 158 := by decide
theorem i64k159 : IntKind.i64.wrap (159) = 159 := by decide
theorem i64k160 : IntKind.i64.wrap (160) = 160 := by decide
theorem i64k161 : IntKind.i64.wrap (161) = 161 := by decide
theorem i64k162 : IntKind.i64.wrap (162) = 162 := by decide
theorem i64k163 : IntKind.i64.wrap (163) = 163 := by decide
theorem i64k164 : IntKind.i64.wrap (164) = 164 := by decide
theorem i64k165 : IntKind.i64.wrap (165) = 165 := by decide
theorem i64k166 : IntKind.i64.wrap (166) = 166 := by decide
theorem i64k167 : IntKind.i64.wrap (167) = 167 := by decide
theorem i64k168 : IntKind.i64.wrap (168) = 168 := by decide
theorem i64k169 : IntKind.i64.wrap (169) = 169 := by decide
theorem i64k170 : IntKind.i64.wrap (170) = 170 := by decide
theorem i64k171 : IntKind.i64.wrap (171) = 171 := by decide
theorem i64k172 : IntKind.i64.wrap (172) = 172 := by decide
theorem i64k173 : IntKind.i64.wrap (173) = 173 := by decide
theorem i64k174 : IntKind.i64.wrap (174) = 174 := by decide
theorem i64k175 : IntKind.i64.wrap (175) = 175 := by decide
theorem i64k176 : IntKind.i64.wrap (176) = 176 := by decide
theorem i64k177 : IntKind.i64.wrap (177) = 177 := by decide
theorem i64k178 : IntKind.i64.wrap (178) = 178 := by decide
theorem i64k179 : IntKind.i64.wrap (179) = 179 := by decide
theorem i64k180 : IntKind.i64.wrap (180) = 180 := by decide
theorem i64k181 : IntKind.i64.wrap (181) = 181 := by decide
theorem i64k182 : IntKind.i64.wrap (182) = 182 := by decide
theorem i64k183 : IntKind.i64.wrap (183) = 183 := by decide
theorem i64k184 : IntKind.i64.wrap (184) = 184 := by decide
theorem i64k185 : IntKind.i64.wrap (185) = 185 := by decide
theorem i64k186 : IntKind.i64.wrap (186) = 186 := by decide
theorem i64k187 : IntKind.i64.wrap (187) = 187 := by decide
theorem i64k188 : IntKind.i64.wrap (188) = 188 := by decide
theorem i64k189 : IntKind.i64.wrap (189) = 189 := by decide
theorem i64k190 : IntKind.i64.wrap (190) = 190 := by decide
theorem i64k191 : IntKind.i64.wrap (191) = 191 := by decide
theorem i64k192 : IntKind.i64.wrap (192) = 192 := by decide
theorem i64k193 : IntKind.i64.wrap (193) = 193 := by decide
theorem i64k194 : IntKind.i64.wrap (194) = 194 := by decide
theorem i64k195 : IntKind.i64.wrap (195) = 195 := by decide
theorem i64k196 : IntKind.i64.wrap (196) = 196 := by decide
theorem i64k197 : IntKind.i64.wrap (197) = 197 := by decide
theorem i64k198 : IntKind.i64.wrap (198) = 198 := by decide
theorem i64k199 : IntKind.i64.wrap (199) = 199 := by decide
theorem i64k200 : IntKind.i64.wrap (200) = 200 := by decide
theorem i64k201 : IntKind.i64.wrap (201) = 201 := by decide
theorem i64k202 : IntKind.i64.wrap (202) = 202 := by decide
theorem i64k203 : IntKind.i64.wrap (203) = 203 := by decide
theorem i64k204 : IntKind.i64.wrap (204) = 204 := by decide
theorem i64k205 : IntKind.i64.wrap (205) = 205 := by decide
theorem i64k206 : IntKind.i64.wrap (206) = 206 := by decide
theorem i64k207 : IntKind.i64.wrap (207) = 207 := by decide
theorem i64k208 : IntKind.i64.wrap (208) = 208 := by decide
theorem i64k209 : IntKind.i64.wrap (209) = 209 := by decide
theorem i64k210 : IntKind.i64.wrap (210) = 210 := by decide
theorem i64k211 : IntKind.i64.wrap (211) = 211 := by decide
theorem i64k212 : IntKind.i64.wrap (212) = 212 := by decide
theorem i64k213 : IntKind.i64.wrap (213) = 213 := by decide
theorem i64k214 : IntKind.i64.wrap (214) = 214 := by decide
theorem i64k215 : IntKind.i64.wrap (215) = 215 := by decide
theorem i64k216 : IntKind.i64.wrap (216) = 216 := by decide
theorem i64k217 : IntKind.i64.wrap (217) = 217 := by decide
theorem i64k218 : IntKind.i64.wrap (218) = 218 := by decide
theorem i64k219 : IntKind.i64.wrap (219) = 219 := by decide
theorem i64k220 : IntKind.i64.wrap (220) = 220 := by decide
theorem i64k221 : IntKind.i64.wrap (221) = 221 := by decide
theorem i64k222 : IntKind.i64.wrap (222) = 222 := by decide
theorem i64k223 : IntKind.i64.wrap (223) = 223 := by decide
theorem i64k224 : IntKind.i64.wrap (224) = 224 := by decide
theorem i64k225 : IntKind.i64.wrap (225) = 225 := by decide
theorem i64k226 : IntKind.i64.wrap (226) = 226 := by decide
theorem i64k227 : IntKind.i64.wrap (227) = 227 := by decide
theorem i64k228 : IntKind.i64.wrap (228) = 228 := by decide
theorem i64k229 : IntKind.i64.wrap (229) = 229 := by decide
theorem i64k230 : IntKind.i64.wrap (230) = 230 := by decide
theorem i64k231 : IntKind.i64.wrap (231) = 231 := by decide
theorem i64k232 : IntKind.i64.wrap (232) = 232 := by decide
theorem i64k233 : IntKind.i64.wrap (233) = 233 := by decide
theorem i64k234 : IntKind.i64.wrap (234) = 234 := by decide
theorem i64k235 : IntKind.i64.wrap (235) = 235 := by decide
theorem i64k236 : IntKind.i64.wrap (236) = 236 := by decide
theorem i64k237 : IntKind.i64.wrap (237) = 237 := by decide
theorem i64k238 : IntKind.i64.wrap (238) = 238 := by decide
theorem i64k239 : IntKind.i64.wrap (239) = 239 := by decide
theorem i64k240 : IntKind.i64.wrap (240) = 240 := by decide
theorem i64k241 : IntKind.i64.wrap (241) = 241 := by decide
theorem i64k242 : IntKind.i64.wrap (242) = 242 := by decide
theorem i64k243 : IntKind.i64.wrap (243) = 243 := by decide
theorem i64k244 : IntKind.i64.wrap (244) = 244 := by decide
theorem i64k245 : IntKind.i64.wrap (245) = 245 := by decide
theorem i64k246 : IntKind.i64.wrap (246) = 246 := by decide
theorem i64k247 : IntKind.i64.wrap (247) = 247 := by decide
theorem i64k248 : IntKind.i64.wrap (248) = 248 := by decide
theorem i64k249 : IntKind.i64.wrap (249) = 249 := by decide
theorem i64k250 : IntKind.i64.wrap (250) = 250 := by decide
theorem i64k251 : IntKind.i64.wrap (251) = 251 := by decide
theorem i64k252 : IntKind.i64.wrap (252) = 252 := by decide
theorem i64k253 : IntKind.i64.wrap (253) = 253 := by decide
theorem i64k254 : IntKind.i64.wrap (254) = 254 := by decide
theorem i64k255 : IntKind.i64.wrap (255) = 255 := by decide
theorem i64k256 : IntKind.i64.wrap (256) = 256 := by decide
theorem i64k257 : IntKind.i64.wrap (257) = 257 := by decide
theorem i64k258 : IntKind.i64.wrap (258) = 258 := by decide
theorem i64k259 : IntKind.i64.wrap (259) = 259 := by decide
theorem i64k260 : IntKind.i64.wrap (260) = 260 := by decide
theorem u8k0 : IntKind.u8.wrap 0 = 0 := by decide
theorem u8k1 : IntKind.u8.wrap 1 = 1 := by decide
theorem u8k2 : IntKind.u8.wrap 2 = 2 := by decide
theorem u8k3 : IntKind.u8.wrap 3 = 3 := by decide
theorem u8k4 : IntKind.u8.wrap 4 = 4 := by decide
theorem u8k5 : IntKind.u8.wrap 5 = 5 := by decide
theorem u8k6 : IntKind.u8.wrap 6 = 6 := by decide
theorem u8k7 : IntKind.u8.wrap 7 = 7 := by decide
theorem u8k8 : IntKind.u8.wrap 8 = 8 := by decide
theorem u8k9 : IntKind.u8.wrap 9 = 9 := by decide
theorem u8k10 : IntKind.u8.wrap 10 = 10 := by decide
theorem u8k11 : IntKind.u8.wrap 11 = 11 := by decide
theorem u8k12 : IntKind.u8.wrap 12 = 12 := by decide
theorem u8k13 : IntKind.u8.wrap 13 = 13 := by decide
theorem u8k14 : IntKind.u8.wrap 14 = 14 := by decide
theorem u8k15 : IntKind.u8.wrap 15 = 15 := by decide
theorem u8k16 : IntKind.u8.wrap 16 = 16 := by decide
theorem u8k17 : IntKind.u8.wrap 17 = 17 := by decide
theorem u8k18 : IntKind.u8.wrap 18 = 18 := by decide
theorem u8k19 : IntKind.u8.wrap 19 = 19 := by decide
theorem u8k20 : IntKind.u8.wrap 20 = 20 := by decide
theorem u8k21 : IntKind.u8.wrap 21 = 21 := by decide
theorem u8k22 : IntKind.u8.wrap 22 = 22 := by decide
theorem u8k23 : IntKind.u8.wrap 23 = 23 := by decide
theorem u8k24 : IntKind.u8.wrap 24 = 24 := by decide
theorem u8k25 : IntKind.u8.wrap 25 = 25 := by decide
theorem u8k26 : IntKind.u8.wrap 26 = 26 := by decide
theorem u8k27 : IntKind.u8.wrap 27 = 27 := by decide
theorem u8k28 : IntKind.u8.wrap 28 = 28 := by decide
theorem u8k29 : IntKind.u8.wrap 29 = 29 := by decide
theorem u8k30 : IntKind.u8.wrap 30 = 30 := by decide
theorem u8k31 : IntKind.u8.wrap 31 = 31 := by decide
theorem u8k32 : IntKind.u8.wrap 32 = 32 := by decide
theorem u8k33 : IntKind.u8.wrap 33 = 33 := by decide
theorem u8k34 : IntKind.u8.wrap 34 = 34 := by decide
theorem u8k35 : IntKind.u8.wrap 35 = 35 := by decide
theorem u8k36 : IntKind.u8.wrap 36 = 36 := by decide
theorem u8k37 : IntKind.u8.wrap 37 = 37 := by decide
theorem u8k38 : IntKind.u8.wrap 38 = 38 := by decide
theorem u8k39 : IntKind.u8.wrap 39 = 39 := by decide
theorem u8k40 : IntKind.u8.wrap 40 = 40 := by decide
theorem u8k41 : IntKind.u8.wrap 41 = 41 := by decide
theorem u8k42 : IntKind.u8.wrap 42 = 42 := by decide
theorem u8k43 : IntKind.u8.wrap 43 = 43 := by decide
theorem u8k44 : IntKind.u8.wrap 44 = 44 := by decide
theorem u8k45 : IntKind.u8.wrap 45 = 45 := by decide
theorem u8k46 : IntKind.u8.wrap 46 = 46 := by decide
theorem u8k47 : IntKind.u8.wrap 47 = 47 := by decide
theorem u8k48 : IntKind.u8.wrap 48 = 48 := by decide
theorem u8k49 : IntKind.u8.wrap 49 = 49 := by decide
theorem u8k50 : IntKind.u8.wrap 50 = 50 := by decide
theorem u8k51 : IntKind.u8.wrap 51 = 51 := by decide
theorem u8k52 : IntKind.u8.wrap 52 = 52 := by decide
theorem u8k53 : IntKind.u8.wrap 53 = 53 := by decide
theorem u8k54 : IntKind.u8.wrap 54 = 54 := by decide
theorem u8k55 : IntKind.u8.wrap 55 = 55 := by decide
theorem u8k56 : IntKind.u8.wrap 56 = 56 := by decide
theorem u8k57 : IntKind.u8.wrap 57 = 57 := by decide
theorem u8k58 : IntKind.u8.wrap 58 = 58 := by decide
theorem u8k59 : IntKind.u8.wrap 59 = 59 := by decide
theorem u8k60 : IntKind.u8.wrap 60 = 60 := by decide
theorem u8k61 : IntKind.u8.wrap 61 = 61 := by decide
theorem u8k62 : IntKind.u8.wrap 62 = 62 := by decide
theorem u8k63 : IntKind.u8.wrap 63 = 63 := by decide
theorem u8k64 : IntKind.u8.wrap 64 = 64 := by decide
theorem u8k65 : IntKind.u8.wrap 65 = 65 := by decide
theorem u8k66 : IntKind.u8.wrap 66 = 66 := by decide
theorem u8k67 : IntKind.u8.wrap 67 = 67 := by decide
theorem u8k68 : IntKind.u8.wrap 68 = 68 := by decide
theorem u8k69 : IntKind.u8.wrap 69 = 69 := by decide
theorem u8k70 : IntKind.u8.wrap 70 = 70 := by decide
theorem u8k71 : IntKind.u8.wrap 71 = 71 := by decide
theorem u8k72 : IntKind.u8.wrap 72 = 72 := by decide
theorem u8k73 : IntKind.u8.wrap 73 = 73 := by decide
theorem u8k74 : IntKind.u8.wrap 74 = 74 := by decide
theorem u8k75 : IntKind.u8.wrap 75 = 75 := by decide
theorem u8k76 : IntKind.u8.wrap 76 = 76 := by decide
theorem u8k77 : IntKind.u8.wrap 77 = 77 := by decide
theorem u8k78 : IntKind.u8.wrap 78 = 78 := by decide
theorem u8k79 : IntKind.u8.wrap 79 = 79 := by decide
theorem u8k80 : IntKind.u8.wrap 80 = 80 := by decide
theorem u8k81 : IntKind.u8.wrap 81 = 81 := by decide
theorem u8k82 : IntKind.u8.wrap 82 = 82 := by decide
theorem u8k83 : IntKind.u8.wrap 83 = 83 := by decide
theorem u8k84 : IntKind.u8.wrap 84 = 84 := by decide
theorem u8k85 : IntKind.u8.wrap 85 = 85 := by decide
theorem u8k86 : IntKind.u8.wrap 86 = 86 := by decide
theorem u8k87 : IntKind.u8.wrap 87 = 87 := by decide
theorem u8k88 : IntKind.u8.wrap 88 = 88 := by decide
theorem u8k89 : IntKind.u8.wrap 89 = 89 := by decide
theorem u8k90 : IntKind.u8.wrap 90 = 90 := by decide
theorem u8k91 : IntKind.u8.wrap 91 = 91 := by decide
theorem u8k92 : IntKind.u8.wrap 92 = 92 := by decide
theorem u8k93 : IntKind.u8.wrap 93 = 93 := by decide
theorem u8k94 : IntKind.u8.wrap 94 = 94 := by decide
theorem u8k95 : IntKind.u8.wrap 95 = 95 := by decide
theorem u8k96 : IntKind.u8.wrap 96 = 96 := by decide
theorem u8k97 : IntKind.u8.wrap 97 = 97 := by decide
theorem u8k98 : IntKind.u8.wrap 98 = 98 := by decide
theorem u8k99 : IntKind.u8.wrap 99 = 99 := by decide
theorem u8k100 : IntKind.u8.wrap 100 = 100 := by decide
theorem u8k101 : IntKind.u8.wrap 101 = 101 := by decide
theorem u8k102 : IntKind.u8.wrap 102 = 102 := by decide
theorem u8k103 : IntKind.u8.wrap 103 = 103 := by decide
theorem u8k104 : IntKind.u8.wrap 104 = 104 := by decide
theorem u8k105 : IntKind.u8.wrap 105 = 105 := by decide
theorem u8k106 : IntKind.u8.wrap 106 = 106 := by decide
theorem u8k107 : IntKind.u8.wrap 107 = 107 := by decide
theorem u8k108 : IntKind.u8.wrap 108 = 108 := by decide
theorem u8k109 : IntKind.u8.wrap 109 = 109 := by decide
theorem u8k110 : IntKind.u8.wrap 110 = 110 := by decide
theorem u8k111 : IntKind.u8.wrap 111 = 111 := by decide
theorem u8k112 : IntKind.u8.wrap 112 = 112 := by decide
theorem u8k113 : IntKind.u8.wrap 113 = 113 := by decide
theorem u8k114 : IntKind.u8.wrap 114 = 114 := by decide
theorem u8k115 : IntKind.u8.wrap 115 = 115 := by decide
theorem u8k116 : IntKind.u8.wrap 116 = 116 := by decide
theorem u8k117 : IntKind.u8.wrap 117 = 117 := by decide
theorem u8k118 : IntKind.u8.wrap 118 = 118 := by decide
theorem u8k119 : IntKind.u8.wrap 119 = 119 := by decide
theorem u8k120 : IntKind.u8.wrap 120 = 120 := by decide
theorem u8k121 : IntKind.u8.wrap 121 = 121 := by decide
theorem u8k122 : IntKind.u8.wrap 122 = 122 := by decide
theorem u8k123 : IntKind.u8.wrap 123 = 123 := by decide
theorem u8k124 : IntKind.u8.wrap 124 = 124 := by decide
theorem u8k125 : IntKind.u8.wrap 125 = 125 := by decide
theorem u8k126 : IntKind.u8.wrap 126 = 126 := by decide
theorem u8k127 : IntKind.u8.wrap 127 = 127 := by decide
theorem u8k128 : IntKind.u8.wrap 128 = 128 := by decide
theorem u8k129 : IntKind.u8.wrap 129 = 129 := by decide
theorem u8k130 : IntKind.u8.wrap 130 = 130 := by decide
theorem u8k131 : IntKind.u8.wrap 131 = 131 := by decide
theorem u8k132 : IntKind.u8.wrap 132 = 132 := by decide
theorem u8k133 : IntKind.u8.wrap 133 = 133 := by decide
theorem u8k134 : IntKind.u8.wrap 134 = 134 := by decide
theorem u8k135 : IntKind.u8.wrap 135 = 135 := by decide
theorem u8k136 : IntKind.u8.wrap 136 = 136 := by decide
theorem u8k137 : IntKind.u8.wrap 137 = 137 := by decide
theorem u8k138 : IntKind.u8.wrap 138 = 138 := by decide
theorem u8k139 : IntKind.u8.wrap 139 = 139 := by decide
theorem u8k140 : IntKind.u8.wrap 140 = 140 := by decide
theorem u8k141 : IntKind.u8.wrap 141 = 141 := by decide
theorem u8k142 : IntKind.u8.wrap 142 = 142 := by decide
theorem u8k143 : IntKind.u8.wrap 143 = 143 := by decide
theorem u8k144 : IntKind.u8.wrap 144 = 144 := by decide
theorem u8k145 : IntKind.u8.wrap 145 = 145 := by decide
theorem u8k146 : IntKind.u8.wrap 146 = 146 := by decide
theorem u8k147 : IntKind.u8.wrap 147 = 147 := by decide
theorem u8k148 : IntKind.u8.wrap 148 = 148 := by decide
theorem u8k149 : IntKind.u8.wrap 149 = 149 := by decide
theorem u8k150 : IntKind.u8.wrap 150 = 150 := by decide
theorem u8k151 : IntKind.u8.wrap 151 = 151 := by decide
theorem u8k152 : IntKind.u8.wrap 152 = 152 := by decide
theorem u8k153 : IntKind.u8.wrap 153 = 153 := by decide
theorem u8k154 : IntKind.u8.wrap 154 = 154 := by decide
theorem u8k155 : IntKind.u8.wrap 155 = 155 := by decide
theorem u8k156 : IntKind.u8.wrap 156 = 156 := by decide
theorem u8k157 : IntKind.u8.wrap 157 = 157 := by decide
theorem u8k158 : IntKind.u8.wrap 158 = 158 := by decide
theorem u8k159 : IntKind.u8.wrap 159 = 159 := by decide
theorem u8k160 : IntKind.u8.wrap 160 = 160 := by decide
theorem u8k161 : IntKind.u8.wrap 161 = 161 := by decide
theorem u8k162 : IntKind.u8.wrap 162 = 162 := by decide
theorem u8k163 : IntKind.u8.wrap 163 = 163 := by decide
theorem u8k164 : IntKind.u8.wrap 164 = 164 := by decide
theorem u8k165 : IntKind.u8.wrap 165 = 165 := by decide
theorem u8k166 : IntKind.u8.wrap 166 = 166 := by decide
theorem u8k167 : IntKind.u8.wrap 167 = 167 := by decide
theorem u8k168 : IntKind.u8.wrap 168 = 168 := by decide
theorem u8k169 : IntKind.u8.wrap 169 = 169 := by decide
theorem u8k170 : IntKind.u8.wrap 170 = 170 := by decide
theorem u8k171 : IntKind.u8.wrap 171 = 171 := by decide
theorem u8k172 : IntKind.u8.wrap 172 = 172 := by decide
theorem u8k173 : IntKind.u8.wrap 173 = 173 := by decide
theorem u8k174 : IntKind.u8.wrap 174 = 174 := by decide
theorem u8k175 : IntKind.u8.wrap 175 = 175 := by decide
theorem u8k176 : IntKind.u8.wrap 176 = 176 := by decide
theorem u8k177 : IntKind.u8.wrap 177 = 177 := by decide
theorem u8k178 : IntKind.u8.wrap 178 = 178 := by decide
theorem u8k179 : IntKind.u8.wrap 179 = 179 := by decide
theorem u8k180 : IntKind.u8.wrap 180 = 180 := by decide
theorem u8k181 : IntKind.u8.wrap 181 = 181 := by decide
theorem u8k182 : IntKind.u8.wrap 182 = 182 := by decide
theorem u8k183 : IntKind.u8.wrap 183 = 183 := by decide
theorem u8k184 : IntKind.u8.wrap 184 = 184 := by decide
theorem u8k185 : IntKind.u8.wrap 185 = 185 := by decide
theorem u8k186 : IntKind.u8.wrap 186 = 186 := by decide
theorem u8k187 : IntKind.u8.wrap 187 = 187 := by decide
theorem u8k188 : IntKind.u8.wrap 188 = 188 := by decide
theorem u8k189 : IntKind.u8.wrap 189 = 189 := by decide
theorem u8k190 : IntKind.u8.wrap 190 = 190 := by decide
theorem u8k191 : IntKind.u8.wrap 191 = 191 := by decide
theorem u8k192 : IntKind.u8.wrap 192 = 192 := by decide
theorem u8k193 : IntKind.u8.wrap 193 = 193 := by decide
theorem u8k194 : IntKind.u8.wrap 194 = 194 := by decide
theorem u8k195 : IntKind.u8.wrap 195 = 195 := by decide
theorem u8k196 : IntKind.u8.wrap 196 = 196 := by decide
theorem u8k197 : IntKind.u8.wrap 197 = 197 := by decide
theorem u8k198 : IntKind.u8.wrap 198 = 198 := by decide
theorem u8k199 : IntKind.u8.wrap 199 = 199 := by decide
theorem u8k200 : IntKind.u8.wrap 200 = 200 := by decide
theorem u8k201 : IntKind.u8.wrap 201 = 201 := by decide
theorem u8k202 : IntKind.u8.wrap 202 = 202 := by decide
theorem u8k203 : IntKind.u8.wrap 203 = 203 := by decide
theorem u8k204 : IntKind.u8.wrap 204 = 204 := by decide
theorem u8k205 : IntKind.u8.wrap 205 = 205 := by decide
theorem u8k206 : IntKind.u8.wrap 206 = 206 := by decide
theorem u8k207 : IntKind.u8.wrap 207 = 207 := by decide
theorem u8k208 : IntKind.u8.wrap 208 = 208 := by decide
theorem u8k209 : IntKind.u8.wrap 209 = 209 := by decide
theorem u8k210 : IntKind.u8.wrap 210 = 210 := by decide
theorem u8k211 : IntKind.u8.wrap 211 = 211 := by decide
theorem u8k212 : IntKind.u8.wrap 212 = 212 := by decide
theorem u8k213 : IntKind.u8.wrap 213 = 213 := by decide
theorem u8k214 : IntKind.u8.wrap 214 = 214 := by decide
theorem u8k215 : IntKind.u8.wrap 215 = 215 := by decide
theorem u8k216 : IntKind.u8.wrap 216 = 216 := by decide
theorem u8k217 : IntKind.u8.wrap 217 = 217 := by decide
theorem u8k218 : IntKind.u8.wrap 218 = 218 := by decide
theorem u8k219 : IntKind.u8.wrap 219 = 219 := by decide
theorem u8k220 : IntKind.u8.wrap 220 = 220 := by decide
theorem u8k221 : IntKind.u8.wrap 221 = 221 := by decide
theorem u8k222 : IntKind.u8.wrap 222 = 222 := by decide
theorem u8k223 : IntKind.u8.wrap 223 = 223 := by decide
theorem u8k224 : IntKind.u8.wrap 224 = 224 := by decide
theorem u8k225 : IntKind.u8.wrap 225 = 225 := by decide
theorem u8k226 : IntKind.u8.wrap 226 = 226 := by decide
theorem u8k227 : IntKind.u8.wrap 227 = 227 := by decide
theorem u8k228 : IntKind.u8.wrap 228 = 228 := by decide
theorem u8k229 : IntKind.u8.wrap 229 = 229 := by decide
theorem u8k230 : IntKind.u8.wrap 230 = 230 := by decide
theorem u8k231 : IntKind.u8.wrap 231 = 231 := by decide
theorem u8k232 : IntKind.u8.wrap 232 = 232 := by decide
theorem u8k233 : IntKind.u8.wrap 233 = 233 := by decide
theorem u8k234 : IntKind.u8.wrap 234 = 234 := by decide
theorem u8k235 : IntKind.u8.wrap 235 = 235 := by decide
theorem u8k236 : IntKind.u8.wrap 236 = 236 := by decide
theorem u8k237 : IntKind.u8.wrap 237 = 237 := by decide
theorem u8k238 : IntKind.u8.wrap 238 = 238 := by decide
theorem u8k239 : IntKind.u8.wrap 239 = 239 := by decide
theorem u8k240 : IntKind.u8.wrap 240 = 240 := by decide
theorem u8k241 : IntKind.u8.wrap 241 = 241 := by decide
theorem u8k242 : IntKind.u8.wrap 242 = 242 := by decide
theorem u8k243 : IntKind.u8.wrap 243 = 243 := by decide
theorem u8k244 : IntKind.u8.wrap 244 = 244 := by decide
theorem u8k245 : IntKind.u8.wrap 245 = 245 := by decide
theorem u8k246 : IntKind.u8.wrap 246 = 246 := by decide
theorem u8k247 : IntKind.u8.wrap 247 = 247 := by decide
theorem u8k248 : IntKind.u8.wrap 248 = 248 := by decide
theorem u8k249 : IntKind.u8.wrap 249 = 249 := by decide
theorem u8k250 : IntKind.u8.wrap 250 = 250 := by decide
theorem u8k251 : IntKind.u8.wrap 251 = 251 := by decide
theorem u8k252 : IntKind.u8.wrap 252 = 252 := by decide
theorem u8k253 : IntKind.u8.wrap 253 = 253 := by decide
theorem u8k254 : IntKind.u8.wrap 254 = 254 := by decide
theorem u8k255 : IntKind.u8.wrap 255 = 255 := by decide
attribute [go_sem] i64km5 i64km4 i64km3 i64km2 i64km1 i64k0 i64k1 i64k2 i64k3 i64k4 i64k5 i64k6 i64k7 i64k8 i64k9 i64k10 i64k11 i64k12 i64k13 i64k14 i64k15 i64k16 i64k17 i64k18 i64k19 i64k20 i64k21 i64k22 i64k23 i64k24 i64k25 i64k26 i64k27 i64k28 i64k29 i64k30 i64k31 i64k32 i64k33 i64k34
attribute [go_sem] i64k35 i64k36 i64k37 i64k38 i64k39 i64k40 i64k41 i64k42 i64k43 i64k44 i64k45 i64k46 i64k47 i64k48 i64k49 i64k50 i64k51 i64k52 i64k53 i64k54 i64k55 i64k56 i64k57 i64k58 i64k59 i64k60 i64k61 i64k62 i64k63 i64k64 i64k65 i64k66 i64k67 i64k68 i64k69 i64k70 i64k71 i64k72 i64k73 i64k74
attribute [go_sem] i64k75 i64k76 i64k77 i64k78 i64k79 i64k80 i64k81 i64k82 i64k83 i64k84 i64k85 i64k86 i64k87 i64k88 i64k89 i64k90 i64k91 i64k92 i64k93 i64k94 i64k95 i64k96 i64k97 i64k98 i64k99 i64k100 i64k101 i64k102 i64k103 i64k104 i64k105 i64k106 i64k107 i64k108 i64k109 i64k110 i64k111 i64k112 i64k113 i64k114
attribute [go_sem] i64k115 i64k116 i64k117 i64k118 i64k119 i64k120 i64k121 i64k122 i64k123 i64k124 i64k125 i64k126 i64k127 i64k128 i64k129 i64k130 i64k131 i64k132 i64k133 i64k134 i64k135 i64k136 i64k137 i64k138 i64k139 i64k140 i64k141 i64k142 i64k143 i64k144 i64k145 i64k146 i64k147 i64k148 i64k149 i64k150 i64k151 i64k152 i64k153 i64k154
attribute [go_sem] i64k155 i64k156 i64k157 i64k158 i64k159 i64k160 i64k161 i64k162 i64k163 i64k164 i64k165 i64k166 i64k167 i64k168 i64k169 i64k170 i64k171 i64k172 i64k173 i64k174 i64k175 i64k176 i64k177 i64k178 i64k179 i64k180 i64k181 i64k182 i64k183 i64k184 i64k185 i64k186 i64k187 i64k188 i64k189 i64k190 i64k191 i64k192 i64k193 i64k194
attribute [go_sem] i64k195 i64k196 i64k197 i64k198 i64k199 i64k200 i64k201 i64k202 i64k203 i64k204 i64k205 i64k206 i64k207 i64k208 i64k209 i64k210 i64k211 i64k212 i64k213 i64k214 i64k215 i64k216 i64k217 i64k218 i64k219 i64k220 i64k221 i64k222 i64k223 i64k224 i64k225 i64k226 i64k227 i64k228 i64k229 i64k230 i64k231 i64k232 i64k233 i64k234
attribute [go_sem] i64k235 i64k236 i64k237 i64k238 i64k239 i64k240 i64k241 i64k242 i64k243 i64k244 i64k245 i64k246 i64k247 i64k248 i64k249 i64k250 i64k251 i64k252 i64k253 i64k254 i64k255 i64k256 i64k257 i64k258 i64k259 i64k260 u8k0 u8k1 u8k2 u8k3 u8k4 u8k5 u8k6 u8k7 u8k8 u8k9 u8k10 u8k11 u8k12 u8k13
attribute [go_sem] u8k14 u8k15 u8k16 u8k17 u8k18 u8k19 u8k20 u8k21 u8k22 u8k23 u8k24 u8k25 u8k26 u8k27 u8k28 u8k29 u8k30 u8k31 u8k32 u8k33 u8k34 u8k35 u8k36 u8k37 u8k38 u8k39 u8k40 u8k41 u8k42 u8k43 u8k44 u8k45 u8k46 u8k47 u8k48 u8k49 u8k50 u8k51 u8k52 u8k53
attribute [go_sem] u8k54 u8k55 u8k56 u8k57 u8k58 u8k59 u8k60 u8k61 u8k62 u8k63 u8k64 u8k65 u8k66 u8k67 u8k68 u8k69 u8k70 u8k71 u8k72 u8k73 u8k74 u8k75 u8k76 u8k77 u8k78 u8k79 u8k80 u8k81 u8k82 u8k83 u8k84 u8k85 u8k86 u8k87 u8k88 u8k89 u8k90 u8k91 u8k92 u8k93
attribute [go_sem] u8k94 u8k95 u8k96 u8k97 u8k98 u8k99 u8k100 u8k101 u8k102 u8k103 u8k104 u8k105 u8k106 u8k107 u8k108 u8k109 u8k110 u8k111 u8k112 u8k113 u8k114 u8k115 u8k116 u8k117 u8k118 u8k119 u8k120 u8k121 u8k122 u8k123 u8k124 u8k125 u8k126 u8k127 u8k128 u8k129 u8k130 u8k131 u8k132 u8k133
attribute [go_sem] u8k134 u8k135 u8k136 u8k137 u8k138 u8k139 u8k140 u8k141 u8k142 u8k143 u8k144 u8k145 u8k146 u8k147 u8k148 u8k149 u8k150 u8k151 u8k152 u8k153 u8k154 u8k155 u8k156 u8k157 u8k158 u8k159 u8k160 u8k161 u8k162 u8k163 u8k164 u8k165 u8k166 u8k167 u8k168 u8k169 u8k170 u8k171 u8k172 u8k173
attribute [go_sem] u8k174 u8k175 u8k176 u8k177 u8k178 u8k179 u8k180 u8k181 u8k182 u8k183 u8k184 u8k185 u8k186 u8k187 u8k188 u8k189 u8k190 u8k191 u8k192 u8k193 u8k194 u8k195 u8k196 u8k197 u8k198 u8k199 u8k200 u8k201 u8k202 u8k203 u8k204 u8k205 u8k206 u8k207 u8k208 u8k209 u8k210 u8k211 u8k212 u8k213
attribute [go_sem] u8k214 u8k215 u8k216 u8k217 u8k218 u8k219 u8k220 u8k221 u8k222 u8k223 u8k224 u8k225 u8k226 u8k227 u8k228 u8k229 u8k230 u8k231 u8k232 u8k233 u8k234 u8k235 u8k236 u8k237 u8k238 u8k239 u8k240 u8k241 u8k242 u8k243 u8k244 u8k245 u8k246 u8k247 u8k248 u8k249 u8k250 u8k251 u8k252 u8k253
attribute [go_sem] u8k254 u8k255
attribute [go_sem] AH.le_refl arr_ext
attribute [go_sem ↓] tailC_nil tailC_cons del_del del_add_self del_add_ne del_fresh find_add_self find_add_ne V_skip V_label V_exit V_ret
attribute [go_sem ↓] V_seq V_block V_cond V_region V_draw V_loop acond_bool aseq_normal aseq_exit aseq_ret ablock_normal ablock_ret
attribute [go_sem ↓] ablock_exit around_exit around_ret aend_ret aend_normal ares_nil ares_tmp ares_cell retv_one retv_two retv_nil T_nil
attribute [go_sem ↓] T_guard_t T_guard_f T_move T_assign T_pick T_binOp T_unOp T_extract T_convert T_load T_fieldAddr T_indexAddr
attribute [go_sem ↓] T_nilCheck T_makeFunc T_makeInterface T_index T_field T_slice T_build T_sliceToArrayPointer T_typeAssert T_store T_alloc T_box
attribute [go_sem ↓] T_call T_call0 T_buildSlice T_makeSlice T_makeMap T_lookup T_mapUpdate T_insert T_append T_len T_cap T_min T_max
attribute [go_sem ↓] wv_tmp wv_const wv_func wv_global wvs_nil wvs_cons alk_cons ag_undef ag_t ag_f pck_bool unv_not
attribute [go_sem ↓] unv_neg unv_xor extr_tuple fap_ptr nck_ptr nck_func osome_some osome_none acl_func AC_false AC_true newb_eq
attribute [go_sem ↓] stv_ptr bld_eq bsl_eq mks_int lkp_some lkp_none mup_some apd_slice apin_some apin_none app_add_self app_add_ne
attribute [go_sem ↓] mp_add_self mp_add_ne mset_add_self mset_add_ne rd_add_self rd_add_ne row_add_self row_add_ne wrs_add_self wrs_add_ne fresh_add gw_rd
attribute [go_sem ↓] gw_pu gw_al gw_ch gw_nil rnd_normal rnd_zero rnd_exit rnd_ret
attribute [go_sem] bsk_nil bsk_cons mres_some mres_none mput_some mput_none mlk_nil nInt_slice nInt_string slen_slice slen_string srow_some
attribute [go_sem] srow_none srow_string impl_t impl_f nd_eq bldk_nil bldk_cons cnv_int ldv_cell ldv_agg bin_add bin_sub
attribute [go_sem] bin_mul bin_eql bin_neq bin_lss bin_leq bin_gtr bin_geq bin_quo bin_rem bin_shl bin_shr bin_and
attribute [go_sem] bin_or bin_xor bin_andNot bin_eql_bool bin_neq_bool bin_eql_ptr_nil bin_neq_ptr_nil bin_eql_slice_nil bin_neq_slice_nil bin_eql_str bin_neq_str wo_some
attribute [go_sem] wo_none nv_eq nvl_eq nn_eq ixp_array ixp_slice aresc_agg aresc_cell vcells_agg vcells_bool vcells_int vcells_string
attribute [go_sem] vcells_ptr vcells_slice vcells_map vcells_func vcells_nilFunc vcells_iface vcells_nilIface lput_nil lput_cons scal_bool scal_int scal_string
attribute [go_sem] scal_ptr scal_slice scal_map scal_func scal_nilFunc scal_iface scal_nilIface rdb_len_str rdb_len_slice rdb_cap_slice rdb_min rdb_max
attribute [go_sem] isAggU argFrom bnd_none bnd_int isInt_none isInt_int rdop_slice_str rdop_index_str lks_nil lks_cons lput_full scal_bools
attribute [go_sem] scal_ints
attribute [go_sem ↓] List.map_cons List.map_nil
attribute [go_sem] List.length_set List.set_set Int.natCast_nonneg Nat.zero_add Nat.add_zero Nat.zero_mul Nat.mul_one true_and and_true and_self Option.bind_some Option.map_some
attribute [go_sem] Option.isNone_some Option.isNone_none Option.isSome_some Option.isSome_none Option.some.injEq List.length_cons List.length_nil List.getElem?_cons_zero List.getElem?_cons_succ List.set_cons_zero List.set_cons_succ List.all_cons
attribute [go_sem] List.all_nil Bool.and_true Bool.true_and Bool.and_self List.drop_zero List.drop_succ_cons List.take_succ_cons List.take_zero List.append_nil List.nil_append List.cons_append ne_eq
attribute [go_sem] not_false_eq_true not_true_eq_false decide_eq_true_eq decide_eq_false_iff_not beq_iff_eq beq_eq_false_iff_ne bne_iff_ne bne_eq_false_iff_eq forall_const false_implies true_implies implies_true
attribute [go_sem] Bool.true_eq_false Bool.false_eq_true Nat.lt_irrefl Nat.le_refl List.zip_cons_cons List.zip_nil_right List.zip_nil_left List.size_toArray List.getElem?_toArray Int.toNat_zero Bool.not_true Bool.not_false
attribute [go_sem] Nat.add_left_cancel_iff bne_self_eq_false decide_true decide_false beq_self_eq_true Bool.true_beq Bool.false_beq Int.ofNat_eq_natCast Int.cast_ofNat_Int List.length_map Int.toNat_natCast List.take_of_length_le
def isIfU : Option TypeDesc → Bool
  | some (.interface _) => true
  | none => true
  | _ => false
/-- A value with its type, as an interface. -/
theorem rdop_mki {P : Program} {H : AH} {t : TypeId} {a : Value} {k : Value → Prop} (h : isIfU (P.underlying t) = false) : rdop P H (Instr.makeInterface t a) k = nv (.iface t a) k := by
  unfold rdop Instr.makeInterface
  rw [qrun_bind, qrun_underlying]
  cases hu : P.underlying t with
  | none => rw [hu] at h; cases h
  | some u => rw [hu] at h; cases u <;> first | (cases h; done) | rfl
attribute [go_sem] rdop_mki
end Go.AX
