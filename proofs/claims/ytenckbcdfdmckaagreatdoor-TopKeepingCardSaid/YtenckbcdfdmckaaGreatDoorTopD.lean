/-
  The concrete machine: the program's functions. (Printed by gentop.py.)
-/
import Derived.Test.YtenckbcdfdmckaaGreatDoorTopC
set_option linter.unusedSimpArgs false
set_option linter.unusedVariables false
namespace Go.Top
open Go Go.Eng Go.Proofs.YtenckbcdfdmckaaGreatDoor
noncomputable def findK (f : Nat) (l : List (Nat × Knd)) : Knd := List.rec .no (fun x _ ih => Prod.rec (fun g k => bif Nat.beq f g then k else ih) x) l
noncomputable def findO (f : Nat) (l : List (Nat × List Nat)) : List Nat := List.rec [] (fun x _ ih => Prod.rec (fun g k => bif Nat.beq f g then k else ih) x) l
def memB (n : Nat) : List Nat → Bool
  | [] => false
  | a :: r => bif Nat.beq n a then true else memB n r
def kdT : List (Nat × Knd) := [(231, .scal), (232, .scal), (180, .scal), (230, .scal), (269, .scal), (181, .scal), (235, .scal), (177, .scal), (294, .scal), (182, .pure), (176, .pure), (229, .pure), (268, .pure), (187, .scal), (173, .gen), (124, .pure), (183, .scal), (112, .scal), (184, .scal), (131, .scal), (179, .scal), (130, .scal), (66, .scal), (35, .scal), (227, .scal), (23, .scal), (252, .pure), (122, .pure), (204, .scal), (133, .scal), (202, .scal), (247, .scal), (208, .scal), (129, .scal), (178, .scal), (207, .scal), (228, .scal), (33, .scal), (108, .scal), (185, .scal), (78, .scal), (68, .scal), (139, .scal), (334, .scal), (127, .scal), (166, .gen), (174, .pure), (291, .scal), (292, .scal), (323, .scal), (220, .gen), (65, .pure), (209, .scal), (253, .scal), (255, .scal), (303, .scal), (120, .pure), (123, .pure), (76, .scal), (128, .scal), (320, .scal), (72, .scal), (248, .pure), (165, .scal), (168, .gen), (14, .pure), (26, .pure), (27, .gen), (136, .scal), (134, .scal), (175, .pure), (121, .scal), (67, .gen), (24, .gen), (36, .pure), (80, .pure), (135, .scal), (37, .pure), (217, .scal), (256, .scal), (218, .scal), (219, .scal), (81, .scal), (39, .scal), (69, .scal), (109, .scal), (49, .pure), (117, .gen), (223, .scal), (226, .scal), (267, .scal), (115, .scal), (211, .scal), (142, .pure), (189, .gen), (236, .gen), (274, .gen), (118, .scal), (169, .scal), (170, .scal), (125, .pure), (77, .scal), (75, .scal), (126, .scal), (221, .scal), (38, .pure), (289, .gen), (318, .pure), (321, .scal), (98, .scal), (79, .pure), (132, .scal), (271, .scal), (272, .scal), (50, .gen), (233, .pure), (234, .scal), (222, .pure), (270, .pure), (311, .pure), (30, .pure), (71, .pure), (22, .pure), (57, .scal), (284, .scal), (85, .gen), (186, .scal), (200, .pure), (244, .scal), (143, .pure), (199, .scal), (154, .pure), (245, .pure), (201, .gen), (246, .pure), (287, .pure), (319, .scal), (333, .scal), (290, .scal), (322, .pure), (197, .scal), (203, .pure), (144, .pure), (198, .scal), (137, .scal), (25, .pure), (40, .gen), (70, .pure), (113, .pure), (114, .pure), (116, .gen), (167, .gen), (73, .pure), (41, .gen), (42, .gen), (156, .pure), (60, .scal), (28, .scal), (158, .scal), (20, .scal), (17, .scal), (16, .scal), (224, .scal), (141, .scal), (18, .scal), (31, .pure), (32, .scal), (58, .scal), (53, .gen), (94, .pure), (188, .scal), (249, .scal), (74, .scal), (238, .pure), (283, .scal), (192, .pure), (239, .scal), (54, .gen), (95, .pure), (155, .pure), (205, .scal), (240, .scal), (210, .gen), (254, .gen), (295, .gen), (157, .pure), (213, .pure), (241, .pure), (195, .pure), (243, .pure), (55, .gen), (82, .scal), (138, .scal), (9, .pure), (13, .pure), (21, .pure), (96, .pure), (59, .scal), (99, .scal), (159, .scal), (100, .scal), (61, .scal), (19, .pure), (193, .pure), (8, .scal), (11, .pure), (10, .scal), (51, .gen), (145, .pure), (148, .scal), (190, .scal), (86, .pure), (52, .gen), (84, .pure), (140, .scal), (150, .pure), (83, .scal), (91, .pure), (147, .scal), (48, .scal), (92, .pure), (214, .pure), (3, .scal), (194, .pure), (87, .pure), (196, .pure), (90, .pure), (4, .scal), (212, .pure), (5, .scal), (12, .pure), (15, .scal), (29, .scal), (56, .scal), (6, .scal), (151, .pure), (152, .pure), (153, .pure), (93, .pure), (7, .scal)]
def odT : List (Nat × List Nat) := [(14, [3]), (289, [12]), (318, [11]), (201, [6]), (25, [1]), (41, [3]), (54, [5]), (241, [2]), (92, [7]), (152, [2])]
theorem findK_mem {f : Nat} : ∀ {l : List (Nat × Knd)}, isNo (findK f l) = false → f ∈ l.map (·.1)
  | [], h => by cases h
  | (g, k) :: r, h => by
    have h : isNo (bif Nat.beq f g then k else findK f r) = false := h
    cases hb : Nat.beq f g with
    | true => rw [Nat.eq_of_beq_eq_true hb]; exact List.mem_cons_self ..
    | false => rw [hb] at h; exact List.mem_cons_of_mem _ (findK_mem h)
noncomputable def tyE0 := tyOf Proofs.Tryz.prog
noncomputable def eqE0 := eqOf Proofs.Tryz.prog
set_option maxRecDepth 100000
noncomputable def O0 : Orc := orcT natTab
noncomputable def kE (f : Nat) : Knd := findK f kdT
noncomputable def cE : Ctx := ⟨tyE0, eqE0, fun f => match kdOr (O0.kind f) (kE f) with | .gen => some (.gen [] fun _ _ _ => False) | _ => none⟩
noncomputable def gE (f : Nat) : GCode := bodyOf cE (fun r => memB r (findO f odT)) (Proofs.Tryz.prog.funcs[f]?)
noncomputable def E : Env where
  ty := tyE0
  eqk := eqE0
  kd := kE
  G := gE
  rs f := resOf (Proofs.Tryz.prog.funcs[f]?)
  np f := parOf (Proofs.Tryz.prog.funcs[f]?)
  L := 5000
  base := baseT natTab
  O0 := O0
def FactF (f : Nat) : Prop := ∃ fn b, Proofs.Tryz.prog.funcs[f]? = some fn ∧ (fn.name == "runtime.NumGoroutine") = false ∧ fn.body = some b ∧ toG cE fn.ntmps b = some (gE f).strip ∧ fn.results.toList = E.rs f ∧ E.np f ≤ fn.ntmps
theorem fact_of {f : Nat} {fn : Func} {b : Code} (h : Proofs.Tryz.prog.funcs[f]? = some fn) (hn : (fn.name == "runtime.NumGoroutine") = false) (hb : fn.body = some b) (hg : toG cE fn.ntmps b = some (bodyOf cE (fun r => memB r (findO f odT)) (some fn)).strip) (hp : Nat.ble (fn.params.size + fn.nfree) fn.ntmps = true) : FactF f :=
  ⟨fn, b, h, hn, hb, by unfold gE; rw [h]; exact hg, by show _ = resOf (Proofs.Tryz.prog.funcs[f]?); rw [h]; rfl, by show parOf (Proofs.Tryz.prog.funcs[f]?) ≤ _; rw [h]; exact Nat.le_of_ble_eq_true hp⟩
theorem fa {f : Nat} {fn : Func} (h : Proofs.Tryz.prog.funcs[f]? = some fn)
    (e : ((fn.name == "runtime.NumGoroutine"), fn.body, toG cE fn.ntmps (fn.body.getD .skip), Nat.ble (fn.params.size + fn.nfree) fn.ntmps) = (false, some (fn.body.getD .skip), some (bodyOf cE (fun r => memB r (findO f odT)) (some fn)).strip, true)) : FactF f :=
  fact_of h (congrArg (·.1) e) (congrArg (·.2.1) e) (congrArg (·.2.2.1) e) (congrArg (·.2.2.2) e)
end Go.Top

namespace Go.Top
open Go Go.Eng Go.Proofs Go.Proofs.YtenckbcdfdmckaaGreatDoor
set_option maxRecDepth 100000
theorem fact231 : FactF 231 := fa Tryz.func231 (by kernel_rfl)
theorem fact232 : FactF 232 := fa Tryz.func232 (by kernel_rfl)
theorem fact180 : FactF 180 := fa Tryz.func180 (by kernel_rfl)
theorem fact230 : FactF 230 := fa Tryz.func230 (by kernel_rfl)
theorem fact269 : FactF 269 := fa Tryz.func269 (by kernel_rfl)
theorem fact181 : FactF 181 := fa Tryz.func181 (by kernel_rfl)
theorem fact235 : FactF 235 := fa Tryz.func235 (by kernel_rfl)
theorem fact177 : FactF 177 := fa Tryz.func177 (by kernel_rfl)
theorem fact294 : FactF 294 := fa Tryz.func294 (by kernel_rfl)
theorem fact182 : FactF 182 := fa Tryz.func182 (by kernel_rfl)
theorem fact176 : FactF 176 := fa Tryz.func176 (by kernel_rfl)
theorem fact229 : FactF 229 := fa Tryz.func229 (by kernel_rfl)
theorem fact268 : FactF 268 := fa Tryz.func268 (by kernel_rfl)
theorem fact187 : FactF 187 := fa Tryz.func187 (by kernel_rfl)
theorem fact173 : FactF 173 := fa Tryz.func173 (by kernel_rfl)
theorem fact124 : FactF 124 := fa Tryz.func124 (by kernel_rfl)
theorem fact183 : FactF 183 := fa Tryz.func183 (by kernel_rfl)
theorem fact112 : FactF 112 := fa Tryz.func112 (by kernel_rfl)
theorem fact184 : FactF 184 := fa Tryz.func184 (by kernel_rfl)
theorem fact131 : FactF 131 := fa Tryz.func131 (by kernel_rfl)
theorem fact179 : FactF 179 := fa Tryz.func179 (by kernel_rfl)
theorem fact130 : FactF 130 := fa Tryz.func130 (by kernel_rfl)
theorem fact66 : FactF 66 := fa Tryz.func66 (by kernel_rfl)
theorem fact35 : FactF 35 := fa Tryz.func35 (by kernel_rfl)
theorem fact227 : FactF 227 := fa Tryz.func227 (by kernel_rfl)
theorem fact23 : FactF 23 := fa Tryz.func23 (by kernel_rfl)
theorem fact252 : FactF 252 := fa Tryz.func252 (by kernel_rfl)
theorem fact122 : FactF 122 := fa Tryz.func122 (by kernel_rfl)
theorem fact204 : FactF 204 := fa Tryz.func204 (by kernel_rfl)
theorem fact133 : FactF 133 := fa Tryz.func133 (by kernel_rfl)
theorem fact202 : FactF 202 := fa Tryz.func202 (by kernel_rfl)
theorem fact247 : FactF 247 := fa Tryz.func247 (by kernel_rfl)
theorem fact208 : FactF 208 := fa Tryz.func208 (by kernel_rfl)
theorem fact129 : FactF 129 := fa Tryz.func129 (by kernel_rfl)
theorem fact178 : FactF 178 := fa Tryz.func178 (by kernel_rfl)
theorem fact207 : FactF 207 := fa Tryz.func207 (by kernel_rfl)
theorem fact228 : FactF 228 := fa Tryz.func228 (by kernel_rfl)
theorem fact33 : FactF 33 := fa Tryz.func33 (by kernel_rfl)
theorem fact108 : FactF 108 := fa Tryz.func108 (by kernel_rfl)
theorem fact185 : FactF 185 := fa Tryz.func185 (by kernel_rfl)
theorem fact78 : FactF 78 := fa Tryz.func78 (by kernel_rfl)
theorem fact68 : FactF 68 := fa Tryz.func68 (by kernel_rfl)
theorem fact139 : FactF 139 := fa Tryz.func139 (by kernel_rfl)
theorem fact334 : FactF 334 := fa Tryz.func334 (by kernel_rfl)
theorem fact127 : FactF 127 := fa Tryz.func127 (by kernel_rfl)
theorem fact166 : FactF 166 := fa Tryz.func166 (by kernel_rfl)
theorem fact174 : FactF 174 := fa Tryz.func174 (by kernel_rfl)
theorem fact291 : FactF 291 := fa Tryz.func291 (by kernel_rfl)
theorem fact292 : FactF 292 := fa Tryz.func292 (by kernel_rfl)
theorem fact323 : FactF 323 := fa Tryz.func323 (by kernel_rfl)
theorem fact220 : FactF 220 := fa Tryz.func220 (by kernel_rfl)
theorem fact65 : FactF 65 := fa Tryz.func65 (by kernel_rfl)
theorem fact209 : FactF 209 := fa Tryz.func209 (by kernel_rfl)
theorem fact253 : FactF 253 := fa Tryz.func253 (by kernel_rfl)
theorem fact255 : FactF 255 := fa Tryz.func255 (by kernel_rfl)
theorem fact303 : FactF 303 := fa Tryz.func303 (by kernel_rfl)
theorem fact120 : FactF 120 := fa Tryz.func120 (by kernel_rfl)
theorem fact123 : FactF 123 := fa Tryz.func123 (by kernel_rfl)
theorem fact76 : FactF 76 := fa Tryz.func76 (by kernel_rfl)
theorem fact128 : FactF 128 := fa Tryz.func128 (by kernel_rfl)
end Go.Top

namespace Go.Top
open Go Go.Eng Go.Proofs Go.Proofs.YtenckbcdfdmckaaGreatDoor
set_option maxRecDepth 100000
theorem fact320 : FactF 320 := fa Tryz.func320 (by kernel_rfl)
theorem fact72 : FactF 72 := fa Tryz.func72 (by kernel_rfl)
theorem fact248 : FactF 248 := fa Tryz.func248 (by kernel_rfl)
theorem fact165 : FactF 165 := fa Tryz.func165 (by kernel_rfl)
theorem fact168 : FactF 168 := fa Tryz.func168 (by kernel_rfl)
theorem fact14 : FactF 14 := fa Tryz.func14 (by kernel_rfl)
theorem fact26 : FactF 26 := fa Tryz.func26 (by kernel_rfl)
theorem fact27 : FactF 27 := fa Tryz.func27 (by kernel_rfl)
theorem fact136 : FactF 136 := fa Tryz.func136 (by kernel_rfl)
theorem fact134 : FactF 134 := fa Tryz.func134 (by kernel_rfl)
theorem fact175 : FactF 175 := fa Tryz.func175 (by kernel_rfl)
theorem fact121 : FactF 121 := fa Tryz.func121 (by kernel_rfl)
theorem fact67 : FactF 67 := fa Tryz.func67 (by kernel_rfl)
theorem fact24 : FactF 24 := fa Tryz.func24 (by kernel_rfl)
theorem fact36 : FactF 36 := fa Tryz.func36 (by kernel_rfl)
theorem fact80 : FactF 80 := fa Tryz.func80 (by kernel_rfl)
theorem fact135 : FactF 135 := fa Tryz.func135 (by kernel_rfl)
theorem fact37 : FactF 37 := fa Tryz.func37 (by kernel_rfl)
theorem fact217 : FactF 217 := fa Tryz.func217 (by kernel_rfl)
theorem fact256 : FactF 256 := fa Tryz.func256 (by kernel_rfl)
theorem fact218 : FactF 218 := fa Tryz.func218 (by kernel_rfl)
theorem fact219 : FactF 219 := fa Tryz.func219 (by kernel_rfl)
theorem fact81 : FactF 81 := fa Tryz.func81 (by kernel_rfl)
theorem fact39 : FactF 39 := fa Tryz.func39 (by kernel_rfl)
theorem fact69 : FactF 69 := fa Tryz.func69 (by kernel_rfl)
theorem fact109 : FactF 109 := fa Tryz.func109 (by kernel_rfl)
theorem fact49 : FactF 49 := fa Tryz.func49 (by kernel_rfl)
theorem fact117 : FactF 117 := fa Tryz.func117 (by kernel_rfl)
theorem fact223 : FactF 223 := fa Tryz.func223 (by kernel_rfl)
theorem fact226 : FactF 226 := fa Tryz.func226 (by kernel_rfl)
theorem fact267 : FactF 267 := fa Tryz.func267 (by kernel_rfl)
theorem fact115 : FactF 115 := fa Tryz.func115 (by kernel_rfl)
theorem fact211 : FactF 211 := fa Tryz.func211 (by kernel_rfl)
theorem fact142 : FactF 142 := fa Tryz.func142 (by kernel_rfl)
theorem fact189 : FactF 189 := fa Tryz.func189 (by kernel_rfl)
theorem fact236 : FactF 236 := fa Tryz.func236 (by kernel_rfl)
theorem fact274 : FactF 274 := fa Tryz.func274 (by kernel_rfl)
theorem fact118 : FactF 118 := fa Tryz.func118 (by kernel_rfl)
theorem fact169 : FactF 169 := fa Tryz.func169 (by kernel_rfl)
theorem fact170 : FactF 170 := fa Tryz.func170 (by kernel_rfl)
theorem fact125 : FactF 125 := fa Tryz.func125 (by kernel_rfl)
theorem fact77 : FactF 77 := fa Tryz.func77 (by kernel_rfl)
theorem fact75 : FactF 75 := fa Tryz.func75 (by kernel_rfl)
theorem fact126 : FactF 126 := fa Tryz.func126 (by kernel_rfl)
theorem fact221 : FactF 221 := fa Tryz.func221 (by kernel_rfl)
theorem fact38 : FactF 38 := fa Tryz.func38 (by kernel_rfl)
theorem fact289 : FactF 289 := fa Tryz.func289 (by kernel_rfl)
theorem fact318 : FactF 318 := fa Tryz.func318 (by kernel_rfl)
theorem fact321 : FactF 321 := fa Tryz.func321 (by kernel_rfl)
theorem fact98 : FactF 98 := fa Tryz.func98 (by kernel_rfl)
theorem fact79 : FactF 79 := fa Tryz.func79 (by kernel_rfl)
theorem fact132 : FactF 132 := fa Tryz.func132 (by kernel_rfl)
theorem fact271 : FactF 271 := fa Tryz.func271 (by kernel_rfl)
theorem fact272 : FactF 272 := fa Tryz.func272 (by kernel_rfl)
theorem fact50 : FactF 50 := fa Tryz.func50 (by kernel_rfl)
theorem fact233 : FactF 233 := fa Tryz.func233 (by kernel_rfl)
theorem fact234 : FactF 234 := fa Tryz.func234 (by kernel_rfl)
theorem fact222 : FactF 222 := fa Tryz.func222 (by kernel_rfl)
theorem fact270 : FactF 270 := fa Tryz.func270 (by kernel_rfl)
theorem fact311 : FactF 311 := fa Tryz.func311 (by kernel_rfl)
end Go.Top

namespace Go.Top
open Go Go.Eng Go.Proofs Go.Proofs.YtenckbcdfdmckaaGreatDoor
set_option maxRecDepth 100000
theorem fact30 : FactF 30 := fa Tryz.func30 (by kernel_rfl)
theorem fact71 : FactF 71 := fa Tryz.func71 (by kernel_rfl)
theorem fact22 : FactF 22 := fa Tryz.func22 (by kernel_rfl)
theorem fact57 : FactF 57 := fa Tryz.func57 (by kernel_rfl)
theorem fact284 : FactF 284 := fa Tryz.func284 (by kernel_rfl)
theorem fact85 : FactF 85 := fa Tryz.func85 (by kernel_rfl)
theorem fact186 : FactF 186 := fa Tryz.func186 (by kernel_rfl)
theorem fact200 : FactF 200 := fa Tryz.func200 (by kernel_rfl)
theorem fact244 : FactF 244 := fa Tryz.func244 (by kernel_rfl)
theorem fact143 : FactF 143 := fa Tryz.func143 (by kernel_rfl)
theorem fact199 : FactF 199 := fa Tryz.func199 (by kernel_rfl)
theorem fact154 : FactF 154 := fa Tryz.func154 (by kernel_rfl)
theorem fact245 : FactF 245 := fa Tryz.func245 (by kernel_rfl)
theorem fact201 : FactF 201 := fa Tryz.func201 (by kernel_rfl)
theorem fact246 : FactF 246 := fa Tryz.func246 (by kernel_rfl)
theorem fact287 : FactF 287 := fa Tryz.func287 (by kernel_rfl)
theorem fact319 : FactF 319 := fa Tryz.func319 (by kernel_rfl)
theorem fact333 : FactF 333 := fa Tryz.func333 (by kernel_rfl)
theorem fact290 : FactF 290 := fa Tryz.func290 (by kernel_rfl)
theorem fact322 : FactF 322 := fa Tryz.func322 (by kernel_rfl)
theorem fact197 : FactF 197 := fa Tryz.func197 (by kernel_rfl)
theorem fact203 : FactF 203 := fa Tryz.func203 (by kernel_rfl)
theorem fact144 : FactF 144 := fa Tryz.func144 (by kernel_rfl)
theorem fact198 : FactF 198 := fa Tryz.func198 (by kernel_rfl)
theorem fact137 : FactF 137 := fa Tryz.func137 (by kernel_rfl)
theorem fact25 : FactF 25 := fa Tryz.func25 (by kernel_rfl)
theorem fact40 : FactF 40 := fa Tryz.func40 (by kernel_rfl)
theorem fact70 : FactF 70 := fa Tryz.func70 (by kernel_rfl)
theorem fact113 : FactF 113 := fa Tryz.func113 (by kernel_rfl)
theorem fact114 : FactF 114 := fa Tryz.func114 (by kernel_rfl)
theorem fact116 : FactF 116 := fa Tryz.func116 (by kernel_rfl)
theorem fact167 : FactF 167 := fa Tryz.func167 (by kernel_rfl)
theorem fact73 : FactF 73 := fa Tryz.func73 (by kernel_rfl)
theorem fact41 : FactF 41 := fa Tryz.func41 (by kernel_rfl)
theorem fact42 : FactF 42 := fa Tryz.func42 (by kernel_rfl)
theorem fact156 : FactF 156 := fa Tryz.func156 (by kernel_rfl)
theorem fact60 : FactF 60 := fa Tryz.func60 (by kernel_rfl)
theorem fact28 : FactF 28 := fa Tryz.func28 (by kernel_rfl)
theorem fact158 : FactF 158 := fa Tryz.func158 (by kernel_rfl)
theorem fact20 : FactF 20 := fa Tryz.func20 (by kernel_rfl)
theorem fact17 : FactF 17 := fa Tryz.func17 (by kernel_rfl)
theorem fact16 : FactF 16 := fa Tryz.func16 (by kernel_rfl)
theorem fact224 : FactF 224 := fa Tryz.func224 (by kernel_rfl)
theorem fact141 : FactF 141 := fa Tryz.func141 (by kernel_rfl)
theorem fact18 : FactF 18 := fa Tryz.func18 (by kernel_rfl)
theorem fact31 : FactF 31 := fa Tryz.func31 (by kernel_rfl)
theorem fact32 : FactF 32 := fa Tryz.func32 (by kernel_rfl)
theorem fact58 : FactF 58 := fa Tryz.func58 (by kernel_rfl)
theorem fact53 : FactF 53 := fa Tryz.func53 (by kernel_rfl)
theorem fact94 : FactF 94 := fa Tryz.func94 (by kernel_rfl)
theorem fact188 : FactF 188 := fa Tryz.func188 (by kernel_rfl)
theorem fact249 : FactF 249 := fa Tryz.func249 (by kernel_rfl)
theorem fact74 : FactF 74 := fa Tryz.func74 (by kernel_rfl)
theorem fact238 : FactF 238 := fa Tryz.func238 (by kernel_rfl)
theorem fact283 : FactF 283 := fa Tryz.func283 (by kernel_rfl)
theorem fact192 : FactF 192 := fa Tryz.func192 (by kernel_rfl)
theorem fact239 : FactF 239 := fa Tryz.func239 (by kernel_rfl)
theorem fact54 : FactF 54 := fa Tryz.func54 (by kernel_rfl)
theorem fact95 : FactF 95 := fa Tryz.func95 (by kernel_rfl)
theorem fact155 : FactF 155 := fa Tryz.func155 (by kernel_rfl)
end Go.Top

namespace Go.Top
open Go Go.Eng Go.Proofs Go.Proofs.YtenckbcdfdmckaaGreatDoor
set_option maxRecDepth 100000
theorem fact205 : FactF 205 := fa Tryz.func205 (by kernel_rfl)
theorem fact240 : FactF 240 := fa Tryz.func240 (by kernel_rfl)
theorem fact210 : FactF 210 := fa Tryz.func210 (by kernel_rfl)
theorem fact254 : FactF 254 := fa Tryz.func254 (by kernel_rfl)
theorem fact295 : FactF 295 := fa Tryz.func295 (by kernel_rfl)
theorem fact157 : FactF 157 := fa Tryz.func157 (by kernel_rfl)
theorem fact213 : FactF 213 := fa Tryz.func213 (by kernel_rfl)
theorem fact241 : FactF 241 := fa Tryz.func241 (by kernel_rfl)
theorem fact195 : FactF 195 := fa Tryz.func195 (by kernel_rfl)
theorem fact243 : FactF 243 := fa Tryz.func243 (by kernel_rfl)
theorem fact55 : FactF 55 := fa Tryz.func55 (by kernel_rfl)
theorem fact82 : FactF 82 := fa Tryz.func82 (by kernel_rfl)
theorem fact138 : FactF 138 := fa Tryz.func138 (by kernel_rfl)
theorem fact9 : FactF 9 := fa Tryz.func9 (by kernel_rfl)
theorem fact13 : FactF 13 := fa Tryz.func13 (by kernel_rfl)
theorem fact21 : FactF 21 := fa Tryz.func21 (by kernel_rfl)
theorem fact96 : FactF 96 := fa Tryz.func96 (by kernel_rfl)
theorem fact59 : FactF 59 := fa Tryz.func59 (by kernel_rfl)
theorem fact99 : FactF 99 := fa Tryz.func99 (by kernel_rfl)
theorem fact159 : FactF 159 := fa Tryz.func159 (by kernel_rfl)
theorem fact100 : FactF 100 := fa Tryz.func100 (by kernel_rfl)
theorem fact61 : FactF 61 := fa Tryz.func61 (by kernel_rfl)
theorem fact19 : FactF 19 := fa Tryz.func19 (by kernel_rfl)
theorem fact193 : FactF 193 := fa Tryz.func193 (by kernel_rfl)
theorem fact8 : FactF 8 := fa Tryz.func8 (by kernel_rfl)
theorem fact11 : FactF 11 := fa Tryz.func11 (by kernel_rfl)
theorem fact10 : FactF 10 := fa Tryz.func10 (by kernel_rfl)
theorem fact51 : FactF 51 := fa Tryz.func51 (by kernel_rfl)
theorem fact145 : FactF 145 := fa Tryz.func145 (by kernel_rfl)
theorem fact148 : FactF 148 := fa Tryz.func148 (by kernel_rfl)
theorem fact190 : FactF 190 := fa Tryz.func190 (by kernel_rfl)
theorem fact86 : FactF 86 := fa Tryz.func86 (by kernel_rfl)
theorem fact52 : FactF 52 := fa Tryz.func52 (by kernel_rfl)
theorem fact84 : FactF 84 := fa Tryz.func84 (by kernel_rfl)
theorem fact140 : FactF 140 := fa Tryz.func140 (by kernel_rfl)
theorem fact150 : FactF 150 := fa Tryz.func150 (by kernel_rfl)
theorem fact83 : FactF 83 := fa Tryz.func83 (by kernel_rfl)
theorem fact91 : FactF 91 := fa Tryz.func91 (by kernel_rfl)
theorem fact147 : FactF 147 := fa Tryz.func147 (by kernel_rfl)
theorem fact48 : FactF 48 := fa Tryz.func48 (by kernel_rfl)
theorem fact92 : FactF 92 := fa Tryz.func92 (by kernel_rfl)
theorem fact214 : FactF 214 := fa Tryz.func214 (by kernel_rfl)
theorem fact3 : FactF 3 := fa Tryz.func3 (by kernel_rfl)
theorem fact194 : FactF 194 := fa Tryz.func194 (by kernel_rfl)
theorem fact87 : FactF 87 := fa Tryz.func87 (by kernel_rfl)
theorem fact196 : FactF 196 := fa Tryz.func196 (by kernel_rfl)
theorem fact90 : FactF 90 := fa Tryz.func90 (by kernel_rfl)
theorem fact4 : FactF 4 := fa Tryz.func4 (by kernel_rfl)
theorem fact212 : FactF 212 := fa Tryz.func212 (by kernel_rfl)
theorem fact5 : FactF 5 := fa Tryz.func5 (by kernel_rfl)
theorem fact12 : FactF 12 := fa Tryz.func12 (by kernel_rfl)
theorem fact15 : FactF 15 := fa Tryz.func15 (by kernel_rfl)
theorem fact29 : FactF 29 := fa Tryz.func29 (by kernel_rfl)
theorem fact56 : FactF 56 := fa Tryz.func56 (by kernel_rfl)
theorem fact6 : FactF 6 := fa Tryz.func6 (by kernel_rfl)
theorem fact151 : FactF 151 := fa Tryz.func151 (by kernel_rfl)
theorem fact152 : FactF 152 := fa Tryz.func152 (by kernel_rfl)
theorem fact153 : FactF 153 := fa Tryz.func153 (by kernel_rfl)
theorem fact93 : FactF 93 := fa Tryz.func93 (by kernel_rfl)
theorem fact7 : FactF 7 := fa Tryz.func7 (by kernel_rfl)
end Go.Top

namespace Go.Top
open Go Go.Eng Go.Proofs.YtenckbcdfdmckaaGreatDoor
set_option maxRecDepth 100000
def AllF : List Nat → Prop
  | [] => True
  | f :: r => FactF f ∧ AllF r
theorem AllF.mem {f : Nat} : ∀ {l : List Nat}, AllF l → f ∈ l → FactF f
  | g :: r, h, hm => by
    rcases List.mem_cons.1 hm with rfl | hm
    · exact h.1
    · exact AllF.mem h.2 hm
theorem allF : AllF (kdT.map (·.1)) := ⟨fact231, fact232, fact180, fact230, fact269, fact181, fact235, fact177, fact294, fact182, fact176, fact229, fact268, fact187, fact173, fact124, fact183, fact112, fact184, fact131, fact179, fact130, fact66, fact35, fact227, fact23, fact252, fact122, fact204, fact133, fact202, fact247, fact208, fact129, fact178, fact207, fact228, fact33, fact108, fact185, fact78, fact68, fact139, fact334, fact127, fact166, fact174, fact291, fact292, fact323, fact220, fact65, fact209, fact253, fact255, fact303, fact120, fact123, fact76, fact128, fact320, fact72, fact248, fact165, fact168, fact14, fact26, fact27, fact136, fact134, fact175, fact121, fact67, fact24, fact36, fact80, fact135, fact37, fact217, fact256, fact218, fact219, fact81, fact39, fact69, fact109, fact49, fact117, fact223, fact226, fact267, fact115, fact211, fact142, fact189, fact236, fact274, fact118, fact169, fact170, fact125, fact77, fact75, fact126, fact221, fact38, fact289, fact318, fact321, fact98, fact79, fact132, fact271, fact272, fact50, fact233, fact234, fact222, fact270, fact311, fact30, fact71, fact22, fact57, fact284, fact85, fact186, fact200, fact244, fact143, fact199, fact154, fact245, fact201, fact246, fact287, fact319, fact333, fact290, fact322, fact197, fact203, fact144, fact198, fact137, fact25, fact40, fact70, fact113, fact114, fact116, fact167, fact73, fact41, fact42, fact156, fact60, fact28, fact158, fact20, fact17, fact16, fact224, fact141, fact18, fact31, fact32, fact58, fact53, fact94, fact188, fact249, fact74, fact238, fact283, fact192, fact239, fact54, fact95, fact155, fact205, fact240, fact210, fact254, fact295, fact157, fact213, fact241, fact195, fact243, fact55, fact82, fact138, fact9, fact13, fact21, fact96, fact59, fact99, fact159, fact100, fact61, fact19, fact193, fact8, fact11, fact10, fact51, fact145, fact148, fact190, fact86, fact52, fact84, fact140, fact150, fact83, fact91, fact147, fact48, fact92, fact214, fact3, fact194, fact87, fact196, fact90, fact4, fact212, fact5, fact12, fact15, fact29, fact56, fact6, fact151, fact152, fact153, fact93, fact7, trivial⟩
theorem E_ok : EnvOk Proofs.Tryz.prog E where
  ty := tyOf_ok _
  eq con := eqOf_ok _ con
  nz := eqOf_nz _
  mix := mixed
  base := baseT_ok natTab_ok _ _
  orc0 := orcT_ok natTab_ok _ _
  fns f _ hk := AllF.mem allF (findK_mem hk)
theorem E_level (n : Nat) : Go.Eng.Sys Proofs.Tryz.prog (E.ctx n) ∧ OrcOk (E.ctx n) (E.orc n) := level E_ok n
end Go.Top

namespace Go.Top
open Go Go.Eng
set_option maxRecDepth 100000
variable {P : Program} {E : Env}

/-! ### Answers -/
def eqEs : List Ent → List Ent → Bool
  | [], [] => true
  | x :: a, y :: b => eqE x y && eqEs a b
  | _, _ => false
theorem eqEs_eq : ∀ {x y : List Ent}, eqEs x y = true → x = y
  | [], y, h => by cases y <;> simp [eqEs] at h; rfl
  | x :: a, y, h => by cases y <;> simp [eqEs] at h; rw [eqE_eq h.1, eqEs_eq h.2]
noncomputable def isS (o : Option CV) (v : CV) : Bool := match o with
  | some x => eqV x v
  | none => false
noncomputable def isP (o : Option (CV × List Ent)) (v : CV) (es : List Ent) : Bool := match o with
  | some (x, l) => eqV x v && eqEs l es
  | none => false
theorem isS_eq {o : Option CV} {v : CV} (h : isS o v = true) : o = some v := by
  unfold isS at h
  split at h
  · rw [eqV_eq _ _ h]
  · cases h
theorem isP_eq {o : Option (CV × List Ent)} {v : CV} {es : List Ent} (h : isP o v es = true) : o = some (v, es) := by
  unfold isP at h
  split at h
  · rw [Bool.and_eq_true] at h
    rw [eqV_eq _ _ h.1, eqEs_eq h.2]
  · cases h

structure MS where
  ar : List CV
  v : CV
structure MP where
  ar : List CV
  v : CV
  es : List Ent
noncomputable def chkS (O : Orc) (f : Nat) (l : List MS) : Bool := List.rec true (fun x _ ih => MS.rec (fun ar v => bif isS (O.scal f ar) v then ih else false) x) l
noncomputable def chkP (O : Orc) (f : Nat) (l : List MP) : Bool := List.rec true (fun x _ ih => MP.rec (fun ar v es => bif isP (O.pure f ar) v es then ih else false) x) l
theorem chkS_ok {O : Orc} {f : Nat} : ∀ {l : List MS}, chkS O f l = true → ∀ x ∈ l, O.scal f x.ar = some x.v
  | [], _, x, hx => by cases hx
  | ⟨ar, v⟩ :: r, h, x, hx => by
    have h : (bif isS (O.scal f ar) v then chkS O f r else false) = true := h
    cases hb : isS (O.scal f ar) v with
    | false => rw [hb] at h; cases h
    | true =>
      rw [hb] at h
      rcases List.mem_cons.1 hx with rfl | hx
      · exact isS_eq hb
      · exact chkS_ok h x hx
theorem chkP_ok {O : Orc} {f : Nat} : ∀ {l : List MP}, chkP O f l = true → ∀ x ∈ l, O.pure f x.ar = some (x.v, x.es)
  | [], _, x, hx => by cases hx
  | ⟨ar, v, es⟩ :: r, h, x, hx => by
    have h : (bif isP (O.pure f ar) v es then chkP O f r else false) = true := h
    cases hb : isP (O.pure f ar) v es with
    | false => rw [hb] at h; cases h
    | true =>
      rw [hb] at h
      rcases List.mem_cons.1 hx with rfl | hx
      · exact isP_eq hb
      · exact chkP_ok h x hx

structure Memo where
  fs : List Nat
  ms : List (Nat × List MS)
  mp : List (Nat × List MP)
def AllS (O : Orc) : List (Nat × List MS) → Prop
  | [] => True
  | (f, l) :: r => chkS O f l = true ∧ AllS O r
def AllP (O : Orc) : List (Nat × List MP) → Prop
  | [] => True
  | (f, l) :: r => chkP O f l = true ∧ AllP O r
noncomputable def partS (f : Nat) (l : List (Nat × List MS)) : List MS := List.rec [] (fun x _ ih => Prod.rec (fun g r => bif Nat.beq f g then r ++ ih else ih) x) l
noncomputable def partP (f : Nat) (l : List (Nat × List MP)) : List MP := List.rec [] (fun x _ ih => Prod.rec (fun g r => bif Nat.beq f g then r ++ ih else ih) x) l
theorem partS_ok {O : Orc} {f : Nat} : ∀ {l : List (Nat × List MS)}, AllS O l → ∀ x ∈ partS f l, O.scal f x.ar = some x.v
  | [], _, x, hx => by cases hx
  | (g, l) :: r, ⟨h1, h2⟩, x, hx => by
    have hx2 : x ∈ (bif Nat.beq f g then l ++ partS f r else partS f r) := hx
    cases hb : Nat.beq f g with
    | false => rw [hb] at hx2; exact partS_ok h2 x hx2
    | true =>
      rw [hb, cond_true] at hx2
      have hfg := Nat.eq_of_beq_eq_true hb
      subst hfg
      rcases List.mem_append.1 hx2 with hx | hx
      · exact chkS_ok h1 x hx
      · exact partS_ok h2 x hx
theorem partP_ok {O : Orc} {f : Nat} : ∀ {l : List (Nat × List MP)}, AllP O l → ∀ x ∈ partP f l, O.pure f x.ar = some (x.v, x.es)
  | [], _, x, hx => by cases hx
  | (g, l) :: r, ⟨h1, h2⟩, x, hx => by
    have hx2 : x ∈ (bif Nat.beq f g then l ++ partP f r else partP f r) := hx
    cases hb : Nat.beq f g with
    | false => rw [hb] at hx2; exact partP_ok h2 x hx2
    | true =>
      rw [hb, cond_true] at hx2
      have hfg := Nat.eq_of_beq_eq_true hb
      subst hfg
      rcases List.mem_append.1 hx2 with hx | hx
      · exact chkP_ok h1 x hx
      · exact partP_ok h2 x hx
noncomputable def findMS (m : List MS) (args : List CV) (d : Option CV) : Option CV := List.rec d (fun x _ ih => MS.rec (fun ar v => bif eqVL ar args then some v else ih) x) m
noncomputable def findMP (m : List MP) (args : List CV) (d : Option (CV × List Ent)) : Option (CV × List Ent) := List.rec d (fun x _ ih => MP.rec (fun ar v es => bif eqVL ar args then some (v, es) else ih) x) m
theorem findMS_eq {d : List CV → Option CV} {args : List CV} : ∀ {m : List MS}, (∀ x ∈ m, d x.ar = some x.v) → findMS m args (d args) = d args
  | [], _ => rfl
  | ⟨ar, v⟩ :: r, h => by
    show (bif eqVL ar args then some v else findMS r args (d args)) = d args
    rw [findMS_eq fun x hx => h x (List.mem_cons_of_mem _ hx)]
    cases hb : eqVL ar args with
    | false => rfl
    | true =>
      obtain rfl := eqVL_eq _ _ hb
      exact (h ⟨ar, v⟩ (List.mem_cons_self ..)).symm
theorem findMP_eq {d : List CV → Option (CV × List Ent)} {args : List CV} : ∀ {m : List MP}, (∀ x ∈ m, d x.ar = some (x.v, x.es)) → findMP m args (d args) = d args
  | [], _ => rfl
  | ⟨ar, v, es⟩ :: r, h => by
    show (bif eqVL ar args then some (v, es) else findMP r args (d args)) = d args
    rw [findMP_eq fun x hx => h x (List.mem_cons_of_mem _ hx)]
    cases hb : eqVL ar args with
    | false => rfl
    | true =>
      obtain rfl := eqVL_eq _ _ hb
      exact (h ⟨ar, v, es⟩ (List.mem_cons_self ..)).symm

/-- Some functions by what is known of them. -/
noncomputable def Env.withM (E : Env) (N : Nat) (M : Memo) : Env :=
  { E with
    base := fun f => bif memB f M.fs then (E.ctx N).con f else E.base f
    O0 := {
      kind := fun f => bif memB f M.fs then kdOr (E.O0.kind f) (E.kd f) else E.O0.kind f
      scal := fun f args => bif memB f M.fs then findMS (partS f M.ms) args ((E.orc N).scal f args) else E.O0.scal f args
      pure := fun f args => bif memB f M.fs then findMP (partP f M.mp) args ((E.orc N).pure f args) else E.O0.pure f args
      gen := fun f args t nx => bif memB f M.fs then (E.orc N).gen f args t nx else E.O0.gen f args t nx } }
theorem kdOr_twice (a b : Knd) : kdOr (kdOr a b) b = kdOr a b := by cases a <;> cases b <;> rfl
theorem withM_ok {N : Nat} {M : Memo} (EO : EnvOk P E) (hs : AllS (E.orc N) M.ms) (hp : AllP (E.orc N) M.mp) : EnvOk P (E.withM N M) := by
  obtain ⟨S, O⟩ := level EO N
  have hkd : ∀ f, kdOr ((E.withM N M).O0.kind f) ((E.withM N M).kd f) = kdOr (E.O0.kind f) (E.kd f) := fun f => by
    show kdOr (bif memB f M.fs then kdOr (E.O0.kind f) (E.kd f) else E.O0.kind f) (E.kd f) = _
    cases memB f M.fs with
    | false => rfl
    | true => exact kdOr_twice _ _
  refine ⟨EO.ty, EO.eq, EO.nz, EO.mix, fun f k h => ?_, ⟨fun f hk => ?_, fun f hk => ?_, fun f hk => ?_, fun f hk => ?_⟩, fun f hk hd => ?_⟩
  · have h : (bif memB f M.fs then (E.ctx N).con f else E.base f) = some k := h
    cases hb : memB f M.fs with
    | false => rw [hb] at h; exact EO.base f k h
    | true => rw [hb] at h; exact S.con f k h
  · have hk : (bif memB f M.fs then kdOr (E.O0.kind f) (E.kd f) else E.O0.kind f) = .scal := hk
    cases hb : memB f M.fs with
    | false =>
      rw [hb] at hk
      obtain ⟨c, r, h1, h2⟩ := EO.orc0.scal f hk
      refine ⟨c, r, (show (bif memB f M.fs then (E.ctx N).con f else E.base f) = _ by rw [hb]; exact h1), fun args v hv => h2 args v ?_⟩
      have hv : (bif memB f M.fs then findMS (partS f M.ms) args ((E.orc N).scal f args) else E.O0.scal f args) = some v := hv
      rw [hb] at hv; exact hv
    | true =>
      rw [hb] at hk
      obtain ⟨c, r, h1, h2⟩ := O.scal f ((orc_kind N f).trans hk)
      refine ⟨c, r, (show (bif memB f M.fs then (E.ctx N).con f else E.base f) = _ by rw [hb]; exact h1), fun args v hv => h2 args v ?_⟩
      have hv : (bif memB f M.fs then findMS (partS f M.ms) args ((E.orc N).scal f args) else E.O0.scal f args) = some v := hv
      rw [hb, cond_true, findMS_eq (d := (E.orc N).scal f) fun x hx => partS_ok hs x hx] at hv
      exact hv
  · have hk : (bif memB f M.fs then kdOr (E.O0.kind f) (E.kd f) else E.O0.kind f) = .pure := hk
    cases hb : memB f M.fs with
    | false =>
      rw [hb] at hk
      obtain ⟨c, es, mk, h1, h2⟩ := EO.orc0.pure f hk
      refine ⟨c, es, mk, (show (bif memB f M.fs then (E.ctx N).con f else E.base f) = _ by rw [hb]; exact h1), fun args v l hv => h2 args v l ?_⟩
      have hv : (bif memB f M.fs then findMP (partP f M.mp) args ((E.orc N).pure f args) else E.O0.pure f args) = some (v, l) := hv
      rw [hb] at hv; exact hv
    | true =>
      rw [hb] at hk
      obtain ⟨c, es, mk, h1, h2⟩ := O.pure f ((orc_kind N f).trans hk)
      refine ⟨c, es, mk, (show (bif memB f M.fs then (E.ctx N).con f else E.base f) = _ by rw [hb]; exact h1), fun args v l hv => h2 args v l ?_⟩
      have hv : (bif memB f M.fs then findMP (partP f M.mp) args ((E.orc N).pure f args) else E.O0.pure f args) = some (v, l) := hv
      rw [hb, cond_true, findMP_eq (d := (E.orc N).pure f) fun x hx => partP_ok hp x hx] at hv
      exact hv
  · have hk : (bif memB f M.fs then kdOr (E.O0.kind f) (E.kd f) else E.O0.kind f) = .gen := hk
    cases hb : memB f M.fs with
    | false =>
      rw [hb] at hk
      obtain ⟨m, F, h1, h2, h3⟩ := EO.orc0.gen f hk
      refine ⟨m, F, (show (bif memB f M.fs then (E.ctx N).con f else E.base f) = _ by rw [hb]; exact h1), h2, fun args t nx v t' nx' hv => h3 args t nx v t' nx' ?_⟩
      have hv : (bif memB f M.fs then (E.orc N).gen f args t nx else E.O0.gen f args t nx) = some (v, t', nx') := hv
      rw [hb] at hv; exact hv
    | true =>
      rw [hb] at hk
      obtain ⟨m, F, h1, h2, h3⟩ := O.gen f ((orc_kind N f).trans hk)
      refine ⟨m, F, (show (bif memB f M.fs then (E.ctx N).con f else E.base f) = _ by rw [hb]; exact h1), h2, fun args t nx v t' nx' hv => h3 args t nx v t' nx' ?_⟩
      have hv : (bif memB f M.fs then (E.orc N).gen f args t nx else E.O0.gen f args t nx) = some (v, t', nx') := hv
      rw [hb] at hv; exact hv
  · have hk : (bif memB f M.fs then kdOr (E.O0.kind f) (E.kd f) else E.O0.kind f) = .no := hk
    intro modes F
    show (bif memB f M.fs then (E.ctx N).con f else E.base f) ≠ _
    cases hb : memB f M.fs with
    | false => rw [hb] at hk; exact EO.orc0.no f hk modes F
    | true => rw [hb] at hk; exact O.no f ((orc_kind N f).trans hk) modes F
  · have hk0 : (bif memB f M.fs then kdOr (E.O0.kind f) (E.kd f) else E.O0.kind f) = .no := hk
    have hd : isNo (E.kd f) = false := hd
    have hn : E.O0.kind f = .no := by
      cases hb : memB f M.fs with
      | false => rw [hb] at hk0; exact hk0
      | true =>
        rw [hb] at hk0
        cases ho : E.O0.kind f with
        | no => rfl
        | _ => rw [ho] at hk0; cases hk0
    obtain ⟨fn, b, h1, h2, h3, h4, h5, h6⟩ := EO.fns f hn hd
    refine ⟨fn, b, h1, h2, h3, ?_, h5, h6⟩
    have e : (fun g => match kdOr ((E.withM N M).O0.kind g) ((E.withM N M).kd g) with | .gen => some (Con.gen [] fun _ _ _ => False) | _ => none) = fun g => match kdOr (E.O0.kind g) (E.kd g) with | .gen => some (Con.gen [] fun _ _ _ => False) | _ => none := by
      funext g; rw [hkd g]
    show toG ⟨E.ty, E.eqk, fun g => match kdOr ((E.withM N M).O0.kind g) ((E.withM N M).kd g) with | .gen => some (Con.gen [] fun _ _ _ => False) | _ => none⟩ fn.ntmps b = some (E.G f).strip
    rw [e]
    exact h4
end Go.Top

namespace Go.Top
open Go Go.Eng
set_option maxRecDepth 100000
theorem law_ok {E : Env} (EO : EnvOk Proofs.Tryz.prog E) {n f : Nat} (hk : E.O0.kind f = .no) (hd : E.kd f = .scal) (h : E.scalN (E.orc n) f [] = some (.bool true)) : COk Proofs.Tryz.prog f (fnScal Arms.nil (fun _ => True) rTrue) := by
  have S := (level EO (n + 1)).1
  have hc : (E.ctx (n + 1)).con f = some (.scal (fun us => (RL nor (concL us) us ∧ us.length ≤ E.np f) ∧ (E.scalN (E.orc n) f (concL us)).isSome = true) fun us => absR nor ((E.scalN (E.orc n) f (concL us)).getD .unk)) := by
    show E.con1 (E.ctx n) (E.orc n) f = _
    unfold Env.con1
    rw [hk, hd]
  obtain ⟨h1, h2⟩ := S.con f _ hc
  refine ⟨h1, ?_⟩
  show ScalOk _ _ _ _
  intro ar vs β w A hb hf hbo ha hc'
  obtain ⟨x, hx, _⟩ := hc'
  have he : ar = [] := by
    cases ar with
    | nil => rfl
    | cons _ _ => cases hx
  subst he
  have hr : absR nor ((E.scalN (E.orc n) f (concL [])).getD .unk) = .t (.bool true) := by
    show absR nor ((E.scalN (E.orc n) f []).getD .unk) = _
    rw [h]; rfl
  have h3 := h2 [] vs β w A hb hf hbo ha ⟨⟨rfl, Nat.zero_le _⟩, by show (E.scalN (E.orc n) f []).isSome = true; rw [h]; rfl⟩
  simp only [hr] at h3
  exact h3
end Go.Top
