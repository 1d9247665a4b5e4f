/- RatioRings, walked in parts: what a part finds, and the last two. -/
import Derived.Test.YtofndakpenpkbaaDoorNearW
namespace Go.Proofs.YtofndakpenpkbaaDoor.PA
open Go.RowKit Go.ChangeShapes Go.WideShapes Go.Proofs.YtofndakpenpkbaaDoorW.PrintWords Go.Proofs.YtofndakpenpkbaaDoorW.PrintLast Go.Proofs.YtofndakpenpkbaaDoorW.PrintMore
attribute [local go_sem high] eqA24
set_option linter.unusedSimpArgs false
set_option linter.unusedVariables false
/-- what comes first -/
def fstC : Code → Code
  | .seq a _ => a
  | c => c
noncomputable def ringsT1 : Code := sndC (Tryd.f7.body.getD .skip)
noncomputable def ringsT2 : Code := sndC ringsT1
noncomputable def ringsT3 : Code := sndC ringsT2
noncomputable def ringsT4 : Code := sndC ringsT3
noncomputable def ringsT5 : Code := sndC ringsT4
noncomputable def ringsT6 : Code := sndC ringsT5
noncomputable def ringsT7 : Code := sndC ringsT6
noncomputable def ringsT8 : Code := sndC ringsT7
noncomputable def ringsT9 : Code := sndC ringsT8
noncomputable def ringsT10 : Code := sndC ringsT9
noncomputable def ringsT11 : Code := sndC ringsT10
noncomputable def ringsT12 : Code := sndC ringsT11
noncomputable def ringsT13 : Code := sndC ringsT12
noncomputable def ringsT14 : Code := sndC ringsT13
noncomputable def ringsT15 : Code := sndC ringsT14
noncomputable def ringsT16 : Code := sndC ringsT15
theorem ringsE8 : ringsT8 = .seq (fstC ringsT8) ringsT9 := by kernel_rfl
theorem ringsE9 : ringsT9 = .seq (fstC ringsT9) ringsT10 := by kernel_rfl
theorem ringsE10 : ringsT10 = .seq (fstC ringsT10) ringsT11 := by kernel_rfl
theorem ringsE11 : ringsT11 = .seq (fstC ringsT11) ringsT12 := by kernel_rfl
theorem ringsE12 : ringsT12 = .seq (fstC ringsT12) ringsT13 := by kernel_rfl
theorem ringsE13 : ringsT13 = .seq (fstC ringsT13) ringsT14 := by kernel_rfl
theorem ringsE14 : ringsT14 = .seq (fstC ringsT14) ringsT15 := by kernel_rfl
theorem ringsE15 : ringsT15 = .seq (fstC ringsT15) ringsT16 := by kernel_rfl
theorem ringsE0 : Tryd.f7.body.getD .skip = .seq (fstC (Tryd.f7.body.getD .skip)) ringsT1 := by kernel_rfl
/-- the world and the frame at part 8 -/
def At8 (w : World) (a b c d e f p1 q1 p2 q2 r1 r2 : Int) : Prop := ∀ {s9 s10 s13 s14 s15 s16 s17 s18 s19 s20 s21 s22 s23 s24 s25 s26 s27 s28 s29 s30 s31 s32 s33 s34 s35 s36 s37 s38 s39 s40 s41 s42 s43 s44 s45 s46 s47 s48 s49 s50 s51 s52 s53 s54 s55 s56 s57 s58 s59 s60 s61 s62 s63 s64 s65 s66 s67 s68 s69 s70 s71 s72 s73 s74 s75 s76 s77 s78 s79 s80 s81 s82 s83 s84 s85 s86 s87 s88 s89 s90 s91 s92 s93 s94 s95 s96 s97 s98 s99 s100 s101 s102 s103 s104 s105 s106 s107 s108 s109 s110 s111 s112 s113 s114 s115 s116 s117 s118 s119 s120 s121 s122 s123 s124 s125 s126 s127 s128 s129 s130 s131 s132 s133 s134 s135 s136 s137 s138 s139 s140 s141 s142 s143 s144 s145 s146 s147 s148 s149 s150 s151 s152 s153 s154 s155 s156 s157 s158 s159 s160 s161 s162 s163 s164 s165 s166 s167 s168 s169 s170 s171 s172 s173 s174 s175 s176 s177 s178 s179 s180 s181 s182 s183 s184 s185 s186 s187 s188 s189 s190 s191 s192 s193 s194 s195 s196 s197 s198 s199 s200 s201 s202 s203 s204 s205 s206 s207 s208 s209 s210 s211 s212 s213 s214 s215 s216 s217 s218 s219 s220 s221 s222 s223 s224 s225 : Value} {gA gB gC gP gX : Nat} {W : World}, (W.heap[gA]? = some (.cells #[.int .i64 a, .int .i64 b] 24 (0, 0)) ∧ W.heap[gB]? = some (.cells #[.int .i64 c, .int .i64 d] 24 (0, 0)) ∧ W.heap[gC]? = some (.cells #[.int .i64 e, .int .i64 f] 24 (0, 0)) ∧ W.heap[gP]? = some (.cells #[.int .i64 p1, .int .i64 q1] 24 (0, 0)) ∧ W.heap[gX]? = some (.cells #[.int .i64 p2, .int .i64 q2] 24 (0, 0))) → Below w.heap.size w W →
  ringsT8.wp Tryd.prog (bodyPost Tryd.prog Tryd.f7 fun e w' => e = .returned (.bool true) ∧ Below w.heap.size w w') ⟨#[.agg #[.int .i64 a, .int .i64 b], .agg #[.int .i64 c, .int .i64 d], .agg #[.int .i64 e, .int .i64 f], .pointer (some ⟨gA, 0, none⟩), .pointer (some ⟨gB, 0, none⟩), .pointer (some ⟨gC, 0, none⟩), .bool false, .pointer (some ⟨gP, 0, none⟩), .int .i64 r1, s9, s10, .pointer (some ⟨gX, 0, none⟩), .int .i64 r2, s13, s14, s15, s16, s17, s18, s19, s20, s21, s22, s23, s24, s25, s26, s27, s28, s29, s30, s31, s32, s33, s34, s35, s36, s37, s38, s39, s40, s41, s42, s43, s44, s45, s46, s47, s48, s49, s50, s51, s52, s53, s54, s55, s56, s57, s58, s59, s60, s61, s62, s63, s64, s65, s66, s67, s68, s69, s70, s71, s72, s73, s74, s75, s76, s77, s78, s79, s80, s81, s82, s83, s84, s85, s86, s87, s88, s89, s90, s91, s92, s93, s94, s95, s96, s97, s98, s99, s100, s101, s102, s103, s104, s105, s106, s107, s108, s109, s110, s111, s112, s113, s114, s115, s116, s117, s118, s119, s120, s121, s122, s123, s124, s125, s126, s127, s128, s129, s130, s131, s132, s133, s134, s135, s136, s137, s138, s139, s140, s141, s142, s143, s144, s145, s146, s147, s148, s149, s150, s151, s152, s153, s154, s155, s156, s157, s158, s159, s160, s161, s162, s163, s164, s165, s166, s167, s168, s169, s170, s171, s172, s173, s174, s175, s176, s177, s178, s179, s180, s181, s182, s183, s184, s185, s186, s187, s188, s189, s190, s191, s192, s193, s194, s195, s196, s197, s198, s199, s200, s201, s202, s203, s204, s205, s206, s207, s208, s209, s210, s211, s212, s213, s214, s215, s216, s217, s218, s219, s220, s221, s222, s223, s224, s225], []⟩ W
/-- the world and the frame at part 9 -/
def At9 (w : World) (a b c d e f p1 q1 p2 q2 r1 r2 : Int) : Prop := ∀ {s9 s10 s13 s14 s15 s16 s17 s18 s19 s20 s21 s22 s23 s24 s25 s26 s27 s28 s29 s30 s31 s32 s33 s34 s35 s36 s37 s38 s39 s40 s41 s42 s43 s44 s45 s46 s47 s48 s49 s50 s51 s52 s53 s54 s55 s56 s57 s58 s59 s60 s61 s62 s63 s64 s65 s66 s67 s68 s69 s70 s71 s72 s73 s74 s75 s76 s77 s78 s79 s80 s81 s82 s83 s84 s85 s86 s87 s88 s89 s90 s91 s92 s93 s94 s95 s96 s97 s98 s99 s100 s101 s102 s103 s104 s105 s106 s107 s108 s109 s110 s111 s112 s113 s114 s115 s116 s117 s118 s119 s120 s121 s122 s123 s124 s125 s126 s127 s128 s129 s130 s131 s132 s133 s134 s135 s136 s137 s138 s139 s140 s141 s142 s143 s144 s145 s146 s147 s148 s149 s150 s151 s152 s153 s154 s155 s156 s157 s158 s159 s160 s161 s162 s163 s164 s165 s166 s167 s168 s169 s170 s171 s172 s173 s174 s175 s176 s177 s178 s179 s180 s181 s182 s183 s184 s185 s186 s187 s188 s189 s190 s191 s192 s193 s194 s195 s196 s197 s198 s199 s200 s201 s202 s203 s204 s205 s206 s207 s208 s209 s210 s211 s212 s213 s214 s215 s216 s217 s218 s219 s220 s221 s222 s223 s224 s225 : Value} {gA gB gC gP gX : Nat} {W : World}, (W.heap[gA]? = some (.cells #[.int .i64 a, .int .i64 b] 24 (0, 0)) ∧ W.heap[gB]? = some (.cells #[.int .i64 c, .int .i64 d] 24 (0, 0)) ∧ W.heap[gC]? = some (.cells #[.int .i64 e, .int .i64 f] 24 (0, 0)) ∧ W.heap[gP]? = some (.cells #[.int .i64 p1, .int .i64 q1] 24 (0, 0)) ∧ W.heap[gX]? = some (.cells #[.int .i64 p2, .int .i64 q2] 24 (0, 0))) → Below w.heap.size w W →
  ringsT9.wp Tryd.prog (bodyPost Tryd.prog Tryd.f7 fun e w' => e = .returned (.bool true) ∧ Below w.heap.size w w') ⟨#[.agg #[.int .i64 a, .int .i64 b], .agg #[.int .i64 c, .int .i64 d], .agg #[.int .i64 e, .int .i64 f], .pointer (some ⟨gA, 0, none⟩), .pointer (some ⟨gB, 0, none⟩), .pointer (some ⟨gC, 0, none⟩), .bool false, .pointer (some ⟨gP, 0, none⟩), .int .i64 r1, s9, s10, .pointer (some ⟨gX, 0, none⟩), .int .i64 r2, s13, s14, s15, s16, s17, s18, s19, s20, s21, s22, s23, s24, s25, s26, s27, s28, s29, s30, s31, s32, s33, s34, s35, s36, s37, s38, s39, s40, s41, s42, s43, s44, s45, s46, s47, s48, s49, s50, s51, s52, s53, s54, s55, s56, s57, s58, s59, s60, s61, s62, s63, s64, s65, s66, s67, s68, s69, s70, s71, s72, s73, s74, s75, s76, s77, s78, s79, s80, s81, s82, s83, s84, s85, s86, s87, s88, s89, s90, s91, s92, s93, s94, s95, s96, s97, s98, s99, s100, s101, s102, s103, s104, s105, s106, s107, s108, s109, s110, s111, s112, s113, s114, s115, s116, s117, s118, s119, s120, s121, s122, s123, s124, s125, s126, s127, s128, s129, s130, s131, s132, s133, s134, s135, s136, s137, s138, s139, s140, s141, s142, s143, s144, s145, s146, s147, s148, s149, s150, s151, s152, s153, s154, s155, s156, s157, s158, s159, s160, s161, s162, s163, s164, s165, s166, s167, s168, s169, s170, s171, s172, s173, s174, s175, s176, s177, s178, s179, s180, s181, s182, s183, s184, s185, s186, s187, s188, s189, s190, s191, s192, s193, s194, s195, s196, s197, s198, s199, s200, s201, s202, s203, s204, s205, s206, s207, s208, s209, s210, s211, s212, s213, s214, s215, s216, s217, s218, s219, s220, s221, s222, s223, s224, s225], []⟩ W
/-- the world and the frame at part 10 -/
def At10 (w : World) (a b c d e f p1 q1 p2 q2 r1 r2 : Int) : Prop := ∀ {s9 s10 s13 s14 s15 s16 s17 s18 s19 s20 s21 s22 s23 s24 s25 s26 s27 s28 s29 s30 s31 s32 s33 s34 s35 s36 s37 s38 s39 s40 s41 s42 s43 s44 s45 s46 s47 s48 s49 s50 s51 s52 s53 s54 s55 s56 s57 s58 s59 s60 s61 s62 s63 s64 s65 s66 s67 s68 s69 s70 s71 s72 s73 s74 s75 s76 s77 s78 s79 s80 s81 s82 s83 s84 s85 s86 s87 s88 s89 s90 s91 s92 s93 s94 s95 s96 s97 s98 s99 s100 s101 s102 s103 s104 s105 s106 s107 s108 s109 s110 s111 s112 s113 s114 s115 s116 s117 s118 s119 s120 s121 s122 s123 s124 s125 s126 s127 s128 s129 s130 s131 s132 s133 s134 s135 s136 s137 s138 s139 s140 s141 s142 s143 s144 s145 s146 s147 s148 s149 s150 s151 s152 s153 s154 s155 s156 s157 s158 s159 s160 s161 s162 s163 s164 s165 s166 s167 s168 s169 s170 s171 s172 s173 s174 s175 s176 s177 s178 s179 s180 s181 s182 s183 s184 s185 s186 s187 s188 s189 s190 s191 s192 s193 s194 s195 s196 s197 s198 s199 s200 s201 s202 s203 s204 s205 s206 s207 s208 s209 s210 s211 s212 s213 s214 s215 s216 s217 s218 s219 s220 s221 s222 s223 s224 s225 : Value} {gA gB gC gP gX : Nat} {W : World}, (W.heap[gA]? = some (.cells #[.int .i64 a, .int .i64 b] 24 (0, 0)) ∧ W.heap[gB]? = some (.cells #[.int .i64 c, .int .i64 d] 24 (0, 0)) ∧ W.heap[gC]? = some (.cells #[.int .i64 e, .int .i64 f] 24 (0, 0)) ∧ W.heap[gP]? = some (.cells #[.int .i64 p1, .int .i64 q1] 24 (0, 0)) ∧ W.heap[gX]? = some (.cells #[.int .i64 p2, .int .i64 q2] 24 (0, 0))) → Below w.heap.size w W →
  ringsT10.wp Tryd.prog (bodyPost Tryd.prog Tryd.f7 fun e w' => e = .returned (.bool true) ∧ Below w.heap.size w w') ⟨#[.agg #[.int .i64 a, .int .i64 b], .agg #[.int .i64 c, .int .i64 d], .agg #[.int .i64 e, .int .i64 f], .pointer (some ⟨gA, 0, none⟩), .pointer (some ⟨gB, 0, none⟩), .pointer (some ⟨gC, 0, none⟩), .bool false, .pointer (some ⟨gP, 0, none⟩), .int .i64 r1, s9, s10, .pointer (some ⟨gX, 0, none⟩), .int .i64 r2, s13, s14, s15, s16, s17, s18, s19, s20, s21, s22, s23, s24, s25, s26, s27, s28, s29, s30, s31, s32, s33, s34, s35, s36, s37, s38, s39, s40, s41, s42, s43, s44, s45, s46, s47, s48, s49, s50, s51, s52, s53, s54, s55, s56, s57, s58, s59, s60, s61, s62, s63, s64, s65, s66, s67, s68, s69, s70, s71, s72, s73, s74, s75, s76, s77, s78, s79, s80, s81, s82, s83, s84, s85, s86, s87, s88, s89, s90, s91, s92, s93, s94, s95, s96, s97, s98, s99, s100, s101, s102, s103, s104, s105, s106, s107, s108, s109, s110, s111, s112, s113, s114, s115, s116, s117, s118, s119, s120, s121, s122, s123, s124, s125, s126, s127, s128, s129, s130, s131, s132, s133, s134, s135, s136, s137, s138, s139, s140, s141, s142, s143, s144, s145, s146, s147, s148, s149, s150, s151, s152, s153, s154, s155, s156, s157, s158, s159, s160, s161, s162, s163, s164, s165, s166, s167, s168, s169, s170, s171, s172, s173, s174, s175, s176, s177, s178, s179, s180, s181, s182, s183, s184, s185, s186, s187, s188, s189, s190, s191, s192, s193, s194, s195, s196, s197, s198, s199, s200, s201, s202, s203, s204, s205, s206, s207, s208, s209, s210, s211, s212, s213, s214, s215, s216, s217, s218, s219, s220, s221, s222, s223, s224, s225], []⟩ W
/-- the world and the frame at part 12 -/
def At12 (w : World) (a b c d e f p2 q2 p3 q3 r2 r3 : Int) : Prop := ∀ {s7 s8 s9 s10 s13 s14 s15 s16 s17 s18 s21 s22 s23 s24 s25 s26 s27 s28 s29 s30 s31 s32 s33 s34 s35 s36 s37 s38 s39 s40 s41 s42 s43 s44 s45 s46 s47 s48 s49 s50 s51 s52 s53 s54 s55 s56 s57 s58 s59 s60 s61 s62 s63 s64 s65 s66 s67 s68 s69 s70 s71 s72 s73 s74 s75 s76 s77 s78 s79 s80 s81 s82 s83 s84 s85 s86 s87 s88 s89 s90 s91 s92 s93 s94 s95 s96 s97 s98 s99 s100 s101 s102 s103 s104 s105 s106 s107 s108 s109 s110 s111 s112 s113 s114 s115 s116 s117 s118 s119 s120 s121 s122 s123 s124 s125 s126 s127 s128 s129 s130 s131 s132 s133 s134 s135 s136 s137 s138 s139 s140 s141 s142 s143 s144 s145 s146 s147 s148 s149 s150 s151 s152 s153 s154 s155 s156 s157 s158 s159 s160 s161 s162 s163 s164 s165 s166 s167 s168 s169 s170 s171 s172 s173 s174 s175 s176 s177 s178 s179 s180 s181 s182 s183 s184 s185 s186 s187 s188 s189 s190 s191 s192 s193 s194 s195 s196 s197 s198 s199 s200 s201 s202 s203 s204 s205 s206 s207 s208 s209 s210 s211 s212 s213 s214 s215 s216 s217 s218 s219 s220 s221 s222 s223 s224 s225 : Value} {gA gB gC gX gS : Nat} {W : World}, (W.heap[gA]? = some (.cells #[.int .i64 a, .int .i64 b] 24 (0, 0)) ∧ W.heap[gB]? = some (.cells #[.int .i64 c, .int .i64 d] 24 (0, 0)) ∧ W.heap[gC]? = some (.cells #[.int .i64 e, .int .i64 f] 24 (0, 0)) ∧ W.heap[gX]? = some (.cells #[.int .i64 p2, .int .i64 q2] 24 (0, 0)) ∧ W.heap[gS]? = some (.cells #[.int .i64 p3, .int .i64 q3] 24 (0, 0))) → Below w.heap.size w W →
  ringsT12.wp Tryd.prog (bodyPost Tryd.prog Tryd.f7 fun e w' => e = .returned (.bool true) ∧ Below w.heap.size w w') ⟨#[.agg #[.int .i64 a, .int .i64 b], .agg #[.int .i64 c, .int .i64 d], .agg #[.int .i64 e, .int .i64 f], .pointer (some ⟨gA, 0, none⟩), .pointer (some ⟨gB, 0, none⟩), .pointer (some ⟨gC, 0, none⟩), .bool false, s7, s8, s9, s10, .pointer (some ⟨gX, 0, none⟩), .int .i64 r2, s13, s14, s15, s16, s17, s18, .pointer (some ⟨gS, 0, none⟩), .int .i64 r3, s21, s22, s23, s24, s25, s26, s27, s28, s29, s30, s31, s32, s33, s34, s35, s36, s37, s38, s39, s40, s41, s42, s43, s44, s45, s46, s47, s48, s49, s50, s51, s52, s53, s54, s55, s56, s57, s58, s59, s60, s61, s62, s63, s64, s65, s66, s67, s68, s69, s70, s71, s72, s73, s74, s75, s76, s77, s78, s79, s80, s81, s82, s83, s84, s85, s86, s87, s88, s89, s90, s91, s92, s93, s94, s95, s96, s97, s98, s99, s100, s101, s102, s103, s104, s105, s106, s107, s108, s109, s110, s111, s112, s113, s114, s115, s116, s117, s118, s119, s120, s121, s122, s123, s124, s125, s126, s127, s128, s129, s130, s131, s132, s133, s134, s135, s136, s137, s138, s139, s140, s141, s142, s143, s144, s145, s146, s147, s148, s149, s150, s151, s152, s153, s154, s155, s156, s157, s158, s159, s160, s161, s162, s163, s164, s165, s166, s167, s168, s169, s170, s171, s172, s173, s174, s175, s176, s177, s178, s179, s180, s181, s182, s183, s184, s185, s186, s187, s188, s189, s190, s191, s192, s193, s194, s195, s196, s197, s198, s199, s200, s201, s202, s203, s204, s205, s206, s207, s208, s209, s210, s211, s212, s213, s214, s215, s216, s217, s218, s219, s220, s221, s222, s223, s224, s225], []⟩ W
/-- the world and the frame at part 14 -/
def At14 (w : World) (a b c d e f p2 q2 p3 q3 r2 r3 : Int) : Prop := ∀ {s7 s8 s9 s10 s13 s14 s15 s16 s17 s18 s21 s22 s23 s24 s25 s26 s27 s28 s29 s30 s31 s32 s33 s34 s35 s36 s37 s38 s39 s40 s41 s42 s43 s44 s45 s46 s47 s48 s49 s50 s51 s52 s53 s54 s55 s56 s57 s58 s59 s60 s61 s62 s63 s64 s65 s66 s67 s68 s69 s70 s71 s72 s73 s74 s75 s76 s77 s78 s79 s80 s81 s82 s83 s84 s85 s86 s87 s88 s89 s90 s91 s92 s93 s94 s95 s96 s97 s98 s99 s100 s101 s102 s103 s104 s105 s106 s107 s108 s109 s110 s111 s112 s113 s114 s115 s116 s117 s118 s119 s120 s121 s122 s123 s124 s125 s126 s127 s128 s129 s130 s131 s132 s133 s134 s135 s136 s137 s138 s139 s140 s141 s142 s143 s144 s145 s146 s147 s148 s149 s150 s151 s152 s153 s154 s155 s156 s157 s158 s159 s160 s161 s162 s163 s164 s165 s166 s167 s168 s169 s170 s171 s172 s173 s174 s175 s176 s177 s178 s179 s180 s181 s182 s183 s184 s185 s186 s187 s188 s189 s190 s191 s192 s193 s194 s195 s196 s197 s198 s199 s200 s201 s202 s203 s204 s205 s206 s207 s208 s209 s210 s211 s212 s213 s214 s215 s216 s217 s218 s219 s220 s221 s222 s223 s224 s225 : Value} {gA gB gC gX gS : Nat} {W : World}, (W.heap[gA]? = some (.cells #[.int .i64 a, .int .i64 b] 24 (0, 0)) ∧ W.heap[gB]? = some (.cells #[.int .i64 c, .int .i64 d] 24 (0, 0)) ∧ W.heap[gC]? = some (.cells #[.int .i64 e, .int .i64 f] 24 (0, 0)) ∧ W.heap[gX]? = some (.cells #[.int .i64 p2, .int .i64 q2] 24 (0, 0)) ∧ W.heap[gS]? = some (.cells #[.int .i64 p3, .int .i64 q3] 24 (0, 0))) → Below w.heap.size w W →
  ringsT14.wp Tryd.prog (bodyPost Tryd.prog Tryd.f7 fun e w' => e = .returned (.bool true) ∧ Below w.heap.size w w') ⟨#[.agg #[.int .i64 a, .int .i64 b], .agg #[.int .i64 c, .int .i64 d], .agg #[.int .i64 e, .int .i64 f], .pointer (some ⟨gA, 0, none⟩), .pointer (some ⟨gB, 0, none⟩), .pointer (some ⟨gC, 0, none⟩), .bool false, s7, s8, s9, s10, .pointer (some ⟨gX, 0, none⟩), .int .i64 r2, s13, s14, s15, s16, s17, s18, .pointer (some ⟨gS, 0, none⟩), .int .i64 r3, s21, s22, s23, s24, s25, s26, s27, s28, s29, s30, s31, s32, s33, s34, s35, s36, s37, s38, s39, s40, s41, s42, s43, s44, s45, s46, s47, s48, s49, s50, s51, s52, s53, s54, s55, s56, s57, s58, s59, s60, s61, s62, s63, s64, s65, s66, s67, s68, s69, s70, s71, s72, s73, s74, s75, s76, s77, s78, s79, s80, s81, s82, s83, s84, s85, s86, s87, s88, s89, s90, s91, s92, s93, s94, s95, s96, s97, s98, s99, s100, s101, s102, s103, s104, s105, s106, s107, s108, s109, s110, s111, s112, s113, s114, s115, s116, s117, s118, s119, s120, s121, s122, s123, s124, s125, s126, s127, s128, s129, s130, s131, s132, s133, s134, s135, s136, s137, s138, s139, s140, s141, s142, s143, s144, s145, s146, s147, s148, s149, s150, s151, s152, s153, s154, s155, s156, s157, s158, s159, s160, s161, s162, s163, s164, s165, s166, s167, s168, s169, s170, s171, s172, s173, s174, s175, s176, s177, s178, s179, s180, s181, s182, s183, s184, s185, s186, s187, s188, s189, s190, s191, s192, s193, s194, s195, s196, s197, s198, s199, s200, s201, s202, s203, s204, s205, s206, s207, s208, s209, s210, s211, s212, s213, s214, s215, s216, s217, s218, s219, s220, s221, s222, s223, s224, s225], []⟩ W
set_option maxHeartbeats 8000000 in
set_option maxRecDepth 100000 in
theorem rings5_k (w : World) (a b c d e f p2 q2 p3 q3 r2 r3 p5 q5 r5 : Int)
    (M5 : RT 28 #[.agg #[.int .i64 a, .int .i64 b], .agg #[.int .i64 e, .int .i64 f]] p5 q5 r5)
    (F0 : RB 33 #[.int .i64 r3] false) : At14 w a b c d e f p2 q2 p3 q3 r2 r3 := by
  intro s7 s8 s9 s10 s13 s14 s15 s16 s17 s18 s21 s22 s23 s24 s25 s26 s27 s28 s29 s30 s31 s32 s33 s34 s35 s36 s37 s38 s39 s40 s41 s42 s43 s44 s45 s46 s47 s48 s49 s50 s51 s52 s53 s54 s55 s56 s57 s58 s59 s60 s61 s62 s63 s64 s65 s66 s67 s68 s69 s70 s71 s72 s73 s74 s75 s76 s77 s78 s79 s80 s81 s82 s83 s84 s85 s86 s87 s88 s89 s90 s91 s92 s93 s94 s95 s96 s97 s98 s99 s100 s101 s102 s103 s104 s105 s106 s107 s108 s109 s110 s111 s112 s113 s114 s115 s116 s117 s118 s119 s120 s121 s122 s123 s124 s125 s126 s127 s128 s129 s130 s131 s132 s133 s134 s135 s136 s137 s138 s139 s140 s141 s142 s143 s144 s145 s146 s147 s148 s149 s150 s151 s152 s153 s154 s155 s156 s157 s158 s159 s160 s161 s162 s163 s164 s165 s166 s167 s168 s169 s170 s171 s172 s173 s174 s175 s176 s177 s178 s179 s180 s181 s182 s183 s184 s185 s186 s187 s188 s189 s190 s191 s192 s193 s194 s195 s196 s197 s198 s199 s200 s201 s202 s203 s204 s205 s206 s207 s208 s209 s210 s211 s212 s213 s214 s215 s216 s217 s218 s219 s220 s221 s222 s223 s224 s225 gA gB gC gX gS W hfacts hB
  obtain ⟨g_A, g_B, g_C, g_X, g_S⟩ := hfacts
  obtain ⟨z_A, z1_A, z2_A, y0_A, y1_A⟩ := Hand.hz g_A
  obtain ⟨c_A_0, f_A_0, c_A_1, f_A_1⟩ := Hand.hc2 g_A
  obtain ⟨z_B, z1_B, z2_B, y0_B, y1_B⟩ := Hand.hz g_B
  obtain ⟨c_B_0, f_B_0, c_B_1, f_B_1⟩ := Hand.hc2 g_B
  obtain ⟨z_C, z1_C, z2_C, y0_C, y1_C⟩ := Hand.hz g_C
  obtain ⟨c_C_0, f_C_0, c_C_1, f_C_1⟩ := Hand.hc2 g_C
  obtain ⟨z_X, z1_X, z2_X, y0_X, y1_X⟩ := Hand.hz g_X
  obtain ⟨c_X_0, f_X_0, c_X_1, f_X_1⟩ := Hand.hc2 g_X
  obtain ⟨z_S, z1_S, z2_S, y0_S, y1_S⟩ := Hand.hz g_S
  obtain ⟨c_S_0, f_S_0, c_S_1, f_S_1⟩ := Hand.hc2 g_S
  have zw : w.heap.size ≤ W.heap.size := hB.size
  have HG := Lib.hid (And.intro g_A (And.intro g_B (And.intro g_C (And.intro g_X (And.intro g_S (hB))))))
  clear g_A g_B g_C g_X g_S hB
  rw [ringsE14]
  refine wp_seq_k (fun K14 hK14 => ?_)
  have HK14 := Lib.hid hK14
  clear hK14
  conv => arg 2; whnf
  go_wp2_with fail
  with_reducible refine (M5.out _).mono ?_
  rintro e w1 ⟨rfl, hb1⟩
  obtain ⟨g_A, g_B, g_C, g_X, g_S, hB⟩ := HG.out
  have h_A : w1.heap[gA]? = some (.cells #[.int .i64 a, .int .i64 b] 24 (0, 0)) := by
    refine Hand.kb hb1 ?_; first | with_reducible exact g_A | (simp (disch := first | omega | (simp only [Hand.sa, Hand.ss, Hand.sd, Hand.sn]; first | done | omega)) only [Hand.q2, Hand.q1, Hand.q5, Hand.q6, Hand.q4, Hand.q3, g_A] <;> rfl)
  have h_B : w1.heap[gB]? = some (.cells #[.int .i64 c, .int .i64 d] 24 (0, 0)) := by
    refine Hand.kb hb1 ?_; first | with_reducible exact g_B | (simp (disch := first | omega | (simp only [Hand.sa, Hand.ss, Hand.sd, Hand.sn]; first | done | omega)) only [Hand.q2, Hand.q1, Hand.q5, Hand.q6, Hand.q4, Hand.q3, g_B] <;> rfl)
  have h_C : w1.heap[gC]? = some (.cells #[.int .i64 e, .int .i64 f] 24 (0, 0)) := by
    refine Hand.kb hb1 ?_; first | with_reducible exact g_C | (simp (disch := first | omega | (simp only [Hand.sa, Hand.ss, Hand.sd, Hand.sn]; first | done | omega)) only [Hand.q2, Hand.q1, Hand.q5, Hand.q6, Hand.q4, Hand.q3, g_C] <;> rfl)
  have h_X : w1.heap[gX]? = some (.cells #[.int .i64 p2, .int .i64 q2] 24 (0, 0)) := by
    refine Hand.kb hb1 ?_; first | with_reducible exact g_X | (simp (disch := first | omega | (simp only [Hand.sa, Hand.ss, Hand.sd, Hand.sn]; first | done | omega)) only [Hand.q2, Hand.q1, Hand.q5, Hand.q6, Hand.q4, Hand.q3, g_X] <;> rfl)
  have h_S : w1.heap[gS]? = some (.cells #[.int .i64 p3, .int .i64 q3] 24 (0, 0)) := by
    refine Hand.kb hb1 ?_; first | with_reducible exact g_S | (simp (disch := first | omega | (simp only [Hand.sa, Hand.ss, Hand.sd, Hand.sn]; first | done | omega)) only [Hand.q2, Hand.q1, Hand.q5, Hand.q6, Hand.q4, Hand.q3, g_S] <;> rfl)
  have hB' : Below w.heap.size w w1 := Hand.stepB hb1 (by repeat (with_reducible first | apply hB | apply Below.drew | apply pw_below_drewN | (apply Below.setCell; rotate_left; (dsimp only; omega)) | (apply Below.alloc; rotate_left; (first | omega | (simp only [Hand.sa, Hand.ss, Hand.sd, Hand.sn]; omega))))) (Nat.le_refl _)
  clear HG hB g_A g_B g_C g_X g_S zw z_A z1_A z2_A y0_A y1_A c_A_0 f_A_0 c_A_1 f_A_1 z_B z1_B z2_B y0_B y1_B c_B_0 f_B_0 c_B_1 f_B_1 z_C z1_C z2_C y0_C y1_C c_C_0 f_C_0 c_C_1 f_C_1 z_X z1_X z2_X y0_X y1_X c_X_0 f_X_0 c_X_1 f_X_1 z_S z1_S z2_S y0_S y1_S c_S_0 f_S_0 c_S_1 f_S_1
  clear hb1
  have g_A := h_A
  have g_B := h_B
  have g_C := h_C
  have g_X := h_X
  have g_S := h_S
  have hB := hB'
  clear hB' h_A h_B h_C h_X h_S
  obtain ⟨z_A, z1_A, z2_A, y0_A, y1_A⟩ := Hand.hz g_A
  obtain ⟨c_A_0, f_A_0, c_A_1, f_A_1⟩ := Hand.hc2 g_A
  obtain ⟨z_B, z1_B, z2_B, y0_B, y1_B⟩ := Hand.hz g_B
  obtain ⟨c_B_0, f_B_0, c_B_1, f_B_1⟩ := Hand.hc2 g_B
  obtain ⟨z_C, z1_C, z2_C, y0_C, y1_C⟩ := Hand.hz g_C
  obtain ⟨c_C_0, f_C_0, c_C_1, f_C_1⟩ := Hand.hc2 g_C
  obtain ⟨z_X, z1_X, z2_X, y0_X, y1_X⟩ := Hand.hz g_X
  obtain ⟨c_X_0, f_X_0, c_X_1, f_X_1⟩ := Hand.hc2 g_X
  obtain ⟨z_S, z1_S, z2_S, y0_S, y1_S⟩ := Hand.hz g_S
  obtain ⟨c_S_0, f_S_0, c_S_1, f_S_1⟩ := Hand.hc2 g_S
  have zw : w.heap.size ≤ w1.heap.size := hB.size
  have HG := Lib.hid (And.intro g_A (And.intro g_B (And.intro g_C (And.intro g_X (And.intro g_S (hB))))))
  clear g_A g_B g_C g_X g_S hB
  go_wp2
  refine HK14.out _ _ ?_
  rw [ringsE15]
  refine wp_seq_k (fun K15 hK15 => ?_)
  have HK15 := Lib.hid hK15
  clear hK15
  conv => arg 2; whnf
  go_wp2_with fail
  with_reducible refine (F0.out _).mono ?_
  rintro e w2 ⟨rfl, hb2⟩
  obtain ⟨g_A, g_B, g_C, g_X, g_S, hB⟩ := HG.out
  have h_A : w2.heap[gA]? = some (.cells #[.int .i64 a, .int .i64 b] 24 (0, 0)) := by
    refine Hand.kb hb2 ?_; first | with_reducible exact g_A | (simp (disch := first | omega | (simp only [Hand.sa, Hand.ss, Hand.sd, Hand.sn]; first | done | omega)) only [Hand.q2, Hand.q1, Hand.q5, Hand.q6, Hand.q4, Hand.q3, g_A] <;> rfl)
  have h_B : w2.heap[gB]? = some (.cells #[.int .i64 c, .int .i64 d] 24 (0, 0)) := by
    refine Hand.kb hb2 ?_; first | with_reducible exact g_B | (simp (disch := first | omega | (simp only [Hand.sa, Hand.ss, Hand.sd, Hand.sn]; first | done | omega)) only [Hand.q2, Hand.q1, Hand.q5, Hand.q6, Hand.q4, Hand.q3, g_B] <;> rfl)
  have h_C : w2.heap[gC]? = some (.cells #[.int .i64 e, .int .i64 f] 24 (0, 0)) := by
    refine Hand.kb hb2 ?_; first | with_reducible exact g_C | (simp (disch := first | omega | (simp only [Hand.sa, Hand.ss, Hand.sd, Hand.sn]; first | done | omega)) only [Hand.q2, Hand.q1, Hand.q5, Hand.q6, Hand.q4, Hand.q3, g_C] <;> rfl)
  have h_X : w2.heap[gX]? = some (.cells #[.int .i64 p2, .int .i64 q2] 24 (0, 0)) := by
    refine Hand.kb hb2 ?_; first | with_reducible exact g_X | (simp (disch := first | omega | (simp only [Hand.sa, Hand.ss, Hand.sd, Hand.sn]; first | done | omega)) only [Hand.q2, Hand.q1, Hand.q5, Hand.q6, Hand.q4, Hand.q3, g_X] <;> rfl)
  have h_S : w2.heap[gS]? = some (.cells #[.int .i64 p3, .int .i64 q3] 24 (0, 0)) := by
    refine Hand.kb hb2 ?_; first | with_reducible exact g_S | (simp (disch := first | omega | (simp only [Hand.sa, Hand.ss, Hand.sd, Hand.sn]; first | done | omega)) only [Hand.q2, Hand.q1, Hand.q5, Hand.q6, Hand.q4, Hand.q3, g_S] <;> rfl)
  have h_Z : w2.heap[w1.heap.size]? = some (.cells #[.int .i64 p5, .int .i64 q5] 24 (0, 0)) := by
    refine Hand.kb hb2 ?_; simp (disch := first | omega | (simp only [Hand.sa, Hand.ss, Hand.sd, Hand.sn]; first | done | omega)) only [Hand.q2, Hand.q1, Hand.q5, Hand.q6, Hand.q4, Hand.q3] <;> rfl
  have hB' : Below w.heap.size w w2 := Hand.stepB hb2 (by repeat (with_reducible first | apply hB | apply Below.drew | apply pw_below_drewN | (apply Below.setCell; rotate_left; (dsimp only; omega)) | (apply Below.alloc; rotate_left; (first | omega | (simp only [Hand.sa, Hand.ss, Hand.sd, Hand.sn]; omega))))) (Nat.le_refl _)
  clear HG hB g_A g_B g_C g_X g_S zw z_A z1_A z2_A y0_A y1_A c_A_0 f_A_0 c_A_1 f_A_1 z_B z1_B z2_B y0_B y1_B c_B_0 f_B_0 c_B_1 f_B_1 z_C z1_C z2_C y0_C y1_C c_C_0 f_C_0 c_C_1 f_C_1 z_X z1_X z2_X y0_X y1_X c_X_0 f_X_0 c_X_1 f_X_1 z_S z1_S z2_S y0_S y1_S c_S_0 f_S_0 c_S_1 f_S_1
  clear hb2
  have g_A := h_A
  have g_B := h_B
  have g_C := h_C
  have g_X := h_X
  have g_S := h_S
  have g_Z := h_Z
  have hB := hB'
  clear hB' h_A h_B h_C h_X h_S h_Z
  obtain ⟨z_A, z1_A, z2_A, y0_A, y1_A⟩ := Hand.hz g_A
  obtain ⟨c_A_0, f_A_0, c_A_1, f_A_1⟩ := Hand.hc2 g_A
  obtain ⟨z_B, z1_B, z2_B, y0_B, y1_B⟩ := Hand.hz g_B
  obtain ⟨c_B_0, f_B_0, c_B_1, f_B_1⟩ := Hand.hc2 g_B
  obtain ⟨z_C, z1_C, z2_C, y0_C, y1_C⟩ := Hand.hz g_C
  obtain ⟨c_C_0, f_C_0, c_C_1, f_C_1⟩ := Hand.hc2 g_C
  obtain ⟨z_X, z1_X, z2_X, y0_X, y1_X⟩ := Hand.hz g_X
  obtain ⟨c_X_0, f_X_0, c_X_1, f_X_1⟩ := Hand.hc2 g_X
  obtain ⟨z_S, z1_S, z2_S, y0_S, y1_S⟩ := Hand.hz g_S
  obtain ⟨c_S_0, f_S_0, c_S_1, f_S_1⟩ := Hand.hc2 g_S
  obtain ⟨z_Z, z1_Z, z2_Z, y0_Z, y1_Z⟩ := Hand.hz g_Z
  obtain ⟨c_Z_0, f_Z_0, c_Z_1, f_Z_1⟩ := Hand.hc2 g_Z
  have zw : w.heap.size ≤ w2.heap.size := hB.size
  have HG := Lib.hid (And.intro g_A (And.intro g_B (And.intro g_C (And.intro g_X (And.intro g_S (And.intro g_Z (hB)))))))
  clear g_A g_B g_C g_X g_S g_Z hB
  go_wp2
  refine HK15.out _ _ ?_
  conv => arg 2; whnf
  go_wp2
  go_ret
  obtain ⟨g_A, g_B, g_C, g_X, g_S, g_Z, hB⟩ := HG.out
  exact ⟨rfl, hB⟩
set_option maxHeartbeats 8000000 in
set_option maxRecDepth 100000 in
theorem rings5_g (w : World) (a b c d e f p2 q2 p3 q3 r2 p5 q5 r5 : Int)
    (M5 : RT 28 #[.agg #[.int .i64 a, .int .i64 b], .agg #[.int .i64 e, .int .i64 f]] p5 q5 r5)
    (F0 : RB 33 #[.int .i64 0] true)
    (F1 : RB 33 #[.int .i64 r2] false) : At14 w a b c d e f p2 q2 p3 q3 r2 0 := by
  intro s7 s8 s9 s10 s13 s14 s15 s16 s17 s18 s21 s22 s23 s24 s25 s26 s27 s28 s29 s30 s31 s32 s33 s34 s35 s36 s37 s38 s39 s40 s41 s42 s43 s44 s45 s46 s47 s48 s49 s50 s51 s52 s53 s54 s55 s56 s57 s58 s59 s60 s61 s62 s63 s64 s65 s66 s67 s68 s69 s70 s71 s72 s73 s74 s75 s76 s77 s78 s79 s80 s81 s82 s83 s84 s85 s86 s87 s88 s89 s90 s91 s92 s93 s94 s95 s96 s97 s98 s99 s100 s101 s102 s103 s104 s105 s106 s107 s108 s109 s110 s111 s112 s113 s114 s115 s116 s117 s118 s119 s120 s121 s122 s123 s124 s125 s126 s127 s128 s129 s130 s131 s132 s133 s134 s135 s136 s137 s138 s139 s140 s141 s142 s143 s144 s145 s146 s147 s148 s149 s150 s151 s152 s153 s154 s155 s156 s157 s158 s159 s160 s161 s162 s163 s164 s165 s166 s167 s168 s169 s170 s171 s172 s173 s174 s175 s176 s177 s178 s179 s180 s181 s182 s183 s184 s185 s186 s187 s188 s189 s190 s191 s192 s193 s194 s195 s196 s197 s198 s199 s200 s201 s202 s203 s204 s205 s206 s207 s208 s209 s210 s211 s212 s213 s214 s215 s216 s217 s218 s219 s220 s221 s222 s223 s224 s225 gA gB gC gX gS W hfacts hB
  obtain ⟨g_A, g_B, g_C, g_X, g_S⟩ := hfacts
  obtain ⟨z_A, z1_A, z2_A, y0_A, y1_A⟩ := Hand.hz g_A
  obtain ⟨c_A_0, f_A_0, c_A_1, f_A_1⟩ := Hand.hc2 g_A
  obtain ⟨z_B, z1_B, z2_B, y0_B, y1_B⟩ := Hand.hz g_B
  obtain ⟨c_B_0, f_B_0, c_B_1, f_B_1⟩ := Hand.hc2 g_B
  obtain ⟨z_C, z1_C, z2_C, y0_C, y1_C⟩ := Hand.hz g_C
  obtain ⟨c_C_0, f_C_0, c_C_1, f_C_1⟩ := Hand.hc2 g_C
  obtain ⟨z_X, z1_X, z2_X, y0_X, y1_X⟩ := Hand.hz g_X
  obtain ⟨c_X_0, f_X_0, c_X_1, f_X_1⟩ := Hand.hc2 g_X
  obtain ⟨z_S, z1_S, z2_S, y0_S, y1_S⟩ := Hand.hz g_S
  obtain ⟨c_S_0, f_S_0, c_S_1, f_S_1⟩ := Hand.hc2 g_S
  have zw : w.heap.size ≤ W.heap.size := hB.size
  have HG := Lib.hid (And.intro g_A (And.intro g_B (And.intro g_C (And.intro g_X (And.intro g_S (hB))))))
  clear g_A g_B g_C g_X g_S hB
  rw [ringsE14]
  refine wp_seq_k (fun K14 hK14 => ?_)
  have HK14 := Lib.hid hK14
  clear hK14
  conv => arg 2; whnf
  go_wp2_with fail
  with_reducible refine (M5.out _).mono ?_
  rintro e w1 ⟨rfl, hb1⟩
  obtain ⟨g_A, g_B, g_C, g_X, g_S, hB⟩ := HG.out
  have h_A : w1.heap[gA]? = some (.cells #[.int .i64 a, .int .i64 b] 24 (0, 0)) := by
    refine Hand.kb hb1 ?_; first | with_reducible exact g_A | (simp (disch := first | omega | (simp only [Hand.sa, Hand.ss, Hand.sd, Hand.sn]; first | done | omega)) only [Hand.q2, Hand.q1, Hand.q5, Hand.q6, Hand.q4, Hand.q3, g_A] <;> rfl)
  have h_B : w1.heap[gB]? = some (.cells #[.int .i64 c, .int .i64 d] 24 (0, 0)) := by
    refine Hand.kb hb1 ?_; first | with_reducible exact g_B | (simp (disch := first | omega | (simp only [Hand.sa, Hand.ss, Hand.sd, Hand.sn]; first | done | omega)) only [Hand.q2, Hand.q1, Hand.q5, Hand.q6, Hand.q4, Hand.q3, g_B] <;> rfl)
  have h_C : w1.heap[gC]? = some (.cells #[.int .i64 e, .int .i64 f] 24 (0, 0)) := by
    refine Hand.kb hb1 ?_; first | with_reducible exact g_C | (simp (disch := first | omega | (simp only [Hand.sa, Hand.ss, Hand.sd, Hand.sn]; first | done | omega)) only [Hand.q2, Hand.q1, Hand.q5, Hand.q6, Hand.q4, Hand.q3, g_C] <;> rfl)
  have h_X : w1.heap[gX]? = some (.cells #[.int .i64 p2, .int .i64 q2] 24 (0, 0)) := by
    refine Hand.kb hb1 ?_; first | with_reducible exact g_X | (simp (disch := first | omega | (simp only [Hand.sa, Hand.ss, Hand.sd, Hand.sn]; first | done | omega)) only [Hand.q2, Hand.q1, Hand.q5, Hand.q6, Hand.q4, Hand.q3, g_X] <;> rfl)
  have h_S : w1.heap[gS]? = some (.cells #[.int .i64 p3, .int .i64 q3] 24 (0, 0)) := by
    refine Hand.kb hb1 ?_; first | with_reducible exact g_S | (simp (disch := first | omega | (simp only [Hand.sa, Hand.ss, Hand.sd, Hand.sn]; first | done | omega)) only [Hand.q2, Hand.q1, Hand.q5, Hand.q6, Hand.q4, Hand.q3, g_S] <;> rfl)
  have hB' : Below w.heap.size w w1 := Hand.stepB hb1 (by repeat (with_reducible first | apply hB | apply Below.drew | apply pw_below_drewN | (apply Below.setCell; rotate_left; (dsimp only; omega)) | (apply Below.alloc; rotate_left; (first | omega | (simp only [Hand.sa, Hand.ss, Hand.sd, Hand.sn]; omega))))) (Nat.le_refl _)
  clear HG hB g_A g_B g_C g_X g_S zw z_A z1_A z2_A y0_A y1_A c_A_0 f_A_0 c_A_1 f_A_1 z_B z1_B z2_B y0_B y1_B c_B_0 f_B_0 c_B_1 f_B_1 z_C z1_C z2_C y0_C y1_C c_C_0 f_C_0 c_C_1 f_C_1 z_X z1_X z2_X y0_X y1_X c_X_0 f_X_0 c_X_1 f_X_1 z_S z1_S z2_S y0_S y1_S c_S_0 f_S_0 c_S_1 f_S_1
  clear hb1
  have g_A := h_A
  have g_B := h_B
  have g_C := h_C
  have g_X := h_X
  have g_S := h_S
  have hB := hB'
  clear hB' h_A h_B h_C h_X h_S
  obtain ⟨z_A, z1_A, z2_A, y0_A, y1_A⟩ := Hand.hz g_A
  obtain ⟨c_A_0, f_A_0, c_A_1, f_A_1⟩ := Hand.hc2 g_A
  obtain ⟨z_B, z1_B, z2_B, y0_B, y1_B⟩ := Hand.hz g_B
  obtain ⟨c_B_0, f_B_0, c_B_1, f_B_1⟩ := Hand.hc2 g_B
  obtain ⟨z_C, z1_C, z2_C, y0_C, y1_C⟩ := Hand.hz g_C
  obtain ⟨c_C_0, f_C_0, c_C_1, f_C_1⟩ := Hand.hc2 g_C
  obtain ⟨z_X, z1_X, z2_X, y0_X, y1_X⟩ := Hand.hz g_X
  obtain ⟨c_X_0, f_X_0, c_X_1, f_X_1⟩ := Hand.hc2 g_X
  obtain ⟨z_S, z1_S, z2_S, y0_S, y1_S⟩ := Hand.hz g_S
  obtain ⟨c_S_0, f_S_0, c_S_1, f_S_1⟩ := Hand.hc2 g_S
  have zw : w.heap.size ≤ w1.heap.size := hB.size
  have HG := Lib.hid (And.intro g_A (And.intro g_B (And.intro g_C (And.intro g_X (And.intro g_S (hB))))))
  clear g_A g_B g_C g_X g_S hB
  go_wp2
  refine HK14.out _ _ ?_
  rw [ringsE15]
  refine wp_seq_k (fun K15 hK15 => ?_)
  have HK15 := Lib.hid hK15
  clear hK15
  conv => arg 2; whnf
  go_wp2_with fail
  with_reducible refine (F0.out _).mono ?_
  rintro e w2 ⟨rfl, hb2⟩
  obtain ⟨g_A, g_B, g_C, g_X, g_S, hB⟩ := HG.out
  have h_A : w2.heap[gA]? = some (.cells #[.int .i64 a, .int .i64 b] 24 (0, 0)) := by
    refine Hand.kb hb2 ?_; first | with_reducible exact g_A | (simp (disch := first | omega | (simp only [Hand.sa, Hand.ss, Hand.sd, Hand.sn]; first | done | omega)) only [Hand.q2, Hand.q1, Hand.q5, Hand.q6, Hand.q4, Hand.q3, g_A] <;> rfl)
  have h_B : w2.heap[gB]? = some (.cells #[.int .i64 c, .int .i64 d] 24 (0, 0)) := by
    refine Hand.kb hb2 ?_; first | with_reducible exact g_B | (simp (disch := first | omega | (simp only [Hand.sa, Hand.ss, Hand.sd, Hand.sn]; first | done | omega)) only [Hand.q2, Hand.q1, Hand.q5, Hand.q6, Hand.q4, Hand.q3, g_B] <;> rfl)
  have h_C : w2.heap[gC]? = some (.cells #[.int .i64 e, .int .i64 f] 24 (0, 0)) := by
    refine Hand.kb hb2 ?_; first | with_reducible exact g_C | (simp (disch := first | omega | (simp only [Hand.sa, Hand.ss, Hand.sd, Hand.sn]; first | done | omega)) only [Hand.q2, Hand.q1, Hand.q5, Hand.q6, Hand.q4, Hand.q3, g_C] <;> rfl)
  have h_X : w2.heap[gX]? = some (.cells #[.int .i64 p2, .int .i64 q2] 24 (0, 0)) := by
    refine Hand.kb hb2 ?_; first | with_reducible exact g_X | (simp (disch := first | omega | (simp only [Hand.sa, Hand.ss, Hand.sd, Hand.sn]; first | done | omega)) only [Hand.q2, Hand.q1, Hand.q5, Hand.q6, Hand.q4, Hand.q3, g_X] <;> rfl)
  have h_S : w2.heap[gS]? = some (.cells #[.int .i64 p3, .int .i64 q3] 24 (0, 0)) := by
    refine Hand.kb hb2 ?_; first | with_reducible exact g_S | (simp (disch := first | omega | (simp only [Hand.sa, Hand.ss, Hand.sd, Hand.sn]; first | done | omega)) only [Hand.q2, Hand.q1, Hand.q5, Hand.q6, Hand.q4, Hand.q3, g_S] <;> rfl)
  have h_Z : w2.heap[w1.heap.size]? = some (.cells #[.int .i64 p5, .int .i64 q5] 24 (0, 0)) := by
    refine Hand.kb hb2 ?_; simp (disch := first | omega | (simp only [Hand.sa, Hand.ss, Hand.sd, Hand.sn]; first | done | omega)) only [Hand.q2, Hand.q1, Hand.q5, Hand.q6, Hand.q4, Hand.q3] <;> rfl
  have hB' : Below w.heap.size w w2 := Hand.stepB hb2 (by repeat (with_reducible first | apply hB | apply Below.drew | apply pw_below_drewN | (apply Below.setCell; rotate_left; (dsimp only; omega)) | (apply Below.alloc; rotate_left; (first | omega | (simp only [Hand.sa, Hand.ss, Hand.sd, Hand.sn]; omega))))) (Nat.le_refl _)
  clear HG hB g_A g_B g_C g_X g_S zw z_A z1_A z2_A y0_A y1_A c_A_0 f_A_0 c_A_1 f_A_1 z_B z1_B z2_B y0_B y1_B c_B_0 f_B_0 c_B_1 f_B_1 z_C z1_C z2_C y0_C y1_C c_C_0 f_C_0 c_C_1 f_C_1 z_X z1_X z2_X y0_X y1_X c_X_0 f_X_0 c_X_1 f_X_1 z_S z1_S z2_S y0_S y1_S c_S_0 f_S_0 c_S_1 f_S_1
  clear hb2
  have g_A := h_A
  have g_B := h_B
  have g_C := h_C
  have g_X := h_X
  have g_S := h_S
  have g_Z := h_Z
  have hB := hB'
  clear hB' h_A h_B h_C h_X h_S h_Z
  obtain ⟨z_A, z1_A, z2_A, y0_A, y1_A⟩ := Hand.hz g_A
  obtain ⟨c_A_0, f_A_0, c_A_1, f_A_1⟩ := Hand.hc2 g_A
  obtain ⟨z_B, z1_B, z2_B, y0_B, y1_B⟩ := Hand.hz g_B
  obtain ⟨c_B_0, f_B_0, c_B_1, f_B_1⟩ := Hand.hc2 g_B
  obtain ⟨z_C, z1_C, z2_C, y0_C, y1_C⟩ := Hand.hz g_C
  obtain ⟨c_C_0, f_C_0, c_C_1, f_C_1⟩ := Hand.hc2 g_C
  obtain ⟨z_X, z1_X, z2_X, y0_X, y1_X⟩ := Hand.hz g_X
  obtain ⟨c_X_0, f_X_0, c_X_1, f_X_1⟩ := Hand.hc2 g_X
  obtain ⟨z_S, z1_S, z2_S, y0_S, y1_S⟩ := Hand.hz g_S
  obtain ⟨c_S_0, f_S_0, c_S_1, f_S_1⟩ := Hand.hc2 g_S
  obtain ⟨z_Z, z1_Z, z2_Z, y0_Z, y1_Z⟩ := Hand.hz g_Z
  obtain ⟨c_Z_0, f_Z_0, c_Z_1, f_Z_1⟩ := Hand.hc2 g_Z
  have zw : w.heap.size ≤ w2.heap.size := hB.size
  have HG := Lib.hid (And.intro g_A (And.intro g_B (And.intro g_C (And.intro g_X (And.intro g_S (And.intro g_Z (hB)))))))
  clear g_A g_B g_C g_X g_S g_Z hB
  go_wp2_with fail
  with_reducible refine (F1.out _).mono ?_
  rintro e w3 ⟨rfl, hb3⟩
  obtain ⟨g_A, g_B, g_C, g_X, g_S, g_Z, hB⟩ := HG.out
  have h_A : w3.heap[gA]? = some (.cells #[.int .i64 a, .int .i64 b] 24 (0, 0)) := by
    refine Hand.kb hb3 ?_; first | with_reducible exact g_A | (simp (disch := first | omega | (simp only [Hand.sa, Hand.ss, Hand.sd, Hand.sn]; first | done | omega)) only [Hand.q2, Hand.q1, Hand.q5, Hand.q6, Hand.q4, Hand.q3, g_A] <;> rfl)
  have h_B : w3.heap[gB]? = some (.cells #[.int .i64 c, .int .i64 d] 24 (0, 0)) := by
    refine Hand.kb hb3 ?_; first | with_reducible exact g_B | (simp (disch := first | omega | (simp only [Hand.sa, Hand.ss, Hand.sd, Hand.sn]; first | done | omega)) only [Hand.q2, Hand.q1, Hand.q5, Hand.q6, Hand.q4, Hand.q3, g_B] <;> rfl)
  have h_C : w3.heap[gC]? = some (.cells #[.int .i64 e, .int .i64 f] 24 (0, 0)) := by
    refine Hand.kb hb3 ?_; first | with_reducible exact g_C | (simp (disch := first | omega | (simp only [Hand.sa, Hand.ss, Hand.sd, Hand.sn]; first | done | omega)) only [Hand.q2, Hand.q1, Hand.q5, Hand.q6, Hand.q4, Hand.q3, g_C] <;> rfl)
  have h_X : w3.heap[gX]? = some (.cells #[.int .i64 p2, .int .i64 q2] 24 (0, 0)) := by
    refine Hand.kb hb3 ?_; first | with_reducible exact g_X | (simp (disch := first | omega | (simp only [Hand.sa, Hand.ss, Hand.sd, Hand.sn]; first | done | omega)) only [Hand.q2, Hand.q1, Hand.q5, Hand.q6, Hand.q4, Hand.q3, g_X] <;> rfl)
  have h_S : w3.heap[gS]? = some (.cells #[.int .i64 p3, .int .i64 q3] 24 (0, 0)) := by
    refine Hand.kb hb3 ?_; first | with_reducible exact g_S | (simp (disch := first | omega | (simp only [Hand.sa, Hand.ss, Hand.sd, Hand.sn]; first | done | omega)) only [Hand.q2, Hand.q1, Hand.q5, Hand.q6, Hand.q4, Hand.q3, g_S] <;> rfl)
  have h_Z : w3.heap[w1.heap.size]? = some (.cells #[.int .i64 p5, .int .i64 q5] 24 (0, 0)) := by
    refine Hand.kb hb3 ?_; first | with_reducible exact g_Z | (simp (disch := first | omega | (simp only [Hand.sa, Hand.ss, Hand.sd, Hand.sn]; first | done | omega)) only [Hand.q2, Hand.q1, Hand.q5, Hand.q6, Hand.q4, Hand.q3, g_Z] <;> rfl)
  have hB' : Below w.heap.size w w3 := Hand.stepB hb3 (by repeat (with_reducible first | apply hB | apply Below.drew | apply pw_below_drewN | (apply Below.setCell; rotate_left; (dsimp only; omega)) | (apply Below.alloc; rotate_left; (first | omega | (simp only [Hand.sa, Hand.ss, Hand.sd, Hand.sn]; omega))))) (Nat.le_refl _)
  clear HG hB g_A g_B g_C g_X g_S g_Z zw z_A z1_A z2_A y0_A y1_A c_A_0 f_A_0 c_A_1 f_A_1 z_B z1_B z2_B y0_B y1_B c_B_0 f_B_0 c_B_1 f_B_1 z_C z1_C z2_C y0_C y1_C c_C_0 f_C_0 c_C_1 f_C_1 z_X z1_X z2_X y0_X y1_X c_X_0 f_X_0 c_X_1 f_X_1 z_S z1_S z2_S y0_S y1_S c_S_0 f_S_0 c_S_1 f_S_1 z_Z z1_Z z2_Z y0_Z y1_Z c_Z_0 f_Z_0 c_Z_1 f_Z_1
  clear hb3
  have g_A := h_A
  have g_B := h_B
  have g_C := h_C
  have g_X := h_X
  have g_S := h_S
  have g_Z := h_Z
  have hB := hB'
  clear hB' h_A h_B h_C h_X h_S h_Z
  obtain ⟨z_A, z1_A, z2_A, y0_A, y1_A⟩ := Hand.hz g_A
  obtain ⟨c_A_0, f_A_0, c_A_1, f_A_1⟩ := Hand.hc2 g_A
  obtain ⟨z_B, z1_B, z2_B, y0_B, y1_B⟩ := Hand.hz g_B
  obtain ⟨c_B_0, f_B_0, c_B_1, f_B_1⟩ := Hand.hc2 g_B
  obtain ⟨z_C, z1_C, z2_C, y0_C, y1_C⟩ := Hand.hz g_C
  obtain ⟨c_C_0, f_C_0, c_C_1, f_C_1⟩ := Hand.hc2 g_C
  obtain ⟨z_X, z1_X, z2_X, y0_X, y1_X⟩ := Hand.hz g_X
  obtain ⟨c_X_0, f_X_0, c_X_1, f_X_1⟩ := Hand.hc2 g_X
  obtain ⟨z_S, z1_S, z2_S, y0_S, y1_S⟩ := Hand.hz g_S
  obtain ⟨c_S_0, f_S_0, c_S_1, f_S_1⟩ := Hand.hc2 g_S
  obtain ⟨z_Z, z1_Z, z2_Z, y0_Z, y1_Z⟩ := Hand.hz g_Z
  obtain ⟨c_Z_0, f_Z_0, c_Z_1, f_Z_1⟩ := Hand.hc2 g_Z
  have zw : w.heap.size ≤ w3.heap.size := hB.size
  have HG := Lib.hid (And.intro g_A (And.intro g_B (And.intro g_C (And.intro g_X (And.intro g_S (And.intro g_Z (hB)))))))
  clear g_A g_B g_C g_X g_S g_Z hB
  go_wp2
  refine HK15.out _ _ ?_
  conv => arg 2; whnf
  go_wp2
  go_ret
  obtain ⟨g_A, g_B, g_C, g_X, g_S, g_Z, hB⟩ := HG.out
  exact ⟨rfl, hB⟩
set_option maxHeartbeats 8000000 in
set_option maxRecDepth 100000 in
theorem rings5_n (w : World) (a b c d e f p2 q2 p3 q3 p5 q5 r5 : Int)
    (M5 : RT 28 #[.agg #[.int .i64 a, .int .i64 b], .agg #[.int .i64 e, .int .i64 f]] p5 q5 r5)
    (F0 : RB 33 #[.int .i64 0] true)
    (F1 : RB 33 #[.int .i64 0] true)
    (F2 : RB 33 #[.int .i64 r5] false) : At14 w a b c d e f p2 q2 p3 q3 0 0 := by
  intro s7 s8 s9 s10 s13 s14 s15 s16 s17 s18 s21 s22 s23 s24 s25 s26 s27 s28 s29 s30 s31 s32 s33 s34 s35 s36 s37 s38 s39 s40 s41 s42 s43 s44 s45 s46 s47 s48 s49 s50 s51 s52 s53 s54 s55 s56 s57 s58 s59 s60 s61 s62 s63 s64 s65 s66 s67 s68 s69 s70 s71 s72 s73 s74 s75 s76 s77 s78 s79 s80 s81 s82 s83 s84 s85 s86 s87 s88 s89 s90 s91 s92 s93 s94 s95 s96 s97 s98 s99 s100 s101 s102 s103 s104 s105 s106 s107 s108 s109 s110 s111 s112 s113 s114 s115 s116 s117 s118 s119 s120 s121 s122 s123 s124 s125 s126 s127 s128 s129 s130 s131 s132 s133 s134 s135 s136 s137 s138 s139 s140 s141 s142 s143 s144 s145 s146 s147 s148 s149 s150 s151 s152 s153 s154 s155 s156 s157 s158 s159 s160 s161 s162 s163 s164 s165 s166 s167 s168 s169 s170 s171 s172 s173 s174 s175 s176 s177 s178 s179 s180 s181 s182 s183 s184 s185 s186 s187 s188 s189 s190 s191 s192 s193 s194 s195 s196 s197 s198 s199 s200 s201 s202 s203 s204 s205 s206 s207 s208 s209 s210 s211 s212 s213 s214 s215 s216 s217 s218 s219 s220 s221 s222 s223 s224 s225 gA gB gC gX gS W hfacts hB
  obtain ⟨g_A, g_B, g_C, g_X, g_S⟩ := hfacts
  obtain ⟨z_A, z1_A, z2_A, y0_A, y1_A⟩ := Hand.hz g_A
  obtain ⟨c_A_0, f_A_0, c_A_1, f_A_1⟩ := Hand.hc2 g_A
  obtain ⟨z_B, z1_B, z2_B, y0_B, y1_B⟩ := Hand.hz g_B
  obtain ⟨c_B_0, f_B_0, c_B_1, f_B_1⟩ := Hand.hc2 g_B
  obtain ⟨z_C, z1_C, z2_C, y0_C, y1_C⟩ := Hand.hz g_C
  obtain ⟨c_C_0, f_C_0, c_C_1, f_C_1⟩ := Hand.hc2 g_C
  obtain ⟨z_X, z1_X, z2_X, y0_X, y1_X⟩ := Hand.hz g_X
  obtain ⟨c_X_0, f_X_0, c_X_1, f_X_1⟩ := Hand.hc2 g_X
  obtain ⟨z_S, z1_S, z2_S, y0_S, y1_S⟩ := Hand.hz g_S
  obtain ⟨c_S_0, f_S_0, c_S_1, f_S_1⟩ := Hand.hc2 g_S
  have zw : w.heap.size ≤ W.heap.size := hB.size
  have HG := Lib.hid (And.intro g_A (And.intro g_B (And.intro g_C (And.intro g_X (And.intro g_S (hB))))))
  clear g_A g_B g_C g_X g_S hB
  rw [ringsE14]
  refine wp_seq_k (fun K14 hK14 => ?_)
  have HK14 := Lib.hid hK14
  clear hK14
  conv => arg 2; whnf
  go_wp2_with fail
  with_reducible refine (M5.out _).mono ?_
  rintro e w1 ⟨rfl, hb1⟩
  obtain ⟨g_A, g_B, g_C, g_X, g_S, hB⟩ := HG.out
  have h_A : w1.heap[gA]? = some (.cells #[.int .i64 a, .int .i64 b] 24 (0, 0)) := by
    refine Hand.kb hb1 ?_; first | with_reducible exact g_A | (simp (disch := first | omega | (simp only [Hand.sa, Hand.ss, Hand.sd, Hand.sn]; first | done | omega)) only [Hand.q2, Hand.q1, Hand.q5, Hand.q6, Hand.q4, Hand.q3, g_A] <;> rfl)
  have h_B : w1.heap[gB]? = some (.cells #[.int .i64 c, .int .i64 d] 24 (0, 0)) := by
    refine Hand.kb hb1 ?_; first | with_reducible exact g_B | (simp (disch := first | omega | (simp only [Hand.sa, Hand.ss, Hand.sd, Hand.sn]; first | done | omega)) only [Hand.q2, Hand.q1, Hand.q5, Hand.q6, Hand.q4, Hand.q3, g_B] <;> rfl)
  have h_C : w1.heap[gC]? = some (.cells #[.int .i64 e, .int .i64 f] 24 (0, 0)) := by
    refine Hand.kb hb1 ?_; first | with_reducible exact g_C | (simp (disch := first | omega | (simp only [Hand.sa, Hand.ss, Hand.sd, Hand.sn]; first | done | omega)) only [Hand.q2, Hand.q1, Hand.q5, Hand.q6, Hand.q4, Hand.q3, g_C] <;> rfl)
  have h_X : w1.heap[gX]? = some (.cells #[.int .i64 p2, .int .i64 q2] 24 (0, 0)) := by
    refine Hand.kb hb1 ?_; first | with_reducible exact g_X | (simp (disch := first | omega | (simp only [Hand.sa, Hand.ss, Hand.sd, Hand.sn]; first | done | omega)) only [Hand.q2, Hand.q1, Hand.q5, Hand.q6, Hand.q4, Hand.q3, g_X] <;> rfl)
  have h_S : w1.heap[gS]? = some (.cells #[.int .i64 p3, .int .i64 q3] 24 (0, 0)) := by
    refine Hand.kb hb1 ?_; first | with_reducible exact g_S | (simp (disch := first | omega | (simp only [Hand.sa, Hand.ss, Hand.sd, Hand.sn]; first | done | omega)) only [Hand.q2, Hand.q1, Hand.q5, Hand.q6, Hand.q4, Hand.q3, g_S] <;> rfl)
  have hB' : Below w.heap.size w w1 := Hand.stepB hb1 (by repeat (with_reducible first | apply hB | apply Below.drew | apply pw_below_drewN | (apply Below.setCell; rotate_left; (dsimp only; omega)) | (apply Below.alloc; rotate_left; (first | omega | (simp only [Hand.sa, Hand.ss, Hand.sd, Hand.sn]; omega))))) (Nat.le_refl _)
  clear HG hB g_A g_B g_C g_X g_S zw z_A z1_A z2_A y0_A y1_A c_A_0 f_A_0 c_A_1 f_A_1 z_B z1_B z2_B y0_B y1_B c_B_0 f_B_0 c_B_1 f_B_1 z_C z1_C z2_C y0_C y1_C c_C_0 f_C_0 c_C_1 f_C_1 z_X z1_X z2_X y0_X y1_X c_X_0 f_X_0 c_X_1 f_X_1 z_S z1_S z2_S y0_S y1_S c_S_0 f_S_0 c_S_1 f_S_1
  clear hb1
  have g_A := h_A
  have g_B := h_B
  have g_C := h_C
  have g_X := h_X
  have g_S := h_S
  have hB := hB'
  clear hB' h_A h_B h_C h_X h_S
  obtain ⟨z_A, z1_A, z2_A, y0_A, y1_A⟩ := Hand.hz g_A
  obtain ⟨c_A_0, f_A_0, c_A_1, f_A_1⟩ := Hand.hc2 g_A
  obtain ⟨z_B, z1_B, z2_B, y0_B, y1_B⟩ := Hand.hz g_B
  obtain ⟨c_B_0, f_B_0, c_B_1, f_B_1⟩ := Hand.hc2 g_B
  obtain ⟨z_C, z1_C, z2_C, y0_C, y1_C⟩ := Hand.hz g_C
  obtain ⟨c_C_0, f_C_0, c_C_1, f_C_1⟩ := Hand.hc2 g_C
  obtain ⟨z_X, z1_X, z2_X, y0_X, y1_X⟩ := Hand.hz g_X
  obtain ⟨c_X_0, f_X_0, c_X_1, f_X_1⟩ := Hand.hc2 g_X
  obtain ⟨z_S, z1_S, z2_S, y0_S, y1_S⟩ := Hand.hz g_S
  obtain ⟨c_S_0, f_S_0, c_S_1, f_S_1⟩ := Hand.hc2 g_S
  have zw : w.heap.size ≤ w1.heap.size := hB.size
  have HG := Lib.hid (And.intro g_A (And.intro g_B (And.intro g_C (And.intro g_X (And.intro g_S (hB))))))
  clear g_A g_B g_C g_X g_S hB
  go_wp2
  refine HK14.out _ _ ?_
  rw [ringsE15]
  refine wp_seq_k (fun K15 hK15 => ?_)
  have HK15 := Lib.hid hK15
  clear hK15
  conv => arg 2; whnf
  go_wp2_with fail
  with_reducible refine (F0.out _).mono ?_
  rintro e w2 ⟨rfl, hb2⟩
  obtain ⟨g_A, g_B, g_C, g_X, g_S, hB⟩ := HG.out
  have h_A : w2.heap[gA]? = some (.cells #[.int .i64 a, .int .i64 b] 24 (0, 0)) := by
    refine Hand.kb hb2 ?_; first | with_reducible exact g_A | (simp (disch := first | omega | (simp only [Hand.sa, Hand.ss, Hand.sd, Hand.sn]; first | done | omega)) only [Hand.q2, Hand.q1, Hand.q5, Hand.q6, Hand.q4, Hand.q3, g_A] <;> rfl)
  have h_B : w2.heap[gB]? = some (.cells #[.int .i64 c, .int .i64 d] 24 (0, 0)) := by
    refine Hand.kb hb2 ?_; first | with_reducible exact g_B | (simp (disch := first | omega | (simp only [Hand.sa, Hand.ss, Hand.sd, Hand.sn]; first | done | omega)) only [Hand.q2, Hand.q1, Hand.q5, Hand.q6, Hand.q4, Hand.q3, g_B] <;> rfl)
  have h_C : w2.heap[gC]? = some (.cells #[.int .i64 e, .int .i64 f] 24 (0, 0)) := by
    refine Hand.kb hb2 ?_; first | with_reducible exact g_C | (simp (disch := first | omega | (simp only [Hand.sa, Hand.ss, Hand.sd, Hand.sn]; first | done | omega)) only [Hand.q2, Hand.q1, Hand.q5, Hand.q6, Hand.q4, Hand.q3, g_C] <;> rfl)
  have h_X : w2.heap[gX]? = some (.cells #[.int .i64 p2, .int .i64 q2] 24 (0, 0)) := by
    refine Hand.kb hb2 ?_; first | with_reducible exact g_X | (simp (disch := first | omega | (simp only [Hand.sa, Hand.ss, Hand.sd, Hand.sn]; first | done | omega)) only [Hand.q2, Hand.q1, Hand.q5, Hand.q6, Hand.q4, Hand.q3, g_X] <;> rfl)
  have h_S : w2.heap[gS]? = some (.cells #[.int .i64 p3, .int .i64 q3] 24 (0, 0)) := by
    refine Hand.kb hb2 ?_; first | with_reducible exact g_S | (simp (disch := first | omega | (simp only [Hand.sa, Hand.ss, Hand.sd, Hand.sn]; first | done | omega)) only [Hand.q2, Hand.q1, Hand.q5, Hand.q6, Hand.q4, Hand.q3, g_S] <;> rfl)
  have h_Z : w2.heap[w1.heap.size]? = some (.cells #[.int .i64 p5, .int .i64 q5] 24 (0, 0)) := by
    refine Hand.kb hb2 ?_; simp (disch := first | omega | (simp only [Hand.sa, Hand.ss, Hand.sd, Hand.sn]; first | done | omega)) only [Hand.q2, Hand.q1, Hand.q5, Hand.q6, Hand.q4, Hand.q3] <;> rfl
  have hB' : Below w.heap.size w w2 := Hand.stepB hb2 (by repeat (with_reducible first | apply hB | apply Below.drew | apply pw_below_drewN | (apply Below.setCell; rotate_left; (dsimp only; omega)) | (apply Below.alloc; rotate_left; (first | omega | (simp only [Hand.sa, Hand.ss, Hand.sd, Hand.sn]; omega))))) (Nat.le_refl _)
  clear HG hB g_A g_B g_C g_X g_S zw z_A z1_A z2_A y0_A y1_A c_A_0 f_A_0 c_A_1 f_A_1 z_B z1_B z2_B y0_B y1_B c_B_0 f_B_0 c_B_1 f_B_1 z_C z1_C z2_C y0_C y1_C c_C_0 f_C_0 c_C_1 f_C_1 z_X z1_X z2_X y0_X y1_X c_X_0 f_X_0 c_X_1 f_X_1 z_S z1_S z2_S y0_S y1_S c_S_0 f_S_0 c_S_1 f_S_1
  clear hb2
  have g_A := h_A
  have g_B := h_B
  have g_C := h_C
  have g_X := h_X
  have g_S := h_S
  have g_Z := h_Z
  have hB := hB'
  clear hB' h_A h_B h_C h_X h_S h_Z
  obtain ⟨z_A, z1_A, z2_A, y0_A, y1_A⟩ := Hand.hz g_A
  obtain ⟨c_A_0, f_A_0, c_A_1, f_A_1⟩ := Hand.hc2 g_A
  obtain ⟨z_B, z1_B, z2_B, y0_B, y1_B⟩ := Hand.hz g_B
  obtain ⟨c_B_0, f_B_0, c_B_1, f_B_1⟩ := Hand.hc2 g_B
  obtain ⟨z_C, z1_C, z2_C, y0_C, y1_C⟩ := Hand.hz g_C
  obtain ⟨c_C_0, f_C_0, c_C_1, f_C_1⟩ := Hand.hc2 g_C
  obtain ⟨z_X, z1_X, z2_X, y0_X, y1_X⟩ := Hand.hz g_X
  obtain ⟨c_X_0, f_X_0, c_X_1, f_X_1⟩ := Hand.hc2 g_X
  obtain ⟨z_S, z1_S, z2_S, y0_S, y1_S⟩ := Hand.hz g_S
  obtain ⟨c_S_0, f_S_0, c_S_1, f_S_1⟩ := Hand.hc2 g_S
  obtain ⟨z_Z, z1_Z, z2_Z, y0_Z, y1_Z⟩ := Hand.hz g_Z
  obtain ⟨c_Z_0, f_Z_0, c_Z_1, f_Z_1⟩ := Hand.hc2 g_Z
  have zw : w.heap.size ≤ w2.heap.size := hB.size
  have HG := Lib.hid (And.intro g_A (And.intro g_B (And.intro g_C (And.intro g_X (And.intro g_S (And.intro g_Z (hB)))))))
  clear g_A g_B g_C g_X g_S g_Z hB
  go_wp2_with fail
  with_reducible refine (F1.out _).mono ?_
  rintro e w3 ⟨rfl, hb3⟩
  obtain ⟨g_A, g_B, g_C, g_X, g_S, g_Z, hB⟩ := HG.out
  have h_A : w3.heap[gA]? = some (.cells #[.int .i64 a, .int .i64 b] 24 (0, 0)) := by
    refine Hand.kb hb3 ?_; first | with_reducible exact g_A | (simp (disch := first | omega | (simp only [Hand.sa, Hand.ss, Hand.sd, Hand.sn]; first | done | omega)) only [Hand.q2, Hand.q1, Hand.q5, Hand.q6, Hand.q4, Hand.q3, g_A] <;> rfl)
  have h_B : w3.heap[gB]? = some (.cells #[.int .i64 c, .int .i64 d] 24 (0, 0)) := by
    refine Hand.kb hb3 ?_; first | with_reducible exact g_B | (simp (disch := first | omega | (simp only [Hand.sa, Hand.ss, Hand.sd, Hand.sn]; first | done | omega)) only [Hand.q2, Hand.q1, Hand.q5, Hand.q6, Hand.q4, Hand.q3, g_B] <;> rfl)
  have h_C : w3.heap[gC]? = some (.cells #[.int .i64 e, .int .i64 f] 24 (0, 0)) := by
    refine Hand.kb hb3 ?_; first | with_reducible exact g_C | (simp (disch := first | omega | (simp only [Hand.sa, Hand.ss, Hand.sd, Hand.sn]; first | done | omega)) only [Hand.q2, Hand.q1, Hand.q5, Hand.q6, Hand.q4, Hand.q3, g_C] <;> rfl)
  have h_X : w3.heap[gX]? = some (.cells #[.int .i64 p2, .int .i64 q2] 24 (0, 0)) := by
    refine Hand.kb hb3 ?_; first | with_reducible exact g_X | (simp (disch := first | omega | (simp only [Hand.sa, Hand.ss, Hand.sd, Hand.sn]; first | done | omega)) only [Hand.q2, Hand.q1, Hand.q5, Hand.q6, Hand.q4, Hand.q3, g_X] <;> rfl)
  have h_S : w3.heap[gS]? = some (.cells #[.int .i64 p3, .int .i64 q3] 24 (0, 0)) := by
    refine Hand.kb hb3 ?_; first | with_reducible exact g_S | (simp (disch := first | omega | (simp only [Hand.sa, Hand.ss, Hand.sd, Hand.sn]; first | done | omega)) only [Hand.q2, Hand.q1, Hand.q5, Hand.q6, Hand.q4, Hand.q3, g_S] <;> rfl)
  have h_Z : w3.heap[w1.heap.size]? = some (.cells #[.int .i64 p5, .int .i64 q5] 24 (0, 0)) := by
    refine Hand.kb hb3 ?_; first | with_reducible exact g_Z | (simp (disch := first | omega | (simp only [Hand.sa, Hand.ss, Hand.sd, Hand.sn]; first | done | omega)) only [Hand.q2, Hand.q1, Hand.q5, Hand.q6, Hand.q4, Hand.q3, g_Z] <;> rfl)
  have hB' : Below w.heap.size w w3 := Hand.stepB hb3 (by repeat (with_reducible first | apply hB | apply Below.drew | apply pw_below_drewN | (apply Below.setCell; rotate_left; (dsimp only; omega)) | (apply Below.alloc; rotate_left; (first | omega | (simp only [Hand.sa, Hand.ss, Hand.sd, Hand.sn]; omega))))) (Nat.le_refl _)
  clear HG hB g_A g_B g_C g_X g_S g_Z zw z_A z1_A z2_A y0_A y1_A c_A_0 f_A_0 c_A_1 f_A_1 z_B z1_B z2_B y0_B y1_B c_B_0 f_B_0 c_B_1 f_B_1 z_C z1_C z2_C y0_C y1_C c_C_0 f_C_0 c_C_1 f_C_1 z_X z1_X z2_X y0_X y1_X c_X_0 f_X_0 c_X_1 f_X_1 z_S z1_S z2_S y0_S y1_S c_S_0 f_S_0 c_S_1 f_S_1 z_Z z1_Z z2_Z y0_Z y1_Z c_Z_0 f_Z_0 c_Z_1 f_Z_1
  clear hb3
  have g_A := h_A
  have g_B := h_B
  have g_C := h_C
  have g_X := h_X
  have g_S := h_S
  have g_Z := h_Z
  have hB := hB'
  clear hB' h_A h_B h_C h_X h_S h_Z
  obtain ⟨z_A, z1_A, z2_A, y0_A, y1_A⟩ := Hand.hz g_A
  obtain ⟨c_A_0, f_A_0, c_A_1, f_A_1⟩ := Hand.hc2 g_A
  obtain ⟨z_B, z1_B, z2_B, y0_B, y1_B⟩ := Hand.hz g_B
  obtain ⟨c_B_0, f_B_0, c_B_1, f_B_1⟩ := Hand.hc2 g_B
  obtain ⟨z_C, z1_C, z2_C, y0_C, y1_C⟩ := Hand.hz g_C
  obtain ⟨c_C_0, f_C_0, c_C_1, f_C_1⟩ := Hand.hc2 g_C
  obtain ⟨z_X, z1_X, z2_X, y0_X, y1_X⟩ := Hand.hz g_X
  obtain ⟨c_X_0, f_X_0, c_X_1, f_X_1⟩ := Hand.hc2 g_X
  obtain ⟨z_S, z1_S, z2_S, y0_S, y1_S⟩ := Hand.hz g_S
  obtain ⟨c_S_0, f_S_0, c_S_1, f_S_1⟩ := Hand.hc2 g_S
  obtain ⟨z_Z, z1_Z, z2_Z, y0_Z, y1_Z⟩ := Hand.hz g_Z
  obtain ⟨c_Z_0, f_Z_0, c_Z_1, f_Z_1⟩ := Hand.hc2 g_Z
  have zw : w.heap.size ≤ w3.heap.size := hB.size
  have HG := Lib.hid (And.intro g_A (And.intro g_B (And.intro g_C (And.intro g_X (And.intro g_S (And.intro g_Z (hB)))))))
  clear g_A g_B g_C g_X g_S g_Z hB
  go_wp2_with fail
  with_reducible refine (F2.out _).mono ?_
  rintro e w4 ⟨rfl, hb4⟩
  obtain ⟨g_A, g_B, g_C, g_X, g_S, g_Z, hB⟩ := HG.out
  have h_A : w4.heap[gA]? = some (.cells #[.int .i64 a, .int .i64 b] 24 (0, 0)) := by
    refine Hand.kb hb4 ?_; first | with_reducible exact g_A | (simp (disch := first | omega | (simp only [Hand.sa, Hand.ss, Hand.sd, Hand.sn]; first | done | omega)) only [Hand.q2, Hand.q1, Hand.q5, Hand.q6, Hand.q4, Hand.q3, g_A] <;> rfl)
  have h_B : w4.heap[gB]? = some (.cells #[.int .i64 c, .int .i64 d] 24 (0, 0)) := by
    refine Hand.kb hb4 ?_; first | with_reducible exact g_B | (simp (disch := first | omega | (simp only [Hand.sa, Hand.ss, Hand.sd, Hand.sn]; first | done | omega)) only [Hand.q2, Hand.q1, Hand.q5, Hand.q6, Hand.q4, Hand.q3, g_B] <;> rfl)
  have h_C : w4.heap[gC]? = some (.cells #[.int .i64 e, .int .i64 f] 24 (0, 0)) := by
    refine Hand.kb hb4 ?_; first | with_reducible exact g_C | (simp (disch := first | omega | (simp only [Hand.sa, Hand.ss, Hand.sd, Hand.sn]; first | done | omega)) only [Hand.q2, Hand.q1, Hand.q5, Hand.q6, Hand.q4, Hand.q3, g_C] <;> rfl)
  have h_X : w4.heap[gX]? = some (.cells #[.int .i64 p2, .int .i64 q2] 24 (0, 0)) := by
    refine Hand.kb hb4 ?_; first | with_reducible exact g_X | (simp (disch := first | omega | (simp only [Hand.sa, Hand.ss, Hand.sd, Hand.sn]; first | done | omega)) only [Hand.q2, Hand.q1, Hand.q5, Hand.q6, Hand.q4, Hand.q3, g_X] <;> rfl)
  have h_S : w4.heap[gS]? = some (.cells #[.int .i64 p3, .int .i64 q3] 24 (0, 0)) := by
    refine Hand.kb hb4 ?_; first | with_reducible exact g_S | (simp (disch := first | omega | (simp only [Hand.sa, Hand.ss, Hand.sd, Hand.sn]; first | done | omega)) only [Hand.q2, Hand.q1, Hand.q5, Hand.q6, Hand.q4, Hand.q3, g_S] <;> rfl)
  have h_Z : w4.heap[w1.heap.size]? = some (.cells #[.int .i64 p5, .int .i64 q5] 24 (0, 0)) := by
    refine Hand.kb hb4 ?_; first | with_reducible exact g_Z | (simp (disch := first | omega | (simp only [Hand.sa, Hand.ss, Hand.sd, Hand.sn]; first | done | omega)) only [Hand.q2, Hand.q1, Hand.q5, Hand.q6, Hand.q4, Hand.q3, g_Z] <;> rfl)
  have hB' : Below w.heap.size w w4 := Hand.stepB hb4 (by repeat (with_reducible first | apply hB | apply Below.drew | apply pw_below_drewN | (apply Below.setCell; rotate_left; (dsimp only; omega)) | (apply Below.alloc; rotate_left; (first | omega | (simp only [Hand.sa, Hand.ss, Hand.sd, Hand.sn]; omega))))) (Nat.le_refl _)
  clear HG hB g_A g_B g_C g_X g_S g_Z zw z_A z1_A z2_A y0_A y1_A c_A_0 f_A_0 c_A_1 f_A_1 z_B z1_B z2_B y0_B y1_B c_B_0 f_B_0 c_B_1 f_B_1 z_C z1_C z2_C y0_C y1_C c_C_0 f_C_0 c_C_1 f_C_1 z_X z1_X z2_X y0_X y1_X c_X_0 f_X_0 c_X_1 f_X_1 z_S z1_S z2_S y0_S y1_S c_S_0 f_S_0 c_S_1 f_S_1 z_Z z1_Z z2_Z y0_Z y1_Z c_Z_0 f_Z_0 c_Z_1 f_Z_1
  clear hb4
  have g_A := h_A
  have g_B := h_B
  have g_C := h_C
  have g_X := h_X
  have g_S := h_S
  have g_Z := h_Z
  have hB := hB'
  clear hB' h_A h_B h_C h_X h_S h_Z
  obtain ⟨z_A, z1_A, z2_A, y0_A, y1_A⟩ := Hand.hz g_A
  obtain ⟨c_A_0, f_A_0, c_A_1, f_A_1⟩ := Hand.hc2 g_A
  obtain ⟨z_B, z1_B, z2_B, y0_B, y1_B⟩ := Hand.hz g_B
  obtain ⟨c_B_0, f_B_0, c_B_1, f_B_1⟩ := Hand.hc2 g_B
  obtain ⟨z_C, z1_C, z2_C, y0_C, y1_C⟩ := Hand.hz g_C
  obtain ⟨c_C_0, f_C_0, c_C_1, f_C_1⟩ := Hand.hc2 g_C
  obtain ⟨z_X, z1_X, z2_X, y0_X, y1_X⟩ := Hand.hz g_X
  obtain ⟨c_X_0, f_X_0, c_X_1, f_X_1⟩ := Hand.hc2 g_X
  obtain ⟨z_S, z1_S, z2_S, y0_S, y1_S⟩ := Hand.hz g_S
  obtain ⟨c_S_0, f_S_0, c_S_1, f_S_1⟩ := Hand.hc2 g_S
  obtain ⟨z_Z, z1_Z, z2_Z, y0_Z, y1_Z⟩ := Hand.hz g_Z
  obtain ⟨c_Z_0, f_Z_0, c_Z_1, f_Z_1⟩ := Hand.hc2 g_Z
  have zw : w.heap.size ≤ w4.heap.size := hB.size
  have HG := Lib.hid (And.intro g_A (And.intro g_B (And.intro g_C (And.intro g_X (And.intro g_S (And.intro g_Z (hB)))))))
  clear g_A g_B g_C g_X g_S g_Z hB
  go_wp2
  refine HK15.out _ _ ?_
  conv => arg 2; whnf
  go_wp2
  go_ret
  obtain ⟨g_A, g_B, g_C, g_X, g_S, g_Z, hB⟩ := HG.out
  exact ⟨rfl, hB⟩
set_option maxHeartbeats 8000000 in
set_option maxRecDepth 100000 in
theorem rings5 (w : World) (a b c d e f p2 q2 p3 q3 p5 q5 l1 l2 l3 : Int)
    (M5 : RT 28 #[.agg #[.int .i64 a, .int .i64 b], .agg #[.int .i64 e, .int .i64 f]] p5 q5 0)
    (F0 : RB 33 #[.int .i64 0] true)
    (F1 : RB 33 #[.int .i64 0] true)
    (F2 : RB 33 #[.int .i64 0] true)
    (L : RT 28 #[.agg #[.int .i64 a, .int .i64 b], .agg #[.int .i64 p3, .int .i64 q3]] l1 l2 l3)
    (R : RT 21 #[.agg #[.int .i64 p2, .int .i64 q2], .agg #[.int .i64 p5, .int .i64 q5]] l1 l2 l3) : At14 w a b c d e f p2 q2 p3 q3 0 0 := by
  intro s7 s8 s9 s10 s13 s14 s15 s16 s17 s18 s21 s22 s23 s24 s25 s26 s27 s28 s29 s30 s31 s32 s33 s34 s35 s36 s37 s38 s39 s40 s41 s42 s43 s44 s45 s46 s47 s48 s49 s50 s51 s52 s53 s54 s55 s56 s57 s58 s59 s60 s61 s62 s63 s64 s65 s66 s67 s68 s69 s70 s71 s72 s73 s74 s75 s76 s77 s78 s79 s80 s81 s82 s83 s84 s85 s86 s87 s88 s89 s90 s91 s92 s93 s94 s95 s96 s97 s98 s99 s100 s101 s102 s103 s104 s105 s106 s107 s108 s109 s110 s111 s112 s113 s114 s115 s116 s117 s118 s119 s120 s121 s122 s123 s124 s125 s126 s127 s128 s129 s130 s131 s132 s133 s134 s135 s136 s137 s138 s139 s140 s141 s142 s143 s144 s145 s146 s147 s148 s149 s150 s151 s152 s153 s154 s155 s156 s157 s158 s159 s160 s161 s162 s163 s164 s165 s166 s167 s168 s169 s170 s171 s172 s173 s174 s175 s176 s177 s178 s179 s180 s181 s182 s183 s184 s185 s186 s187 s188 s189 s190 s191 s192 s193 s194 s195 s196 s197 s198 s199 s200 s201 s202 s203 s204 s205 s206 s207 s208 s209 s210 s211 s212 s213 s214 s215 s216 s217 s218 s219 s220 s221 s222 s223 s224 s225 gA gB gC gX gS W hfacts hB
  obtain ⟨g_A, g_B, g_C, g_X, g_S⟩ := hfacts
  obtain ⟨z_A, z1_A, z2_A, y0_A, y1_A⟩ := Hand.hz g_A
  obtain ⟨c_A_0, f_A_0, c_A_1, f_A_1⟩ := Hand.hc2 g_A
  obtain ⟨z_B, z1_B, z2_B, y0_B, y1_B⟩ := Hand.hz g_B
  obtain ⟨c_B_0, f_B_0, c_B_1, f_B_1⟩ := Hand.hc2 g_B
  obtain ⟨z_C, z1_C, z2_C, y0_C, y1_C⟩ := Hand.hz g_C
  obtain ⟨c_C_0, f_C_0, c_C_1, f_C_1⟩ := Hand.hc2 g_C
  obtain ⟨z_X, z1_X, z2_X, y0_X, y1_X⟩ := Hand.hz g_X
  obtain ⟨c_X_0, f_X_0, c_X_1, f_X_1⟩ := Hand.hc2 g_X
  obtain ⟨z_S, z1_S, z2_S, y0_S, y1_S⟩ := Hand.hz g_S
  obtain ⟨c_S_0, f_S_0, c_S_1, f_S_1⟩ := Hand.hc2 g_S
  have zw : w.heap.size ≤ W.heap.size := hB.size
  have HG := Lib.hid (And.intro g_A (And.intro g_B (And.intro g_C (And.intro g_X (And.intro g_S (hB))))))
  clear g_A g_B g_C g_X g_S hB
  rw [ringsE14]
  refine wp_seq_k (fun K14 hK14 => ?_)
  have HK14 := Lib.hid hK14
  clear hK14
  conv => arg 2; whnf
  go_wp2_with fail
  with_reducible refine (M5.out _).mono ?_
  rintro e w1 ⟨rfl, hb1⟩
  obtain ⟨g_A, g_B, g_C, g_X, g_S, hB⟩ := HG.out
  have h_A : w1.heap[gA]? = some (.cells #[.int .i64 a, .int .i64 b] 24 (0, 0)) := by
    refine Hand.kb hb1 ?_; first | with_reducible exact g_A | (simp (disch := first | omega | (simp only [Hand.sa, Hand.ss, Hand.sd, Hand.sn]; first | done | omega)) only [Hand.q2, Hand.q1, Hand.q5, Hand.q6, Hand.q4, Hand.q3, g_A] <;> rfl)
  have h_B : w1.heap[gB]? = some (.cells #[.int .i64 c, .int .i64 d] 24 (0, 0)) := by
    refine Hand.kb hb1 ?_; first | with_reducible exact g_B | (simp (disch := first | omega | (simp only [Hand.sa, Hand.ss, Hand.sd, Hand.sn]; first | done | omega)) only [Hand.q2, Hand.q1, Hand.q5, Hand.q6, Hand.q4, Hand.q3, g_B] <;> rfl)
  have h_C : w1.heap[gC]? = some (.cells #[.int .i64 e, .int .i64 f] 24 (0, 0)) := by
    refine Hand.kb hb1 ?_; first | with_reducible exact g_C | (simp (disch := first | omega | (simp only [Hand.sa, Hand.ss, Hand.sd, Hand.sn]; first | done | omega)) only [Hand.q2, Hand.q1, Hand.q5, Hand.q6, Hand.q4, Hand.q3, g_C] <;> rfl)
  have h_X : w1.heap[gX]? = some (.cells #[.int .i64 p2, .int .i64 q2] 24 (0, 0)) := by
    refine Hand.kb hb1 ?_; first | with_reducible exact g_X | (simp (disch := first | omega | (simp only [Hand.sa, Hand.ss, Hand.sd, Hand.sn]; first | done | omega)) only [Hand.q2, Hand.q1, Hand.q5, Hand.q6, Hand.q4, Hand.q3, g_X] <;> rfl)
  have h_S : w1.heap[gS]? = some (.cells #[.int .i64 p3, .int .i64 q3] 24 (0, 0)) := by
    refine Hand.kb hb1 ?_; first | with_reducible exact g_S | (simp (disch := first | omega | (simp only [Hand.sa, Hand.ss, Hand.sd, Hand.sn]; first | done | omega)) only [Hand.q2, Hand.q1, Hand.q5, Hand.q6, Hand.q4, Hand.q3, g_S] <;> rfl)
  have hB' : Below w.heap.size w w1 := Hand.stepB hb1 (by repeat (with_reducible first | apply hB | apply Below.drew | apply pw_below_drewN | (apply Below.setCell; rotate_left; (dsimp only; omega)) | (apply Below.alloc; rotate_left; (first | omega | (simp only [Hand.sa, Hand.ss, Hand.sd, Hand.sn]; omega))))) (Nat.le_refl _)
  clear HG hB g_A g_B g_C g_X g_S zw z_A z1_A z2_A y0_A y1_A c_A_0 f_A_0 c_A_1 f_A_1 z_B z1_B z2_B y0_B y1_B c_B_0 f_B_0 c_B_1 f_B_1 z_C z1_C z2_C y0_C y1_C c_C_0 f_C_0 c_C_1 f_C_1 z_X z1_X z2_X y0_X y1_X c_X_0 f_X_0 c_X_1 f_X_1 z_S z1_S z2_S y0_S y1_S c_S_0 f_S_0 c_S_1 f_S_1
  clear hb1
  have g_A := h_A
  have g_B := h_B
  have g_C := h_C
  have g_X := h_X
  have g_S := h_S
  have hB := hB'
  clear hB' h_A h_B h_C h_X h_S
  obtain ⟨z_A, z1_A, z2_A, y0_A, y1_A⟩ := Hand.hz g_A
  obtain ⟨c_A_0, f_A_0, c_A_1, f_A_1⟩ := Hand.hc2 g_A
  obtain ⟨z_B, z1_B, z2_B, y0_B, y1_B⟩ := Hand.hz g_B
  obtain ⟨c_B_0, f_B_0, c_B_1, f_B_1⟩ := Hand.hc2 g_B
  obtain ⟨z_C, z1_C, z2_C, y0_C, y1_C⟩ := Hand.hz g_C
  obtain ⟨c_C_0, f_C_0, c_C_1, f_C_1⟩ := Hand.hc2 g_C
  obtain ⟨z_X, z1_X, z2_X, y0_X, y1_X⟩ := Hand.hz g_X
  obtain ⟨c_X_0, f_X_0, c_X_1, f_X_1⟩ := Hand.hc2 g_X
  obtain ⟨z_S, z1_S, z2_S, y0_S, y1_S⟩ := Hand.hz g_S
  obtain ⟨c_S_0, f_S_0, c_S_1, f_S_1⟩ := Hand.hc2 g_S
  have zw : w.heap.size ≤ w1.heap.size := hB.size
  have HG := Lib.hid (And.intro g_A (And.intro g_B (And.intro g_C (And.intro g_X (And.intro g_S (hB))))))
  clear g_A g_B g_C g_X g_S hB
  go_wp2
  refine HK14.out _ _ ?_
  rw [ringsE15]
  refine wp_seq_k (fun K15 hK15 => ?_)
  have HK15 := Lib.hid hK15
  clear hK15
  conv => arg 2; whnf
  go_wp2_with fail
  with_reducible refine (F0.out _).mono ?_
  rintro e w2 ⟨rfl, hb2⟩
  obtain ⟨g_A, g_B, g_C, g_X, g_S, hB⟩ := HG.out
  have h_A : w2.heap[gA]? = some (.cells #[.int .i64 a, .int .i64 b] 24 (0, 0)) := by
    refine Hand.kb hb2 ?_; first | with_reducible exact g_A | (simp (disch := first | omega | (simp only [Hand.sa, Hand.ss, Hand.sd, Hand.sn]; first | done | omega)) only [Hand.q2, Hand.q1, Hand.q5, Hand.q6, Hand.q4, Hand.q3, g_A] <;> rfl)
  have h_B : w2.heap[gB]? = some (.cells #[.int .i64 c, .int .i64 d] 24 (0, 0)) := by
    refine Hand.kb hb2 ?_; first | with_reducible exact g_B | (simp (disch := first | omega | (simp only [Hand.sa, Hand.ss, Hand.sd, Hand.sn]; first | done | omega)) only [Hand.q2, Hand.q1, Hand.q5, Hand.q6, Hand.q4, Hand.q3, g_B] <;> rfl)
  have h_C : w2.heap[gC]? = some (.cells #[.int .i64 e, .int .i64 f] 24 (0, 0)) := by
    refine Hand.kb hb2 ?_; first | with_reducible exact g_C | (simp (disch := first | omega | (simp only [Hand.sa, Hand.ss, Hand.sd, Hand.sn]; first | done | omega)) only [Hand.q2, Hand.q1, Hand.q5, Hand.q6, Hand.q4, Hand.q3, g_C] <;> rfl)
  have h_X : w2.heap[gX]? = some (.cells #[.int .i64 p2, .int .i64 q2] 24 (0, 0)) := by
    refine Hand.kb hb2 ?_; first | with_reducible exact g_X | (simp (disch := first | omega | (simp only [Hand.sa, Hand.ss, Hand.sd, Hand.sn]; first | done | omega)) only [Hand.q2, Hand.q1, Hand.q5, Hand.q6, Hand.q4, Hand.q3, g_X] <;> rfl)
  have h_S : w2.heap[gS]? = some (.cells #[.int .i64 p3, .int .i64 q3] 24 (0, 0)) := by
    refine Hand.kb hb2 ?_; first | with_reducible exact g_S | (simp (disch := first | omega | (simp only [Hand.sa, Hand.ss, Hand.sd, Hand.sn]; first | done | omega)) only [Hand.q2, Hand.q1, Hand.q5, Hand.q6, Hand.q4, Hand.q3, g_S] <;> rfl)
  have h_Z : w2.heap[w1.heap.size]? = some (.cells #[.int .i64 p5, .int .i64 q5] 24 (0, 0)) := by
    refine Hand.kb hb2 ?_; simp (disch := first | omega | (simp only [Hand.sa, Hand.ss, Hand.sd, Hand.sn]; first | done | omega)) only [Hand.q2, Hand.q1, Hand.q5, Hand.q6, Hand.q4, Hand.q3] <;> rfl
  have hB' : Below w.heap.size w w2 := Hand.stepB hb2 (by repeat (with_reducible first | apply hB | apply Below.drew | apply pw_below_drewN | (apply Below.setCell; rotate_left; (dsimp only; omega)) | (apply Below.alloc; rotate_left; (first | omega | (simp only [Hand.sa, Hand.ss, Hand.sd, Hand.sn]; omega))))) (Nat.le_refl _)
  clear HG hB g_A g_B g_C g_X g_S zw z_A z1_A z2_A y0_A y1_A c_A_0 f_A_0 c_A_1 f_A_1 z_B z1_B z2_B y0_B y1_B c_B_0 f_B_0 c_B_1 f_B_1 z_C z1_C z2_C y0_C y1_C c_C_0 f_C_0 c_C_1 f_C_1 z_X z1_X z2_X y0_X y1_X c_X_0 f_X_0 c_X_1 f_X_1 z_S z1_S z2_S y0_S y1_S c_S_0 f_S_0 c_S_1 f_S_1
  clear hb2
  have g_A := h_A
  have g_B := h_B
  have g_C := h_C
  have g_X := h_X
  have g_S := h_S
  have g_Z := h_Z
  have hB := hB'
  clear hB' h_A h_B h_C h_X h_S h_Z
  obtain ⟨z_A, z1_A, z2_A, y0_A, y1_A⟩ := Hand.hz g_A
  obtain ⟨c_A_0, f_A_0, c_A_1, f_A_1⟩ := Hand.hc2 g_A
  obtain ⟨z_B, z1_B, z2_B, y0_B, y1_B⟩ := Hand.hz g_B
  obtain ⟨c_B_0, f_B_0, c_B_1, f_B_1⟩ := Hand.hc2 g_B
  obtain ⟨z_C, z1_C, z2_C, y0_C, y1_C⟩ := Hand.hz g_C
  obtain ⟨c_C_0, f_C_0, c_C_1, f_C_1⟩ := Hand.hc2 g_C
  obtain ⟨z_X, z1_X, z2_X, y0_X, y1_X⟩ := Hand.hz g_X
  obtain ⟨c_X_0, f_X_0, c_X_1, f_X_1⟩ := Hand.hc2 g_X
  obtain ⟨z_S, z1_S, z2_S, y0_S, y1_S⟩ := Hand.hz g_S
  obtain ⟨c_S_0, f_S_0, c_S_1, f_S_1⟩ := Hand.hc2 g_S
  obtain ⟨z_Z, z1_Z, z2_Z, y0_Z, y1_Z⟩ := Hand.hz g_Z
  obtain ⟨c_Z_0, f_Z_0, c_Z_1, f_Z_1⟩ := Hand.hc2 g_Z
  have zw : w.heap.size ≤ w2.heap.size := hB.size
  have HG := Lib.hid (And.intro g_A (And.intro g_B (And.intro g_C (And.intro g_X (And.intro g_S (And.intro g_Z (hB)))))))
  clear g_A g_B g_C g_X g_S g_Z hB
  go_wp2_with fail
  with_reducible refine (F1.out _).mono ?_
  rintro e w3 ⟨rfl, hb3⟩
  obtain ⟨g_A, g_B, g_C, g_X, g_S, g_Z, hB⟩ := HG.out
  have h_A : w3.heap[gA]? = some (.cells #[.int .i64 a, .int .i64 b] 24 (0, 0)) := by
    refine Hand.kb hb3 ?_; first | with_reducible exact g_A | (simp (disch := first | omega | (simp only [Hand.sa, Hand.ss, Hand.sd, Hand.sn]; first | done | omega)) only [Hand.q2, Hand.q1, Hand.q5, Hand.q6, Hand.q4, Hand.q3, g_A] <;> rfl)
  have h_B : w3.heap[gB]? = some (.cells #[.int .i64 c, .int .i64 d] 24 (0, 0)) := by
    refine Hand.kb hb3 ?_; first | with_reducible exact g_B | (simp (disch := first | omega | (simp only [Hand.sa, Hand.ss, Hand.sd, Hand.sn]; first | done | omega)) only [Hand.q2, Hand.q1, Hand.q5, Hand.q6, Hand.q4, Hand.q3, g_B] <;> rfl)
  have h_C : w3.heap[gC]? = some (.cells #[.int .i64 e, .int .i64 f] 24 (0, 0)) := by
    refine Hand.kb hb3 ?_; first | with_reducible exact g_C | (simp (disch := first | omega | (simp only [Hand.sa, Hand.ss, Hand.sd, Hand.sn]; first | done | omega)) only [Hand.q2, Hand.q1, Hand.q5, Hand.q6, Hand.q4, Hand.q3, g_C] <;> rfl)
  have h_X : w3.heap[gX]? = some (.cells #[.int .i64 p2, .int .i64 q2] 24 (0, 0)) := by
    refine Hand.kb hb3 ?_; first | with_reducible exact g_X | (simp (disch := first | omega | (simp only [Hand.sa, Hand.ss, Hand.sd, Hand.sn]; first | done | omega)) only [Hand.q2, Hand.q1, Hand.q5, Hand.q6, Hand.q4, Hand.q3, g_X] <;> rfl)
  have h_S : w3.heap[gS]? = some (.cells #[.int .i64 p3, .int .i64 q3] 24 (0, 0)) := by
    refine Hand.kb hb3 ?_; first | with_reducible exact g_S | (simp (disch := first | omega | (simp only [Hand.sa, Hand.ss, Hand.sd, Hand.sn]; first | done | omega)) only [Hand.q2, Hand.q1, Hand.q5, Hand.q6, Hand.q4, Hand.q3, g_S] <;> rfl)
  have h_Z : w3.heap[w1.heap.size]? = some (.cells #[.int .i64 p5, .int .i64 q5] 24 (0, 0)) := by
    refine Hand.kb hb3 ?_; first | with_reducible exact g_Z | (simp (disch := first | omega | (simp only [Hand.sa, Hand.ss, Hand.sd, Hand.sn]; first | done | omega)) only [Hand.q2, Hand.q1, Hand.q5, Hand.q6, Hand.q4, Hand.q3, g_Z] <;> rfl)
  have hB' : Below w.heap.size w w3 := Hand.stepB hb3 (by repeat (with_reducible first | apply hB | apply Below.drew | apply pw_below_drewN | (apply Below.setCell; rotate_left; (dsimp only; omega)) | (apply Below.alloc; rotate_left; (first | omega | (simp only [Hand.sa, Hand.ss, Hand.sd, Hand.sn]; omega))))) (Nat.le_refl _)
  clear HG hB g_A g_B g_C g_X g_S g_Z zw z_A z1_A z2_A y0_A y1_A c_A_0 f_A_0 c_A_1 f_A_1 z_B z1_B z2_B y0_B y1_B c_B_0 f_B_0 c_B_1 f_B_1 z_C z1_C z2_C y0_C y1_C c_C_0 f_C_0 c_C_1 f_C_1 z_X z1_X z2_X y0_X y1_X c_X_0 f_X_0 c_X_1 f_X_1 z_S z1_S z2_S y0_S y1_S c_S_0 f_S_0 c_S_1 f_S_1 z_Z z1_Z z2_Z y0_Z y1_Z c_Z_0 f_Z_0 c_Z_1 f_Z_1
  clear hb3
  have g_A := h_A
  have g_B := h_B
  have g_C := h_C
  have g_X := h_X
  have g_S := h_S
  have g_Z := h_Z
  have hB := hB'
  clear hB' h_A h_B h_C h_X h_S h_Z
  obtain ⟨z_A, z1_A, z2_A, y0_A, y1_A⟩ := Hand.hz g_A
  obtain ⟨c_A_0, f_A_0, c_A_1, f_A_1⟩ := Hand.hc2 g_A
  obtain ⟨z_B, z1_B, z2_B, y0_B, y1_B⟩ := Hand.hz g_B
  obtain ⟨c_B_0, f_B_0, c_B_1, f_B_1⟩ := Hand.hc2 g_B
  obtain ⟨z_C, z1_C, z2_C, y0_C, y1_C⟩ := Hand.hz g_C
  obtain ⟨c_C_0, f_C_0, c_C_1, f_C_1⟩ := Hand.hc2 g_C
  obtain ⟨z_X, z1_X, z2_X, y0_X, y1_X⟩ := Hand.hz g_X
  obtain ⟨c_X_0, f_X_0, c_X_1, f_X_1⟩ := Hand.hc2 g_X
  obtain ⟨z_S, z1_S, z2_S, y0_S, y1_S⟩ := Hand.hz g_S
  obtain ⟨c_S_0, f_S_0, c_S_1, f_S_1⟩ := Hand.hc2 g_S
  obtain ⟨z_Z, z1_Z, z2_Z, y0_Z, y1_Z⟩ := Hand.hz g_Z
  obtain ⟨c_Z_0, f_Z_0, c_Z_1, f_Z_1⟩ := Hand.hc2 g_Z
  have zw : w.heap.size ≤ w3.heap.size := hB.size
  have HG := Lib.hid (And.intro g_A (And.intro g_B (And.intro g_C (And.intro g_X (And.intro g_S (And.intro g_Z (hB)))))))
  clear g_A g_B g_C g_X g_S g_Z hB
  go_wp2_with fail
  with_reducible refine (F2.out _).mono ?_
  rintro e w4 ⟨rfl, hb4⟩
  obtain ⟨g_A, g_B, g_C, g_X, g_S, g_Z, hB⟩ := HG.out
  have h_A : w4.heap[gA]? = some (.cells #[.int .i64 a, .int .i64 b] 24 (0, 0)) := by
    refine Hand.kb hb4 ?_; first | with_reducible exact g_A | (simp (disch := first | omega | (simp only [Hand.sa, Hand.ss, Hand.sd, Hand.sn]; first | done | omega)) only [Hand.q2, Hand.q1, Hand.q5, Hand.q6, Hand.q4, Hand.q3, g_A] <;> rfl)
  have h_B : w4.heap[gB]? = some (.cells #[.int .i64 c, .int .i64 d] 24 (0, 0)) := by
    refine Hand.kb hb4 ?_; first | with_reducible exact g_B | (simp (disch := first | omega | (simp only [Hand.sa, Hand.ss, Hand.sd, Hand.sn]; first | done | omega)) only [Hand.q2, Hand.q1, Hand.q5, Hand.q6, Hand.q4, Hand.q3, g_B] <;> rfl)
  have h_C : w4.heap[gC]? = some (.cells #[.int .i64 e, .int .i64 f] 24 (0, 0)) := by
    refine Hand.kb hb4 ?_; first | with_reducible exact g_C | (simp (disch := first | omega | (simp only [Hand.sa, Hand.ss, Hand.sd, Hand.sn]; first | done | omega)) only [Hand.q2, Hand.q1, Hand.q5, Hand.q6, Hand.q4, Hand.q3, g_C] <;> rfl)
  have h_X : w4.heap[gX]? = some (.cells #[.int .i64 p2, .int .i64 q2] 24 (0, 0)) := by
    refine Hand.kb hb4 ?_; first | with_reducible exact g_X | (simp (disch := first | omega | (simp only [Hand.sa, Hand.ss, Hand.sd, Hand.sn]; first | done | omega)) only [Hand.q2, Hand.q1, Hand.q5, Hand.q6, Hand.q4, Hand.q3, g_X] <;> rfl)
  have h_S : w4.heap[gS]? = some (.cells #[.int .i64 p3, .int .i64 q3] 24 (0, 0)) := by
    refine Hand.kb hb4 ?_; first | with_reducible exact g_S | (simp (disch := first | omega | (simp only [Hand.sa, Hand.ss, Hand.sd, Hand.sn]; first | done | omega)) only [Hand.q2, Hand.q1, Hand.q5, Hand.q6, Hand.q4, Hand.q3, g_S] <;> rfl)
  have h_Z : w4.heap[w1.heap.size]? = some (.cells #[.int .i64 p5, .int .i64 q5] 24 (0, 0)) := by
    refine Hand.kb hb4 ?_; first | with_reducible exact g_Z | (simp (disch := first | omega | (simp only [Hand.sa, Hand.ss, Hand.sd, Hand.sn]; first | done | omega)) only [Hand.q2, Hand.q1, Hand.q5, Hand.q6, Hand.q4, Hand.q3, g_Z] <;> rfl)
  have hB' : Below w.heap.size w w4 := Hand.stepB hb4 (by repeat (with_reducible first | apply hB | apply Below.drew | apply pw_below_drewN | (apply Below.setCell; rotate_left; (dsimp only; omega)) | (apply Below.alloc; rotate_left; (first | omega | (simp only [Hand.sa, Hand.ss, Hand.sd, Hand.sn]; omega))))) (Nat.le_refl _)
  clear HG hB g_A g_B g_C g_X g_S g_Z zw z_A z1_A z2_A y0_A y1_A c_A_0 f_A_0 c_A_1 f_A_1 z_B z1_B z2_B y0_B y1_B c_B_0 f_B_0 c_B_1 f_B_1 z_C z1_C z2_C y0_C y1_C c_C_0 f_C_0 c_C_1 f_C_1 z_X z1_X z2_X y0_X y1_X c_X_0 f_X_0 c_X_1 f_X_1 z_S z1_S z2_S y0_S y1_S c_S_0 f_S_0 c_S_1 f_S_1 z_Z z1_Z z2_Z y0_Z y1_Z c_Z_0 f_Z_0 c_Z_1 f_Z_1
  clear hb4
  have g_A := h_A
  have g_B := h_B
  have g_C := h_C
  have g_X := h_X
  have g_S := h_S
  have g_Z := h_Z
  have hB := hB'
  clear hB' h_A h_B h_C h_X h_S h_Z
  obtain ⟨z_A, z1_A, z2_A, y0_A, y1_A⟩ := Hand.hz g_A
  obtain ⟨c_A_0, f_A_0, c_A_1, f_A_1⟩ := Hand.hc2 g_A
  obtain ⟨z_B, z1_B, z2_B, y0_B, y1_B⟩ := Hand.hz g_B
  obtain ⟨c_B_0, f_B_0, c_B_1, f_B_1⟩ := Hand.hc2 g_B
  obtain ⟨z_C, z1_C, z2_C, y0_C, y1_C⟩ := Hand.hz g_C
  obtain ⟨c_C_0, f_C_0, c_C_1, f_C_1⟩ := Hand.hc2 g_C
  obtain ⟨z_X, z1_X, z2_X, y0_X, y1_X⟩ := Hand.hz g_X
  obtain ⟨c_X_0, f_X_0, c_X_1, f_X_1⟩ := Hand.hc2 g_X
  obtain ⟨z_S, z1_S, z2_S, y0_S, y1_S⟩ := Hand.hz g_S
  obtain ⟨c_S_0, f_S_0, c_S_1, f_S_1⟩ := Hand.hc2 g_S
  obtain ⟨z_Z, z1_Z, z2_Z, y0_Z, y1_Z⟩ := Hand.hz g_Z
  obtain ⟨c_Z_0, f_Z_0, c_Z_1, f_Z_1⟩ := Hand.hc2 g_Z
  have zw : w.heap.size ≤ w4.heap.size := hB.size
  have HG := Lib.hid (And.intro g_A (And.intro g_B (And.intro g_C (And.intro g_X (And.intro g_S (And.intro g_Z (hB)))))))
  clear g_A g_B g_C g_X g_S g_Z hB
  go_wp2_with fail
  with_reducible refine (L.out _).mono ?_
  rintro e w5 ⟨rfl, hb5⟩
  obtain ⟨g_A, g_B, g_C, g_X, g_S, g_Z, hB⟩ := HG.out
  have h_A : w5.heap[gA]? = some (.cells #[.int .i64 a, .int .i64 b] 24 (0, 0)) := by
    refine Hand.kb hb5 ?_; first | with_reducible exact g_A | (simp (disch := first | omega | (simp only [Hand.sa, Hand.ss, Hand.sd, Hand.sn]; first | done | omega)) only [Hand.q2, Hand.q1, Hand.q5, Hand.q6, Hand.q4, Hand.q3, g_A] <;> rfl)
  have h_B : w5.heap[gB]? = some (.cells #[.int .i64 c, .int .i64 d] 24 (0, 0)) := by
    refine Hand.kb hb5 ?_; first | with_reducible exact g_B | (simp (disch := first | omega | (simp only [Hand.sa, Hand.ss, Hand.sd, Hand.sn]; first | done | omega)) only [Hand.q2, Hand.q1, Hand.q5, Hand.q6, Hand.q4, Hand.q3, g_B] <;> rfl)
  have h_C : w5.heap[gC]? = some (.cells #[.int .i64 e, .int .i64 f] 24 (0, 0)) := by
    refine Hand.kb hb5 ?_; first | with_reducible exact g_C | (simp (disch := first | omega | (simp only [Hand.sa, Hand.ss, Hand.sd, Hand.sn]; first | done | omega)) only [Hand.q2, Hand.q1, Hand.q5, Hand.q6, Hand.q4, Hand.q3, g_C] <;> rfl)
  have h_X : w5.heap[gX]? = some (.cells #[.int .i64 p2, .int .i64 q2] 24 (0, 0)) := by
    refine Hand.kb hb5 ?_; first | with_reducible exact g_X | (simp (disch := first | omega | (simp only [Hand.sa, Hand.ss, Hand.sd, Hand.sn]; first | done | omega)) only [Hand.q2, Hand.q1, Hand.q5, Hand.q6, Hand.q4, Hand.q3, g_X] <;> rfl)
  have h_S : w5.heap[gS]? = some (.cells #[.int .i64 p3, .int .i64 q3] 24 (0, 0)) := by
    refine Hand.kb hb5 ?_; first | with_reducible exact g_S | (simp (disch := first | omega | (simp only [Hand.sa, Hand.ss, Hand.sd, Hand.sn]; first | done | omega)) only [Hand.q2, Hand.q1, Hand.q5, Hand.q6, Hand.q4, Hand.q3, g_S] <;> rfl)
  have h_Z : w5.heap[w1.heap.size]? = some (.cells #[.int .i64 p5, .int .i64 q5] 24 (0, 0)) := by
    refine Hand.kb hb5 ?_; first | with_reducible exact g_Z | (simp (disch := first | omega | (simp only [Hand.sa, Hand.ss, Hand.sd, Hand.sn]; first | done | omega)) only [Hand.q2, Hand.q1, Hand.q5, Hand.q6, Hand.q4, Hand.q3, g_Z] <;> rfl)
  have hB' : Below w.heap.size w w5 := Hand.stepB hb5 (by repeat (with_reducible first | apply hB | apply Below.drew | apply pw_below_drewN | (apply Below.setCell; rotate_left; (dsimp only; omega)) | (apply Below.alloc; rotate_left; (first | omega | (simp only [Hand.sa, Hand.ss, Hand.sd, Hand.sn]; omega))))) (Nat.le_refl _)
  clear HG hB g_A g_B g_C g_X g_S g_Z zw z_A z1_A z2_A y0_A y1_A c_A_0 f_A_0 c_A_1 f_A_1 z_B z1_B z2_B y0_B y1_B c_B_0 f_B_0 c_B_1 f_B_1 z_C z1_C z2_C y0_C y1_C c_C_0 f_C_0 c_C_1 f_C_1 z_X z1_X z2_X y0_X y1_X c_X_0 f_X_0 c_X_1 f_X_1 z_S z1_S z2_S y0_S y1_S c_S_0 f_S_0 c_S_1 f_S_1 z_Z z1_Z z2_Z y0_Z y1_Z c_Z_0 f_Z_0 c_Z_1 f_Z_1
  clear hb5
  have g_A := h_A
  have g_B := h_B
  have g_C := h_C
  have g_X := h_X
  have g_S := h_S
  have g_Z := h_Z
  have hB := hB'
  clear hB' h_A h_B h_C h_X h_S h_Z
  obtain ⟨z_A, z1_A, z2_A, y0_A, y1_A⟩ := Hand.hz g_A
  obtain ⟨c_A_0, f_A_0, c_A_1, f_A_1⟩ := Hand.hc2 g_A
  obtain ⟨z_B, z1_B, z2_B, y0_B, y1_B⟩ := Hand.hz g_B
  obtain ⟨c_B_0, f_B_0, c_B_1, f_B_1⟩ := Hand.hc2 g_B
  obtain ⟨z_C, z1_C, z2_C, y0_C, y1_C⟩ := Hand.hz g_C
  obtain ⟨c_C_0, f_C_0, c_C_1, f_C_1⟩ := Hand.hc2 g_C
  obtain ⟨z_X, z1_X, z2_X, y0_X, y1_X⟩ := Hand.hz g_X
  obtain ⟨c_X_0, f_X_0, c_X_1, f_X_1⟩ := Hand.hc2 g_X
  obtain ⟨z_S, z1_S, z2_S, y0_S, y1_S⟩ := Hand.hz g_S
  obtain ⟨c_S_0, f_S_0, c_S_1, f_S_1⟩ := Hand.hc2 g_S
  obtain ⟨z_Z, z1_Z, z2_Z, y0_Z, y1_Z⟩ := Hand.hz g_Z
  obtain ⟨c_Z_0, f_Z_0, c_Z_1, f_Z_1⟩ := Hand.hc2 g_Z
  have zw : w.heap.size ≤ w5.heap.size := hB.size
  have HG := Lib.hid (And.intro g_A (And.intro g_B (And.intro g_C (And.intro g_X (And.intro g_S (And.intro g_Z (hB)))))))
  clear g_A g_B g_C g_X g_S g_Z hB
  go_wp2_with fail
  with_reducible refine (R.out _).mono ?_
  rintro e w6 ⟨rfl, hb6⟩
  obtain ⟨g_A, g_B, g_C, g_X, g_S, g_Z, hB⟩ := HG.out
  have h_A : w6.heap[gA]? = some (.cells #[.int .i64 a, .int .i64 b] 24 (0, 0)) := by
    refine Hand.kb hb6 ?_; first | with_reducible exact g_A | (simp (disch := first | omega | (simp only [Hand.sa, Hand.ss, Hand.sd, Hand.sn]; first | done | omega)) only [Hand.q2, Hand.q1, Hand.q5, Hand.q6, Hand.q4, Hand.q3, g_A] <;> rfl)
  have h_B : w6.heap[gB]? = some (.cells #[.int .i64 c, .int .i64 d] 24 (0, 0)) := by
    refine Hand.kb hb6 ?_; first | with_reducible exact g_B | (simp (disch := first | omega | (simp only [Hand.sa, Hand.ss, Hand.sd, Hand.sn]; first | done | omega)) only [Hand.q2, Hand.q1, Hand.q5, Hand.q6, Hand.q4, Hand.q3, g_B] <;> rfl)
  have h_C : w6.heap[gC]? = some (.cells #[.int .i64 e, .int .i64 f] 24 (0, 0)) := by
    refine Hand.kb hb6 ?_; first | with_reducible exact g_C | (simp (disch := first | omega | (simp only [Hand.sa, Hand.ss, Hand.sd, Hand.sn]; first | done | omega)) only [Hand.q2, Hand.q1, Hand.q5, Hand.q6, Hand.q4, Hand.q3, g_C] <;> rfl)
  have h_X : w6.heap[gX]? = some (.cells #[.int .i64 p2, .int .i64 q2] 24 (0, 0)) := by
    refine Hand.kb hb6 ?_; first | with_reducible exact g_X | (simp (disch := first | omega | (simp only [Hand.sa, Hand.ss, Hand.sd, Hand.sn]; first | done | omega)) only [Hand.q2, Hand.q1, Hand.q5, Hand.q6, Hand.q4, Hand.q3, g_X] <;> rfl)
  have h_S : w6.heap[gS]? = some (.cells #[.int .i64 p3, .int .i64 q3] 24 (0, 0)) := by
    refine Hand.kb hb6 ?_; first | with_reducible exact g_S | (simp (disch := first | omega | (simp only [Hand.sa, Hand.ss, Hand.sd, Hand.sn]; first | done | omega)) only [Hand.q2, Hand.q1, Hand.q5, Hand.q6, Hand.q4, Hand.q3, g_S] <;> rfl)
  have h_Z : w6.heap[w1.heap.size]? = some (.cells #[.int .i64 p5, .int .i64 q5] 24 (0, 0)) := by
    refine Hand.kb hb6 ?_; first | with_reducible exact g_Z | (simp (disch := first | omega | (simp only [Hand.sa, Hand.ss, Hand.sd, Hand.sn]; first | done | omega)) only [Hand.q2, Hand.q1, Hand.q5, Hand.q6, Hand.q4, Hand.q3, g_Z] <;> rfl)
  have h_U : w6.heap[w5.heap.size]? = some (.cells #[.int .i64 l1, .int .i64 l2] 24 (0, 0)) := by
    refine Hand.kb hb6 ?_; simp (disch := first | omega | (simp only [Hand.sa, Hand.ss, Hand.sd, Hand.sn]; first | done | omega)) only [Hand.q2, Hand.q1, Hand.q5, Hand.q6, Hand.q4, Hand.q3] <;> rfl
  have hB' : Below w.heap.size w w6 := Hand.stepB hb6 (by repeat (with_reducible first | apply hB | apply Below.drew | apply pw_below_drewN | (apply Below.setCell; rotate_left; (dsimp only; omega)) | (apply Below.alloc; rotate_left; (first | omega | (simp only [Hand.sa, Hand.ss, Hand.sd, Hand.sn]; omega))))) (Nat.le_refl _)
  clear HG hB g_A g_B g_C g_X g_S g_Z zw z_A z1_A z2_A y0_A y1_A c_A_0 f_A_0 c_A_1 f_A_1 z_B z1_B z2_B y0_B y1_B c_B_0 f_B_0 c_B_1 f_B_1 z_C z1_C z2_C y0_C y1_C c_C_0 f_C_0 c_C_1 f_C_1 z_X z1_X z2_X y0_X y1_X c_X_0 f_X_0 c_X_1 f_X_1 z_S z1_S z2_S y0_S y1_S c_S_0 f_S_0 c_S_1 f_S_1 z_Z z1_Z z2_Z y0_Z y1_Z c_Z_0 f_Z_0 c_Z_1 f_Z_1
  clear hb6
  have g_A := h_A
  have g_B := h_B
  have g_C := h_C
  have g_X := h_X
  have g_S := h_S
  have g_Z := h_Z
  have g_U := h_U
  have hB := hB'
  clear hB' h_A h_B h_C h_X h_S h_Z h_U
  obtain ⟨z_A, z1_A, z2_A, y0_A, y1_A⟩ := Hand.hz g_A
  obtain ⟨c_A_0, f_A_0, c_A_1, f_A_1⟩ := Hand.hc2 g_A
  obtain ⟨z_B, z1_B, z2_B, y0_B, y1_B⟩ := Hand.hz g_B
  obtain ⟨c_B_0, f_B_0, c_B_1, f_B_1⟩ := Hand.hc2 g_B
  obtain ⟨z_C, z1_C, z2_C, y0_C, y1_C⟩ := Hand.hz g_C
  obtain ⟨c_C_0, f_C_0, c_C_1, f_C_1⟩ := Hand.hc2 g_C
  obtain ⟨z_X, z1_X, z2_X, y0_X, y1_X⟩ := Hand.hz g_X
  obtain ⟨c_X_0, f_X_0, c_X_1, f_X_1⟩ := Hand.hc2 g_X
  obtain ⟨z_S, z1_S, z2_S, y0_S, y1_S⟩ := Hand.hz g_S
  obtain ⟨c_S_0, f_S_0, c_S_1, f_S_1⟩ := Hand.hc2 g_S
  obtain ⟨z_Z, z1_Z, z2_Z, y0_Z, y1_Z⟩ := Hand.hz g_Z
  obtain ⟨c_Z_0, f_Z_0, c_Z_1, f_Z_1⟩ := Hand.hc2 g_Z
  obtain ⟨z_U, z1_U, z2_U, y0_U, y1_U⟩ := Hand.hz g_U
  obtain ⟨c_U_0, f_U_0, c_U_1, f_U_1⟩ := Hand.hc2 g_U
  have zw : w.heap.size ≤ w6.heap.size := hB.size
  have HG := Lib.hid (And.intro g_A (And.intro g_B (And.intro g_C (And.intro g_X (And.intro g_S (And.intro g_Z (And.intro g_U (hB))))))))
  clear g_A g_B g_C g_X g_S g_Z g_U hB
  go_wp2
  go_ret
  obtain ⟨g_A, g_B, g_C, g_X, g_S, g_Z, g_U, hB⟩ := HG.out
  refine ⟨rfl, ?_⟩
  repeat (with_reducible first | exact hB | apply Below.drew | (apply Below.setCell; rotate_left; (dsimp only; first | omega | (simp only [Hand.sa, Hand.ss, Hand.sd, Hand.sn]; first | done | omega))) | (apply Below.alloc; rotate_left; (first | omega | (simp only [Hand.sa, Hand.ss, Hand.sd, Hand.sn]; first | done | omega))))
set_option maxHeartbeats 8000000 in
set_option maxRecDepth 100000 in
theorem rings4_g (w : World) (a b c d e f p2 q2 p3 q3 r2 r3 p4 q4 r4 : Int)
    (hN : At14 w a b c d e f p2 q2 p3 q3 r2 r3)
    (M4 : RT 28 #[.agg #[.int .i64 c, .int .i64 d], .agg #[.int .i64 e, .int .i64 f]] p4 q4 r4)
    (F0 : RB 33 #[.int .i64 r2] false) : At12 w a b c d e f p2 q2 p3 q3 r2 r3 := by
  intro s7 s8 s9 s10 s13 s14 s15 s16 s17 s18 s21 s22 s23 s24 s25 s26 s27 s28 s29 s30 s31 s32 s33 s34 s35 s36 s37 s38 s39 s40 s41 s42 s43 s44 s45 s46 s47 s48 s49 s50 s51 s52 s53 s54 s55 s56 s57 s58 s59 s60 s61 s62 s63 s64 s65 s66 s67 s68 s69 s70 s71 s72 s73 s74 s75 s76 s77 s78 s79 s80 s81 s82 s83 s84 s85 s86 s87 s88 s89 s90 s91 s92 s93 s94 s95 s96 s97 s98 s99 s100 s101 s102 s103 s104 s105 s106 s107 s108 s109 s110 s111 s112 s113 s114 s115 s116 s117 s118 s119 s120 s121 s122 s123 s124 s125 s126 s127 s128 s129 s130 s131 s132 s133 s134 s135 s136 s137 s138 s139 s140 s141 s142 s143 s144 s145 s146 s147 s148 s149 s150 s151 s152 s153 s154 s155 s156 s157 s158 s159 s160 s161 s162 s163 s164 s165 s166 s167 s168 s169 s170 s171 s172 s173 s174 s175 s176 s177 s178 s179 s180 s181 s182 s183 s184 s185 s186 s187 s188 s189 s190 s191 s192 s193 s194 s195 s196 s197 s198 s199 s200 s201 s202 s203 s204 s205 s206 s207 s208 s209 s210 s211 s212 s213 s214 s215 s216 s217 s218 s219 s220 s221 s222 s223 s224 s225 gA gB gC gX gS W hfacts hB
  obtain ⟨g_A, g_B, g_C, g_X, g_S⟩ := hfacts
  obtain ⟨z_A, z1_A, z2_A, y0_A, y1_A⟩ := Hand.hz g_A
  obtain ⟨c_A_0, f_A_0, c_A_1, f_A_1⟩ := Hand.hc2 g_A
  obtain ⟨z_B, z1_B, z2_B, y0_B, y1_B⟩ := Hand.hz g_B
  obtain ⟨c_B_0, f_B_0, c_B_1, f_B_1⟩ := Hand.hc2 g_B
  obtain ⟨z_C, z1_C, z2_C, y0_C, y1_C⟩ := Hand.hz g_C
  obtain ⟨c_C_0, f_C_0, c_C_1, f_C_1⟩ := Hand.hc2 g_C
  obtain ⟨z_X, z1_X, z2_X, y0_X, y1_X⟩ := Hand.hz g_X
  obtain ⟨c_X_0, f_X_0, c_X_1, f_X_1⟩ := Hand.hc2 g_X
  obtain ⟨z_S, z1_S, z2_S, y0_S, y1_S⟩ := Hand.hz g_S
  obtain ⟨c_S_0, f_S_0, c_S_1, f_S_1⟩ := Hand.hc2 g_S
  have zw : w.heap.size ≤ W.heap.size := hB.size
  have HG := Lib.hid (And.intro g_A (And.intro g_B (And.intro g_C (And.intro g_X (And.intro g_S (hB))))))
  clear g_A g_B g_C g_X g_S hB
  rw [ringsE12]
  refine wp_seq_k (fun K12 hK12 => ?_)
  have HK12 := Lib.hid hK12
  clear hK12
  conv => arg 2; whnf
  go_wp2_with fail
  with_reducible refine (M4.out _).mono ?_
  rintro e w1 ⟨rfl, hb1⟩
  obtain ⟨g_A, g_B, g_C, g_X, g_S, hB⟩ := HG.out
  have h_A : w1.heap[gA]? = some (.cells #[.int .i64 a, .int .i64 b] 24 (0, 0)) := by
    refine Hand.kb hb1 ?_; first | with_reducible exact g_A | (simp (disch := first | omega | (simp only [Hand.sa, Hand.ss, Hand.sd, Hand.sn]; first | done | omega)) only [Hand.q2, Hand.q1, Hand.q5, Hand.q6, Hand.q4, Hand.q3, g_A] <;> rfl)
  have h_B : w1.heap[gB]? = some (.cells #[.int .i64 c, .int .i64 d] 24 (0, 0)) := by
    refine Hand.kb hb1 ?_; first | with_reducible exact g_B | (simp (disch := first | omega | (simp only [Hand.sa, Hand.ss, Hand.sd, Hand.sn]; first | done | omega)) only [Hand.q2, Hand.q1, Hand.q5, Hand.q6, Hand.q4, Hand.q3, g_B] <;> rfl)
  have h_C : w1.heap[gC]? = some (.cells #[.int .i64 e, .int .i64 f] 24 (0, 0)) := by
    refine Hand.kb hb1 ?_; first | with_reducible exact g_C | (simp (disch := first | omega | (simp only [Hand.sa, Hand.ss, Hand.sd, Hand.sn]; first | done | omega)) only [Hand.q2, Hand.q1, Hand.q5, Hand.q6, Hand.q4, Hand.q3, g_C] <;> rfl)
  have h_X : w1.heap[gX]? = some (.cells #[.int .i64 p2, .int .i64 q2] 24 (0, 0)) := by
    refine Hand.kb hb1 ?_; first | with_reducible exact g_X | (simp (disch := first | omega | (simp only [Hand.sa, Hand.ss, Hand.sd, Hand.sn]; first | done | omega)) only [Hand.q2, Hand.q1, Hand.q5, Hand.q6, Hand.q4, Hand.q3, g_X] <;> rfl)
  have h_S : w1.heap[gS]? = some (.cells #[.int .i64 p3, .int .i64 q3] 24 (0, 0)) := by
    refine Hand.kb hb1 ?_; first | with_reducible exact g_S | (simp (disch := first | omega | (simp only [Hand.sa, Hand.ss, Hand.sd, Hand.sn]; first | done | omega)) only [Hand.q2, Hand.q1, Hand.q5, Hand.q6, Hand.q4, Hand.q3, g_S] <;> rfl)
  have hB' : Below w.heap.size w w1 := Hand.stepB hb1 (by repeat (with_reducible first | apply hB | apply Below.drew | apply pw_below_drewN | (apply Below.setCell; rotate_left; (dsimp only; omega)) | (apply Below.alloc; rotate_left; (first | omega | (simp only [Hand.sa, Hand.ss, Hand.sd, Hand.sn]; omega))))) (Nat.le_refl _)
  clear HG hB g_A g_B g_C g_X g_S zw z_A z1_A z2_A y0_A y1_A c_A_0 f_A_0 c_A_1 f_A_1 z_B z1_B z2_B y0_B y1_B c_B_0 f_B_0 c_B_1 f_B_1 z_C z1_C z2_C y0_C y1_C c_C_0 f_C_0 c_C_1 f_C_1 z_X z1_X z2_X y0_X y1_X c_X_0 f_X_0 c_X_1 f_X_1 z_S z1_S z2_S y0_S y1_S c_S_0 f_S_0 c_S_1 f_S_1
  clear hb1
  have g_A := h_A
  have g_B := h_B
  have g_C := h_C
  have g_X := h_X
  have g_S := h_S
  have hB := hB'
  clear hB' h_A h_B h_C h_X h_S
  obtain ⟨z_A, z1_A, z2_A, y0_A, y1_A⟩ := Hand.hz g_A
  obtain ⟨c_A_0, f_A_0, c_A_1, f_A_1⟩ := Hand.hc2 g_A
  obtain ⟨z_B, z1_B, z2_B, y0_B, y1_B⟩ := Hand.hz g_B
  obtain ⟨c_B_0, f_B_0, c_B_1, f_B_1⟩ := Hand.hc2 g_B
  obtain ⟨z_C, z1_C, z2_C, y0_C, y1_C⟩ := Hand.hz g_C
  obtain ⟨c_C_0, f_C_0, c_C_1, f_C_1⟩ := Hand.hc2 g_C
  obtain ⟨z_X, z1_X, z2_X, y0_X, y1_X⟩ := Hand.hz g_X
  obtain ⟨c_X_0, f_X_0, c_X_1, f_X_1⟩ := Hand.hc2 g_X
  obtain ⟨z_S, z1_S, z2_S, y0_S, y1_S⟩ := Hand.hz g_S
  obtain ⟨c_S_0, f_S_0, c_S_1, f_S_1⟩ := Hand.hc2 g_S
  have zw : w.heap.size ≤ w1.heap.size := hB.size
  have HG := Lib.hid (And.intro g_A (And.intro g_B (And.intro g_C (And.intro g_X (And.intro g_S (hB))))))
  clear g_A g_B g_C g_X g_S hB
  go_wp2
  refine HK12.out _ _ ?_
  rw [ringsE13]
  refine wp_seq_k (fun K13 hK13 => ?_)
  have HK13 := Lib.hid hK13
  clear hK13
  conv => arg 2; whnf
  go_wp2_with fail
  with_reducible refine (F0.out _).mono ?_
  rintro e w2 ⟨rfl, hb2⟩
  obtain ⟨g_A, g_B, g_C, g_X, g_S, hB⟩ := HG.out
  have h_A : w2.heap[gA]? = some (.cells #[.int .i64 a, .int .i64 b] 24 (0, 0)) := by
    refine Hand.kb hb2 ?_; first | with_reducible exact g_A | (simp (disch := first | omega | (simp only [Hand.sa, Hand.ss, Hand.sd, Hand.sn]; first | done | omega)) only [Hand.q2, Hand.q1, Hand.q5, Hand.q6, Hand.q4, Hand.q3, g_A] <;> rfl)
  have h_B : w2.heap[gB]? = some (.cells #[.int .i64 c, .int .i64 d] 24 (0, 0)) := by
    refine Hand.kb hb2 ?_; first | with_reducible exact g_B | (simp (disch := first | omega | (simp only [Hand.sa, Hand.ss, Hand.sd, Hand.sn]; first | done | omega)) only [Hand.q2, Hand.q1, Hand.q5, Hand.q6, Hand.q4, Hand.q3, g_B] <;> rfl)
  have h_C : w2.heap[gC]? = some (.cells #[.int .i64 e, .int .i64 f] 24 (0, 0)) := by
    refine Hand.kb hb2 ?_; first | with_reducible exact g_C | (simp (disch := first | omega | (simp only [Hand.sa, Hand.ss, Hand.sd, Hand.sn]; first | done | omega)) only [Hand.q2, Hand.q1, Hand.q5, Hand.q6, Hand.q4, Hand.q3, g_C] <;> rfl)
  have h_X : w2.heap[gX]? = some (.cells #[.int .i64 p2, .int .i64 q2] 24 (0, 0)) := by
    refine Hand.kb hb2 ?_; first | with_reducible exact g_X | (simp (disch := first | omega | (simp only [Hand.sa, Hand.ss, Hand.sd, Hand.sn]; first | done | omega)) only [Hand.q2, Hand.q1, Hand.q5, Hand.q6, Hand.q4, Hand.q3, g_X] <;> rfl)
  have h_S : w2.heap[gS]? = some (.cells #[.int .i64 p3, .int .i64 q3] 24 (0, 0)) := by
    refine Hand.kb hb2 ?_; first | with_reducible exact g_S | (simp (disch := first | omega | (simp only [Hand.sa, Hand.ss, Hand.sd, Hand.sn]; first | done | omega)) only [Hand.q2, Hand.q1, Hand.q5, Hand.q6, Hand.q4, Hand.q3, g_S] <;> rfl)
  have h_Z : w2.heap[w1.heap.size]? = some (.cells #[.int .i64 p4, .int .i64 q4] 24 (0, 0)) := by
    refine Hand.kb hb2 ?_; simp (disch := first | omega | (simp only [Hand.sa, Hand.ss, Hand.sd, Hand.sn]; first | done | omega)) only [Hand.q2, Hand.q1, Hand.q5, Hand.q6, Hand.q4, Hand.q3] <;> rfl
  have hB' : Below w.heap.size w w2 := Hand.stepB hb2 (by repeat (with_reducible first | apply hB | apply Below.drew | apply pw_below_drewN | (apply Below.setCell; rotate_left; (dsimp only; omega)) | (apply Below.alloc; rotate_left; (first | omega | (simp only [Hand.sa, Hand.ss, Hand.sd, Hand.sn]; omega))))) (Nat.le_refl _)
  clear HG hB g_A g_B g_C g_X g_S zw z_A z1_A z2_A y0_A y1_A c_A_0 f_A_0 c_A_1 f_A_1 z_B z1_B z2_B y0_B y1_B c_B_0 f_B_0 c_B_1 f_B_1 z_C z1_C z2_C y0_C y1_C c_C_0 f_C_0 c_C_1 f_C_1 z_X z1_X z2_X y0_X y1_X c_X_0 f_X_0 c_X_1 f_X_1 z_S z1_S z2_S y0_S y1_S c_S_0 f_S_0 c_S_1 f_S_1
  clear hb2
  have g_A := h_A
  have g_B := h_B
  have g_C := h_C
  have g_X := h_X
  have g_S := h_S
  have g_Z := h_Z
  have hB := hB'
  clear hB' h_A h_B h_C h_X h_S h_Z
  obtain ⟨z_A, z1_A, z2_A, y0_A, y1_A⟩ := Hand.hz g_A
  obtain ⟨c_A_0, f_A_0, c_A_1, f_A_1⟩ := Hand.hc2 g_A
  obtain ⟨z_B, z1_B, z2_B, y0_B, y1_B⟩ := Hand.hz g_B
  obtain ⟨c_B_0, f_B_0, c_B_1, f_B_1⟩ := Hand.hc2 g_B
  obtain ⟨z_C, z1_C, z2_C, y0_C, y1_C⟩ := Hand.hz g_C
  obtain ⟨c_C_0, f_C_0, c_C_1, f_C_1⟩ := Hand.hc2 g_C
  obtain ⟨z_X, z1_X, z2_X, y0_X, y1_X⟩ := Hand.hz g_X
  obtain ⟨c_X_0, f_X_0, c_X_1, f_X_1⟩ := Hand.hc2 g_X
  obtain ⟨z_S, z1_S, z2_S, y0_S, y1_S⟩ := Hand.hz g_S
  obtain ⟨c_S_0, f_S_0, c_S_1, f_S_1⟩ := Hand.hc2 g_S
  obtain ⟨z_Z, z1_Z, z2_Z, y0_Z, y1_Z⟩ := Hand.hz g_Z
  obtain ⟨c_Z_0, f_Z_0, c_Z_1, f_Z_1⟩ := Hand.hc2 g_Z
  have zw : w.heap.size ≤ w2.heap.size := hB.size
  have HG := Lib.hid (And.intro g_A (And.intro g_B (And.intro g_C (And.intro g_X (And.intro g_S (And.intro g_Z (hB)))))))
  clear g_A g_B g_C g_X g_S g_Z hB
  go_wp2
  obtain ⟨g_A, g_B, g_C, g_X, g_S, g_Z, hB⟩ := HG.out
  refine HK13.out _ _ (hN ?_ ?_)
  · repeat' (with_reducible apply And.intro)
    all_goals (repeat (with_reducible first | exact g_A | exact g_B | exact g_C | exact g_X | exact g_S | exact Hand.kn (by first | omega | (simp only [Hand.sa, Hand.ss, Hand.sd, Hand.sn]; first | done | omega)) | refine Hand.ka ?_ | refine Hand.kd ?_ | refine Hand.ks (by first | omega | (simp only [Hand.sa, Hand.ss, Hand.sd, Hand.sn]; first | done | omega)) ?_))
  · repeat (with_reducible first | exact hB | apply Below.drew | (apply Below.setCell; rotate_left; (dsimp only; first | omega | (simp only [Hand.sa, Hand.ss, Hand.sd, Hand.sn]; first | done | omega))) | (apply Below.alloc; rotate_left; (first | omega | (simp only [Hand.sa, Hand.ss, Hand.sd, Hand.sn]; first | done | omega))))
set_option maxHeartbeats 8000000 in
set_option maxRecDepth 100000 in
theorem rings4_m (w : World) (a b c d e f p2 q2 p3 q3 r3 p4 q4 r4 : Int)
    (hN : At14 w a b c d e f p2 q2 p3 q3 0 r3)
    (M4 : RT 28 #[.agg #[.int .i64 c, .int .i64 d], .agg #[.int .i64 e, .int .i64 f]] p4 q4 r4)
    (F0 : RB 33 #[.int .i64 0] true)
    (F1 : RB 33 #[.int .i64 r4] false) : At12 w a b c d e f p2 q2 p3 q3 0 r3 := by
  intro s7 s8 s9 s10 s13 s14 s15 s16 s17 s18 s21 s22 s23 s24 s25 s26 s27 s28 s29 s30 s31 s32 s33 s34 s35 s36 s37 s38 s39 s40 s41 s42 s43 s44 s45 s46 s47 s48 s49 s50 s51 s52 s53 s54 s55 s56 s57 s58 s59 s60 s61 s62 s63 s64 s65 s66 s67 s68 s69 s70 s71 s72 s73 s74 s75 s76 s77 s78 s79 s80 s81 s82 s83 s84 s85 s86 s87 s88 s89 s90 s91 s92 s93 s94 s95 s96 s97 s98 s99 s100 s101 s102 s103 s104 s105 s106 s107 s108 s109 s110 s111 s112 s113 s114 s115 s116 s117 s118 s119 s120 s121 s122 s123 s124 s125 s126 s127 s128 s129 s130 s131 s132 s133 s134 s135 s136 s137 s138 s139 s140 s141 s142 s143 s144 s145 s146 s147 s148 s149 s150 s151 s152 s153 s154 s155 s156 s157 s158 s159 s160 s161 s162 s163 s164 s165 s166 s167 s168 s169 s170 s171 s172 s173 s174 s175 s176 s177 s178 s179 s180 s181 s182 s183 s184 s185 s186 s187 s188 s189 s190 s191 s192 s193 s194 s195 s196 s197 s198 s199 s200 s201 s202 s203 s204 s205 s206 s207 s208 s209 s210 s211 s212 s213 s214 s215 s216 s217 s218 s219 s220 s221 s222 s223 s224 s225 gA gB gC gX gS W hfacts hB
  obtain ⟨g_A, g_B, g_C, g_X, g_S⟩ := hfacts
  obtain ⟨z_A, z1_A, z2_A, y0_A, y1_A⟩ := Hand.hz g_A
  obtain ⟨c_A_0, f_A_0, c_A_1, f_A_1⟩ := Hand.hc2 g_A
  obtain ⟨z_B, z1_B, z2_B, y0_B, y1_B⟩ := Hand.hz g_B
  obtain ⟨c_B_0, f_B_0, c_B_1, f_B_1⟩ := Hand.hc2 g_B
  obtain ⟨z_C, z1_C, z2_C, y0_C, y1_C⟩ := Hand.hz g_C
  obtain ⟨c_C_0, f_C_0, c_C_1, f_C_1⟩ := Hand.hc2 g_C
  obtain ⟨z_X, z1_X, z2_X, y0_X, y1_X⟩ := Hand.hz g_X
  obtain ⟨c_X_0, f_X_0, c_X_1, f_X_1⟩ := Hand.hc2 g_X
  obtain ⟨z_S, z1_S, z2_S, y0_S, y1_S⟩ := Hand.hz g_S
  obtain ⟨c_S_0, f_S_0, c_S_1, f_S_1⟩ := Hand.hc2 g_S
  have zw : w.heap.size ≤ W.heap.size := hB.size
  have HG := Lib.hid (And.intro g_A (And.intro g_B (And.intro g_C (And.intro g_X (And.intro g_S (hB))))))
  clear g_A g_B g_C g_X g_S hB
  rw [ringsE12]
  refine wp_seq_k (fun K12 hK12 => ?_)
  have HK12 := Lib.hid hK12
  clear hK12
  conv => arg 2; whnf
  go_wp2_with fail
  with_reducible refine (M4.out _).mono ?_
  rintro e w1 ⟨rfl, hb1⟩
  obtain ⟨g_A, g_B, g_C, g_X, g_S, hB⟩ := HG.out
  have h_A : w1.heap[gA]? = some (.cells #[.int .i64 a, .int .i64 b] 24 (0, 0)) := by
    refine Hand.kb hb1 ?_; first | with_reducible exact g_A | (simp (disch := first | omega | (simp only [Hand.sa, Hand.ss, Hand.sd, Hand.sn]; first | done | omega)) only [Hand.q2, Hand.q1, Hand.q5, Hand.q6, Hand.q4, Hand.q3, g_A] <;> rfl)
  have h_B : w1.heap[gB]? = some (.cells #[.int .i64 c, .int .i64 d] 24 (0, 0)) := by
    refine Hand.kb hb1 ?_; first | with_reducible exact g_B | (simp (disch := first | omega | (simp only [Hand.sa, Hand.ss, Hand.sd, Hand.sn]; first | done | omega)) only [Hand.q2, Hand.q1, Hand.q5, Hand.q6, Hand.q4, Hand.q3, g_B] <;> rfl)
  have h_C : w1.heap[gC]? = some (.cells #[.int .i64 e, .int .i64 f] 24 (0, 0)) := by
    refine Hand.kb hb1 ?_; first | with_reducible exact g_C | (simp (disch := first | omega | (simp only [Hand.sa, Hand.ss, Hand.sd, Hand.sn]; first | done | omega)) only [Hand.q2, Hand.q1, Hand.q5, Hand.q6, Hand.q4, Hand.q3, g_C] <;> rfl)
  have h_X : w1.heap[gX]? = some (.cells #[.int .i64 p2, .int .i64 q2] 24 (0, 0)) := by
    refine Hand.kb hb1 ?_; first | with_reducible exact g_X | (simp (disch := first | omega | (simp only [Hand.sa, Hand.ss, Hand.sd, Hand.sn]; first | done | omega)) only [Hand.q2, Hand.q1, Hand.q5, Hand.q6, Hand.q4, Hand.q3, g_X] <;> rfl)
  have h_S : w1.heap[gS]? = some (.cells #[.int .i64 p3, .int .i64 q3] 24 (0, 0)) := by
    refine Hand.kb hb1 ?_; first | with_reducible exact g_S | (simp (disch := first | omega | (simp only [Hand.sa, Hand.ss, Hand.sd, Hand.sn]; first | done | omega)) only [Hand.q2, Hand.q1, Hand.q5, Hand.q6, Hand.q4, Hand.q3, g_S] <;> rfl)
  have hB' : Below w.heap.size w w1 := Hand.stepB hb1 (by repeat (with_reducible first | apply hB | apply Below.drew | apply pw_below_drewN | (apply Below.setCell; rotate_left; (dsimp only; omega)) | (apply Below.alloc; rotate_left; (first | omega | (simp only [Hand.sa, Hand.ss, Hand.sd, Hand.sn]; omega))))) (Nat.le_refl _)
  clear HG hB g_A g_B g_C g_X g_S zw z_A z1_A z2_A y0_A y1_A c_A_0 f_A_0 c_A_1 f_A_1 z_B z1_B z2_B y0_B y1_B c_B_0 f_B_0 c_B_1 f_B_1 z_C z1_C z2_C y0_C y1_C c_C_0 f_C_0 c_C_1 f_C_1 z_X z1_X z2_X y0_X y1_X c_X_0 f_X_0 c_X_1 f_X_1 z_S z1_S z2_S y0_S y1_S c_S_0 f_S_0 c_S_1 f_S_1
  clear hb1
  have g_A := h_A
  have g_B := h_B
  have g_C := h_C
  have g_X := h_X
  have g_S := h_S
  have hB := hB'
  clear hB' h_A h_B h_C h_X h_S
  obtain ⟨z_A, z1_A, z2_A, y0_A, y1_A⟩ := Hand.hz g_A
  obtain ⟨c_A_0, f_A_0, c_A_1, f_A_1⟩ := Hand.hc2 g_A
  obtain ⟨z_B, z1_B, z2_B, y0_B, y1_B⟩ := Hand.hz g_B
  obtain ⟨c_B_0, f_B_0, c_B_1, f_B_1⟩ := Hand.hc2 g_B
  obtain ⟨z_C, z1_C, z2_C, y0_C, y1_C⟩ := Hand.hz g_C
  obtain ⟨c_C_0, f_C_0, c_C_1, f_C_1⟩ := Hand.hc2 g_C
  obtain ⟨z_X, z1_X, z2_X, y0_X, y1_X⟩ := Hand.hz g_X
  obtain ⟨c_X_0, f_X_0, c_X_1, f_X_1⟩ := Hand.hc2 g_X
  obtain ⟨z_S, z1_S, z2_S, y0_S, y1_S⟩ := Hand.hz g_S
  obtain ⟨c_S_0, f_S_0, c_S_1, f_S_1⟩ := Hand.hc2 g_S
  have zw : w.heap.size ≤ w1.heap.size := hB.size
  have HG := Lib.hid (And.intro g_A (And.intro g_B (And.intro g_C (And.intro g_X (And.intro g_S (hB))))))
  clear g_A g_B g_C g_X g_S hB
  go_wp2
  refine HK12.out _ _ ?_
  rw [ringsE13]
  refine wp_seq_k (fun K13 hK13 => ?_)
  have HK13 := Lib.hid hK13
  clear hK13
  conv => arg 2; whnf
  go_wp2_with fail
  with_reducible refine (F0.out _).mono ?_
  rintro e w2 ⟨rfl, hb2⟩
  obtain ⟨g_A, g_B, g_C, g_X, g_S, hB⟩ := HG.out
  have h_A : w2.heap[gA]? = some (.cells #[.int .i64 a, .int .i64 b] 24 (0, 0)) := by
    refine Hand.kb hb2 ?_; first | with_reducible exact g_A | (simp (disch := first | omega | (simp only [Hand.sa, Hand.ss, Hand.sd, Hand.sn]; first | done | omega)) only [Hand.q2, Hand.q1, Hand.q5, Hand.q6, Hand.q4, Hand.q3, g_A] <;> rfl)
  have h_B : w2.heap[gB]? = some (.cells #[.int .i64 c, .int .i64 d] 24 (0, 0)) := by
    refine Hand.kb hb2 ?_; first | with_reducible exact g_B | (simp (disch := first | omega | (simp only [Hand.sa, Hand.ss, Hand.sd, Hand.sn]; first | done | omega)) only [Hand.q2, Hand.q1, Hand.q5, Hand.q6, Hand.q4, Hand.q3, g_B] <;> rfl)
  have h_C : w2.heap[gC]? = some (.cells #[.int .i64 e, .int .i64 f] 24 (0, 0)) := by
    refine Hand.kb hb2 ?_; first | with_reducible exact g_C | (simp (disch := first | omega | (simp only [Hand.sa, Hand.ss, Hand.sd, Hand.sn]; first | done | omega)) only [Hand.q2, Hand.q1, Hand.q5, Hand.q6, Hand.q4, Hand.q3, g_C] <;> rfl)
  have h_X : w2.heap[gX]? = some (.cells #[.int .i64 p2, .int .i64 q2] 24 (0, 0)) := by
    refine Hand.kb hb2 ?_; first | with_reducible exact g_X | (simp (disch := first | omega | (simp only [Hand.sa, Hand.ss, Hand.sd, Hand.sn]; first | done | omega)) only [Hand.q2, Hand.q1, Hand.q5, Hand.q6, Hand.q4, Hand.q3, g_X] <;> rfl)
  have h_S : w2.heap[gS]? = some (.cells #[.int .i64 p3, .int .i64 q3] 24 (0, 0)) := by
    refine Hand.kb hb2 ?_; first | with_reducible exact g_S | (simp (disch := first | omega | (simp only [Hand.sa, Hand.ss, Hand.sd, Hand.sn]; first | done | omega)) only [Hand.q2, Hand.q1, Hand.q5, Hand.q6, Hand.q4, Hand.q3, g_S] <;> rfl)
  have h_Z : w2.heap[w1.heap.size]? = some (.cells #[.int .i64 p4, .int .i64 q4] 24 (0, 0)) := by
    refine Hand.kb hb2 ?_; simp (disch := first | omega | (simp only [Hand.sa, Hand.ss, Hand.sd, Hand.sn]; first | done | omega)) only [Hand.q2, Hand.q1, Hand.q5, Hand.q6, Hand.q4, Hand.q3] <;> rfl
  have hB' : Below w.heap.size w w2 := Hand.stepB hb2 (by repeat (with_reducible first | apply hB | apply Below.drew | apply pw_below_drewN | (apply Below.setCell; rotate_left; (dsimp only; omega)) | (apply Below.alloc; rotate_left; (first | omega | (simp only [Hand.sa, Hand.ss, Hand.sd, Hand.sn]; omega))))) (Nat.le_refl _)
  clear HG hB g_A g_B g_C g_X g_S zw z_A z1_A z2_A y0_A y1_A c_A_0 f_A_0 c_A_1 f_A_1 z_B z1_B z2_B y0_B y1_B c_B_0 f_B_0 c_B_1 f_B_1 z_C z1_C z2_C y0_C y1_C c_C_0 f_C_0 c_C_1 f_C_1 z_X z1_X z2_X y0_X y1_X c_X_0 f_X_0 c_X_1 f_X_1 z_S z1_S z2_S y0_S y1_S c_S_0 f_S_0 c_S_1 f_S_1
  clear hb2
  have g_A := h_A
  have g_B := h_B
  have g_C := h_C
  have g_X := h_X
  have g_S := h_S
  have g_Z := h_Z
  have hB := hB'
  clear hB' h_A h_B h_C h_X h_S h_Z
  obtain ⟨z_A, z1_A, z2_A, y0_A, y1_A⟩ := Hand.hz g_A
  obtain ⟨c_A_0, f_A_0, c_A_1, f_A_1⟩ := Hand.hc2 g_A
  obtain ⟨z_B, z1_B, z2_B, y0_B, y1_B⟩ := Hand.hz g_B
  obtain ⟨c_B_0, f_B_0, c_B_1, f_B_1⟩ := Hand.hc2 g_B
  obtain ⟨z_C, z1_C, z2_C, y0_C, y1_C⟩ := Hand.hz g_C
  obtain ⟨c_C_0, f_C_0, c_C_1, f_C_1⟩ := Hand.hc2 g_C
  obtain ⟨z_X, z1_X, z2_X, y0_X, y1_X⟩ := Hand.hz g_X
  obtain ⟨c_X_0, f_X_0, c_X_1, f_X_1⟩ := Hand.hc2 g_X
  obtain ⟨z_S, z1_S, z2_S, y0_S, y1_S⟩ := Hand.hz g_S
  obtain ⟨c_S_0, f_S_0, c_S_1, f_S_1⟩ := Hand.hc2 g_S
  obtain ⟨z_Z, z1_Z, z2_Z, y0_Z, y1_Z⟩ := Hand.hz g_Z
  obtain ⟨c_Z_0, f_Z_0, c_Z_1, f_Z_1⟩ := Hand.hc2 g_Z
  have zw : w.heap.size ≤ w2.heap.size := hB.size
  have HG := Lib.hid (And.intro g_A (And.intro g_B (And.intro g_C (And.intro g_X (And.intro g_S (And.intro g_Z (hB)))))))
  clear g_A g_B g_C g_X g_S g_Z hB
  go_wp2_with fail
  with_reducible refine (F1.out _).mono ?_
  rintro e w3 ⟨rfl, hb3⟩
  obtain ⟨g_A, g_B, g_C, g_X, g_S, g_Z, hB⟩ := HG.out
  have h_A : w3.heap[gA]? = some (.cells #[.int .i64 a, .int .i64 b] 24 (0, 0)) := by
    refine Hand.kb hb3 ?_; first | with_reducible exact g_A | (simp (disch := first | omega | (simp only [Hand.sa, Hand.ss, Hand.sd, Hand.sn]; first | done | omega)) only [Hand.q2, Hand.q1, Hand.q5, Hand.q6, Hand.q4, Hand.q3, g_A] <;> rfl)
  have h_B : w3.heap[gB]? = some (.cells #[.int .i64 c, .int .i64 d] 24 (0, 0)) := by
    refine Hand.kb hb3 ?_; first | with_reducible exact g_B | (simp (disch := first | omega | (simp only [Hand.sa, Hand.ss, Hand.sd, Hand.sn]; first | done | omega)) only [Hand.q2, Hand.q1, Hand.q5, Hand.q6, Hand.q4, Hand.q3, g_B] <;> rfl)
  have h_C : w3.heap[gC]? = some (.cells #[.int .i64 e, .int .i64 f] 24 (0, 0)) := by
    refine Hand.kb hb3 ?_; first | with_reducible exact g_C | (simp (disch := first | omega | (simp only [Hand.sa, Hand.ss, Hand.sd, Hand.sn]; first | done | omega)) only [Hand.q2, Hand.q1, Hand.q5, Hand.q6, Hand.q4, Hand.q3, g_C] <;> rfl)
  have h_X : w3.heap[gX]? = some (.cells #[.int .i64 p2, .int .i64 q2] 24 (0, 0)) := by
    refine Hand.kb hb3 ?_; first | with_reducible exact g_X | (simp (disch := first | omega | (simp only [Hand.sa, Hand.ss, Hand.sd, Hand.sn]; first | done | omega)) only [Hand.q2, Hand.q1, Hand.q5, Hand.q6, Hand.q4, Hand.q3, g_X] <;> rfl)
  have h_S : w3.heap[gS]? = some (.cells #[.int .i64 p3, .int .i64 q3] 24 (0, 0)) := by
    refine Hand.kb hb3 ?_; first | with_reducible exact g_S | (simp (disch := first | omega | (simp only [Hand.sa, Hand.ss, Hand.sd, Hand.sn]; first | done | omega)) only [Hand.q2, Hand.q1, Hand.q5, Hand.q6, Hand.q4, Hand.q3, g_S] <;> rfl)
  have h_Z : w3.heap[w1.heap.size]? = some (.cells #[.int .i64 p4, .int .i64 q4] 24 (0, 0)) := by
    refine Hand.kb hb3 ?_; first | with_reducible exact g_Z | (simp (disch := first | omega | (simp only [Hand.sa, Hand.ss, Hand.sd, Hand.sn]; first | done | omega)) only [Hand.q2, Hand.q1, Hand.q5, Hand.q6, Hand.q4, Hand.q3, g_Z] <;> rfl)
  have hB' : Below w.heap.size w w3 := Hand.stepB hb3 (by repeat (with_reducible first | apply hB | apply Below.drew | apply pw_below_drewN | (apply Below.setCell; rotate_left; (dsimp only; omega)) | (apply Below.alloc; rotate_left; (first | omega | (simp only [Hand.sa, Hand.ss, Hand.sd, Hand.sn]; omega))))) (Nat.le_refl _)
  clear HG hB g_A g_B g_C g_X g_S g_Z zw z_A z1_A z2_A y0_A y1_A c_A_0 f_A_0 c_A_1 f_A_1 z_B z1_B z2_B y0_B y1_B c_B_0 f_B_0 c_B_1 f_B_1 z_C z1_C z2_C y0_C y1_C c_C_0 f_C_0 c_C_1 f_C_1 z_X z1_X z2_X y0_X y1_X c_X_0 f_X_0 c_X_1 f_X_1 z_S z1_S z2_S y0_S y1_S c_S_0 f_S_0 c_S_1 f_S_1 z_Z z1_Z z2_Z y0_Z y1_Z c_Z_0 f_Z_0 c_Z_1 f_Z_1
  clear hb3
  have g_A := h_A
  have g_B := h_B
  have g_C := h_C
  have g_X := h_X
  have g_S := h_S
  have g_Z := h_Z
  have hB := hB'
  clear hB' h_A h_B h_C h_X h_S h_Z
  obtain ⟨z_A, z1_A, z2_A, y0_A, y1_A⟩ := Hand.hz g_A
  obtain ⟨c_A_0, f_A_0, c_A_1, f_A_1⟩ := Hand.hc2 g_A
  obtain ⟨z_B, z1_B, z2_B, y0_B, y1_B⟩ := Hand.hz g_B
  obtain ⟨c_B_0, f_B_0, c_B_1, f_B_1⟩ := Hand.hc2 g_B
  obtain ⟨z_C, z1_C, z2_C, y0_C, y1_C⟩ := Hand.hz g_C
  obtain ⟨c_C_0, f_C_0, c_C_1, f_C_1⟩ := Hand.hc2 g_C
  obtain ⟨z_X, z1_X, z2_X, y0_X, y1_X⟩ := Hand.hz g_X
  obtain ⟨c_X_0, f_X_0, c_X_1, f_X_1⟩ := Hand.hc2 g_X
  obtain ⟨z_S, z1_S, z2_S, y0_S, y1_S⟩ := Hand.hz g_S
  obtain ⟨c_S_0, f_S_0, c_S_1, f_S_1⟩ := Hand.hc2 g_S
  obtain ⟨z_Z, z1_Z, z2_Z, y0_Z, y1_Z⟩ := Hand.hz g_Z
  obtain ⟨c_Z_0, f_Z_0, c_Z_1, f_Z_1⟩ := Hand.hc2 g_Z
  have zw : w.heap.size ≤ w3.heap.size := hB.size
  have HG := Lib.hid (And.intro g_A (And.intro g_B (And.intro g_C (And.intro g_X (And.intro g_S (And.intro g_Z (hB)))))))
  clear g_A g_B g_C g_X g_S g_Z hB
  go_wp2
  obtain ⟨g_A, g_B, g_C, g_X, g_S, g_Z, hB⟩ := HG.out
  refine HK13.out _ _ (hN ?_ ?_)
  · repeat' (with_reducible apply And.intro)
    all_goals (repeat (with_reducible first | exact g_A | exact g_B | exact g_C | exact g_X | exact g_S | exact Hand.kn (by first | omega | (simp only [Hand.sa, Hand.ss, Hand.sd, Hand.sn]; first | done | omega)) | refine Hand.ka ?_ | refine Hand.kd ?_ | refine Hand.ks (by first | omega | (simp only [Hand.sa, Hand.ss, Hand.sd, Hand.sn]; first | done | omega)) ?_))
  · repeat (with_reducible first | exact hB | apply Below.drew | (apply Below.setCell; rotate_left; (dsimp only; first | omega | (simp only [Hand.sa, Hand.ss, Hand.sd, Hand.sn]; first | done | omega))) | (apply Below.alloc; rotate_left; (first | omega | (simp only [Hand.sa, Hand.ss, Hand.sd, Hand.sn]; first | done | omega))))
set_option maxHeartbeats 8000000 in
set_option maxRecDepth 100000 in
theorem rings4 (w : World) (a b c d e f p2 q2 p3 q3 r3 p4 q4 l1 l2 l3 : Int)
    (hN : At14 w a b c d e f p2 q2 p3 q3 0 r3)
    (M4 : RT 28 #[.agg #[.int .i64 c, .int .i64 d], .agg #[.int .i64 e, .int .i64 f]] p4 q4 0)
    (F0 : RB 33 #[.int .i64 0] true)
    (F1 : RB 33 #[.int .i64 0] true)
    (L : RT 28 #[.agg #[.int .i64 p2, .int .i64 q2], .agg #[.int .i64 e, .int .i64 f]] l1 l2 l3)
    (R : RT 28 #[.agg #[.int .i64 a, .int .i64 b], .agg #[.int .i64 p4, .int .i64 q4]] l1 l2 l3) : At12 w a b c d e f p2 q2 p3 q3 0 r3 := by
  intro s7 s8 s9 s10 s13 s14 s15 s16 s17 s18 s21 s22 s23 s24 s25 s26 s27 s28 s29 s30 s31 s32 s33 s34 s35 s36 s37 s38 s39 s40 s41 s42 s43 s44 s45 s46 s47 s48 s49 s50 s51 s52 s53 s54 s55 s56 s57 s58 s59 s60 s61 s62 s63 s64 s65 s66 s67 s68 s69 s70 s71 s72 s73 s74 s75 s76 s77 s78 s79 s80 s81 s82 s83 s84 s85 s86 s87 s88 s89 s90 s91 s92 s93 s94 s95 s96 s97 s98 s99 s100 s101 s102 s103 s104 s105 s106 s107 s108 s109 s110 s111 s112 s113 s114 s115 s116 s117 s118 s119 s120 s121 s122 s123 s124 s125 s126 s127 s128 s129 s130 s131 s132 s133 s134 s135 s136 s137 s138 s139 s140 s141 s142 s143 s144 s145 s146 s147 s148 s149 s150 s151 s152 s153 s154 s155 s156 s157 s158 s159 s160 s161 s162 s163 s164 s165 s166 s167 s168 s169 s170 s171 s172 s173 s174 s175 s176 s177 s178 s179 s180 s181 s182 s183 s184 s185 s186 s187 s188 s189 s190 s191 s192 s193 s194 s195 s196 s197 s198 s199 s200 s201 s202 s203 s204 s205 s206 s207 s208 s209 s210 s211 s212 s213 s214 s215 s216 s217 s218 s219 s220 s221 s222 s223 s224 s225 gA gB gC gX gS W hfacts hB
  obtain ⟨g_A, g_B, g_C, g_X, g_S⟩ := hfacts
  obtain ⟨z_A, z1_A, z2_A, y0_A, y1_A⟩ := Hand.hz g_A
  obtain ⟨c_A_0, f_A_0, c_A_1, f_A_1⟩ := Hand.hc2 g_A
  obtain ⟨z_B, z1_B, z2_B, y0_B, y1_B⟩ := Hand.hz g_B
  obtain ⟨c_B_0, f_B_0, c_B_1, f_B_1⟩ := Hand.hc2 g_B
  obtain ⟨z_C, z1_C, z2_C, y0_C, y1_C⟩ := Hand.hz g_C
  obtain ⟨c_C_0, f_C_0, c_C_1, f_C_1⟩ := Hand.hc2 g_C
  obtain ⟨z_X, z1_X, z2_X, y0_X, y1_X⟩ := Hand.hz g_X
  obtain ⟨c_X_0, f_X_0, c_X_1, f_X_1⟩ := Hand.hc2 g_X
  obtain ⟨z_S, z1_S, z2_S, y0_S, y1_S⟩ := Hand.hz g_S
  obtain ⟨c_S_0, f_S_0, c_S_1, f_S_1⟩ := Hand.hc2 g_S
  have zw : w.heap.size ≤ W.heap.size := hB.size
  have HG := Lib.hid (And.intro g_A (And.intro g_B (And.intro g_C (And.intro g_X (And.intro g_S (hB))))))
  clear g_A g_B g_C g_X g_S hB
  rw [ringsE12]
  refine wp_seq_k (fun K12 hK12 => ?_)
  have HK12 := Lib.hid hK12
  clear hK12
  conv => arg 2; whnf
  go_wp2_with fail
  with_reducible refine (M4.out _).mono ?_
  rintro e w1 ⟨rfl, hb1⟩
  obtain ⟨g_A, g_B, g_C, g_X, g_S, hB⟩ := HG.out
  have h_A : w1.heap[gA]? = some (.cells #[.int .i64 a, .int .i64 b] 24 (0, 0)) := by
    refine Hand.kb hb1 ?_; first | with_reducible exact g_A | (simp (disch := first | omega | (simp only [Hand.sa, Hand.ss, Hand.sd, Hand.sn]; first | done | omega)) only [Hand.q2, Hand.q1, Hand.q5, Hand.q6, Hand.q4, Hand.q3, g_A] <;> rfl)
  have h_B : w1.heap[gB]? = some (.cells #[.int .i64 c, .int .i64 d] 24 (0, 0)) := by
    refine Hand.kb hb1 ?_; first | with_reducible exact g_B | (simp (disch := first | omega | (simp only [Hand.sa, Hand.ss, Hand.sd, Hand.sn]; first | done | omega)) only [Hand.q2, Hand.q1, Hand.q5, Hand.q6, Hand.q4, Hand.q3, g_B] <;> rfl)
  have h_C : w1.heap[gC]? = some (.cells #[.int .i64 e, .int .i64 f] 24 (0, 0)) := by
    refine Hand.kb hb1 ?_; first | with_reducible exact g_C | (simp (disch := first | omega | (simp only [Hand.sa, Hand.ss, Hand.sd, Hand.sn]; first | done | omega)) only [Hand.q2, Hand.q1, Hand.q5, Hand.q6, Hand.q4, Hand.q3, g_C] <;> rfl)
  have h_X : w1.heap[gX]? = some (.cells #[.int .i64 p2, .int .i64 q2] 24 (0, 0)) := by
    refine Hand.kb hb1 ?_; first | with_reducible exact g_X | (simp (disch := first | omega | (simp only [Hand.sa, Hand.ss, Hand.sd, Hand.sn]; first | done | omega)) only [Hand.q2, Hand.q1, Hand.q5, Hand.q6, Hand.q4, Hand.q3, g_X] <;> rfl)
  have h_S : w1.heap[gS]? = some (.cells #[.int .i64 p3, .int .i64 q3] 24 (0, 0)) := by
    refine Hand.kb hb1 ?_; first | with_reducible exact g_S | (simp (disch := first | omega | (simp only [Hand.sa, Hand.ss, Hand.sd, Hand.sn]; first | done | omega)) only [Hand.q2, Hand.q1, Hand.q5, Hand.q6, Hand.q4, Hand.q3, g_S] <;> rfl)
  have hB' : Below w.heap.size w w1 := Hand.stepB hb1 (by repeat (with_reducible first | apply hB | apply Below.drew | apply pw_below_drewN | (apply Below.setCell; rotate_left; (dsimp only; omega)) | (apply Below.alloc; rotate_left; (first | omega | (simp only [Hand.sa, Hand.ss, Hand.sd, Hand.sn]; omega))))) (Nat.le_refl _)
  clear HG hB g_A g_B g_C g_X g_S zw z_A z1_A z2_A y0_A y1_A c_A_0 f_A_0 c_A_1 f_A_1 z_B z1_B z2_B y0_B y1_B c_B_0 f_B_0 c_B_1 f_B_1 z_C z1_C z2_C y0_C y1_C c_C_0 f_C_0 c_C_1 f_C_1 z_X z1_X z2_X y0_X y1_X c_X_0 f_X_0 c_X_1 f_X_1 z_S z1_S z2_S y0_S y1_S c_S_0 f_S_0 c_S_1 f_S_1
  clear hb1
  have g_A := h_A
  have g_B := h_B
  have g_C := h_C
  have g_X := h_X
  have g_S := h_S
  have hB := hB'
  clear hB' h_A h_B h_C h_X h_S
  obtain ⟨z_A, z1_A, z2_A, y0_A, y1_A⟩ := Hand.hz g_A
  obtain ⟨c_A_0, f_A_0, c_A_1, f_A_1⟩ := Hand.hc2 g_A
  obtain ⟨z_B, z1_B, z2_B, y0_B, y1_B⟩ := Hand.hz g_B
  obtain ⟨c_B_0, f_B_0, c_B_1, f_B_1⟩ := Hand.hc2 g_B
  obtain ⟨z_C, z1_C, z2_C, y0_C, y1_C⟩ := Hand.hz g_C
  obtain ⟨c_C_0, f_C_0, c_C_1, f_C_1⟩ := Hand.hc2 g_C
  obtain ⟨z_X, z1_X, z2_X, y0_X, y1_X⟩ := Hand.hz g_X
  obtain ⟨c_X_0, f_X_0, c_X_1, f_X_1⟩ := Hand.hc2 g_X
  obtain ⟨z_S, z1_S, z2_S, y0_S, y1_S⟩ := Hand.hz g_S
  obtain ⟨c_S_0, f_S_0, c_S_1, f_S_1⟩ := Hand.hc2 g_S
  have zw : w.heap.size ≤ w1.heap.size := hB.size
  have HG := Lib.hid (And.intro g_A (And.intro g_B (And.intro g_C (And.intro g_X (And.intro g_S (hB))))))
  clear g_A g_B g_C g_X g_S hB
  go_wp2
  refine HK12.out _ _ ?_
  rw [ringsE13]
  refine wp_seq_k (fun K13 hK13 => ?_)
  have HK13 := Lib.hid hK13
  clear hK13
  conv => arg 2; whnf
  go_wp2_with fail
  with_reducible refine (F0.out _).mono ?_
  rintro e w2 ⟨rfl, hb2⟩
  obtain ⟨g_A, g_B, g_C, g_X, g_S, hB⟩ := HG.out
  have h_A : w2.heap[gA]? = some (.cells #[.int .i64 a, .int .i64 b] 24 (0, 0)) := by
    refine Hand.kb hb2 ?_; first | with_reducible exact g_A | (simp (disch := first | omega | (simp only [Hand.sa, Hand.ss, Hand.sd, Hand.sn]; first | done | omega)) only [Hand.q2, Hand.q1, Hand.q5, Hand.q6, Hand.q4, Hand.q3, g_A] <;> rfl)
  have h_B : w2.heap[gB]? = some (.cells #[.int .i64 c, .int .i64 d] 24 (0, 0)) := by
    refine Hand.kb hb2 ?_; first | with_reducible exact g_B | (simp (disch := first | omega | (simp only [Hand.sa, Hand.ss, Hand.sd, Hand.sn]; first | done | omega)) only [Hand.q2, Hand.q1, Hand.q5, Hand.q6, Hand.q4, Hand.q3, g_B] <;> rfl)
  have h_C : w2.heap[gC]? = some (.cells #[.int .i64 e, .int .i64 f] 24 (0, 0)) := by
    refine Hand.kb hb2 ?_; first | with_reducible exact g_C | (simp (disch := first | omega | (simp only [Hand.sa, Hand.ss, Hand.sd, Hand.sn]; first | done | omega)) only [Hand.q2, Hand.q1, Hand.q5, Hand.q6, Hand.q4, Hand.q3, g_C] <;> rfl)
  have h_X : w2.heap[gX]? = some (.cells #[.int .i64 p2, .int .i64 q2] 24 (0, 0)) := by
    refine Hand.kb hb2 ?_; first | with_reducible exact g_X | (simp (disch := first | omega | (simp only [Hand.sa, Hand.ss, Hand.sd, Hand.sn]; first | done | omega)) only [Hand.q2, Hand.q1, Hand.q5, Hand.q6, Hand.q4, Hand.q3, g_X] <;> rfl)
  have h_S : w2.heap[gS]? = some (.cells #[.int .i64 p3, .int .i64 q3] 24 (0, 0)) := by
    refine Hand.kb hb2 ?_; first | with_reducible exact g_S | (simp (disch := first | omega | (simp only [Hand.sa, Hand.ss, Hand.sd, Hand.sn]; first | done | omega)) only [Hand.q2, Hand.q1, Hand.q5, Hand.q6, Hand.q4, Hand.q3, g_S] <;> rfl)
  have h_Z : w2.heap[w1.heap.size]? = some (.cells #[.int .i64 p4, .int .i64 q4] 24 (0, 0)) := by
    refine Hand.kb hb2 ?_; simp (disch := first | omega | (simp only [Hand.sa, Hand.ss, Hand.sd, Hand.sn]; first | done | omega)) only [Hand.q2, Hand.q1, Hand.q5, Hand.q6, Hand.q4, Hand.q3] <;> rfl
  have hB' : Below w.heap.size w w2 := Hand.stepB hb2 (by repeat (with_reducible first | apply hB | apply Below.drew | apply pw_below_drewN | (apply Below.setCell; rotate_left; (dsimp only; omega)) | (apply Below.alloc; rotate_left; (first | omega | (simp only [Hand.sa, Hand.ss, Hand.sd, Hand.sn]; omega))))) (Nat.le_refl _)
  clear HG hB g_A g_B g_C g_X g_S zw z_A z1_A z2_A y0_A y1_A c_A_0 f_A_0 c_A_1 f_A_1 z_B z1_B z2_B y0_B y1_B c_B_0 f_B_0 c_B_1 f_B_1 z_C z1_C z2_C y0_C y1_C c_C_0 f_C_0 c_C_1 f_C_1 z_X z1_X z2_X y0_X y1_X c_X_0 f_X_0 c_X_1 f_X_1 z_S z1_S z2_S y0_S y1_S c_S_0 f_S_0 c_S_1 f_S_1
  clear hb2
  have g_A := h_A
  have g_B := h_B
  have g_C := h_C
  have g_X := h_X
  have g_S := h_S
  have g_Z := h_Z
  have hB := hB'
  clear hB' h_A h_B h_C h_X h_S h_Z
  obtain ⟨z_A, z1_A, z2_A, y0_A, y1_A⟩ := Hand.hz g_A
  obtain ⟨c_A_0, f_A_0, c_A_1, f_A_1⟩ := Hand.hc2 g_A
  obtain ⟨z_B, z1_B, z2_B, y0_B, y1_B⟩ := Hand.hz g_B
  obtain ⟨c_B_0, f_B_0, c_B_1, f_B_1⟩ := Hand.hc2 g_B
  obtain ⟨z_C, z1_C, z2_C, y0_C, y1_C⟩ := Hand.hz g_C
  obtain ⟨c_C_0, f_C_0, c_C_1, f_C_1⟩ := Hand.hc2 g_C
  obtain ⟨z_X, z1_X, z2_X, y0_X, y1_X⟩ := Hand.hz g_X
  obtain ⟨c_X_0, f_X_0, c_X_1, f_X_1⟩ := Hand.hc2 g_X
  obtain ⟨z_S, z1_S, z2_S, y0_S, y1_S⟩ := Hand.hz g_S
  obtain ⟨c_S_0, f_S_0, c_S_1, f_S_1⟩ := Hand.hc2 g_S
  obtain ⟨z_Z, z1_Z, z2_Z, y0_Z, y1_Z⟩ := Hand.hz g_Z
  obtain ⟨c_Z_0, f_Z_0, c_Z_1, f_Z_1⟩ := Hand.hc2 g_Z
  have zw : w.heap.size ≤ w2.heap.size := hB.size
  have HG := Lib.hid (And.intro g_A (And.intro g_B (And.intro g_C (And.intro g_X (And.intro g_S (And.intro g_Z (hB)))))))
  clear g_A g_B g_C g_X g_S g_Z hB
  go_wp2_with fail
  with_reducible refine (F1.out _).mono ?_
  rintro e w3 ⟨rfl, hb3⟩
  obtain ⟨g_A, g_B, g_C, g_X, g_S, g_Z, hB⟩ := HG.out
  have h_A : w3.heap[gA]? = some (.cells #[.int .i64 a, .int .i64 b] 24 (0, 0)) := by
    refine Hand.kb hb3 ?_; first | with_reducible exact g_A | (simp (disch := first | omega | (simp only [Hand.sa, Hand.ss, Hand.sd, Hand.sn]; first | done | omega)) only [Hand.q2, Hand.q1, Hand.q5, Hand.q6, Hand.q4, Hand.q3, g_A] <;> rfl)
  have h_B : w3.heap[gB]? = some (.cells #[.int .i64 c, .int .i64 d] 24 (0, 0)) := by
    refine Hand.kb hb3 ?_; first | with_reducible exact g_B | (simp (disch := first | omega | (simp only [Hand.sa, Hand.ss, Hand.sd, Hand.sn]; first | done | omega)) only [Hand.q2, Hand.q1, Hand.q5, Hand.q6, Hand.q4, Hand.q3, g_B] <;> rfl)
  have h_C : w3.heap[gC]? = some (.cells #[.int .i64 e, .int .i64 f] 24 (0, 0)) := by
    refine Hand.kb hb3 ?_; first | with_reducible exact g_C | (simp (disch := first | omega | (simp only [Hand.sa, Hand.ss, Hand.sd, Hand.sn]; first | done | omega)) only [Hand.q2, Hand.q1, Hand.q5, Hand.q6, Hand.q4, Hand.q3, g_C] <;> rfl)
  have h_X : w3.heap[gX]? = some (.cells #[.int .i64 p2, .int .i64 q2] 24 (0, 0)) := by
    refine Hand.kb hb3 ?_; first | with_reducible exact g_X | (simp (disch := first | omega | (simp only [Hand.sa, Hand.ss, Hand.sd, Hand.sn]; first | done | omega)) only [Hand.q2, Hand.q1, Hand.q5, Hand.q6, Hand.q4, Hand.q3, g_X] <;> rfl)
  have h_S : w3.heap[gS]? = some (.cells #[.int .i64 p3, .int .i64 q3] 24 (0, 0)) := by
    refine Hand.kb hb3 ?_; first | with_reducible exact g_S | (simp (disch := first | omega | (simp only [Hand.sa, Hand.ss, Hand.sd, Hand.sn]; first | done | omega)) only [Hand.q2, Hand.q1, Hand.q5, Hand.q6, Hand.q4, Hand.q3, g_S] <;> rfl)
  have h_Z : w3.heap[w1.heap.size]? = some (.cells #[.int .i64 p4, .int .i64 q4] 24 (0, 0)) := by
    refine Hand.kb hb3 ?_; first | with_reducible exact g_Z | (simp (disch := first | omega | (simp only [Hand.sa, Hand.ss, Hand.sd, Hand.sn]; first | done | omega)) only [Hand.q2, Hand.q1, Hand.q5, Hand.q6, Hand.q4, Hand.q3, g_Z] <;> rfl)
  have hB' : Below w.heap.size w w3 := Hand.stepB hb3 (by repeat (with_reducible first | apply hB | apply Below.drew | apply pw_below_drewN | (apply Below.setCell; rotate_left; (dsimp only; omega)) | (apply Below.alloc; rotate_left; (first | omega | (simp only [Hand.sa, Hand.ss, Hand.sd, Hand.sn]; omega))))) (Nat.le_refl _)
  clear HG hB g_A g_B g_C g_X g_S g_Z zw z_A z1_A z2_A y0_A y1_A c_A_0 f_A_0 c_A_1 f_A_1 z_B z1_B z2_B y0_B y1_B c_B_0 f_B_0 c_B_1 f_B_1 z_C z1_C z2_C y0_C y1_C c_C_0 f_C_0 c_C_1 f_C_1 z_X z1_X z2_X y0_X y1_X c_X_0 f_X_0 c_X_1 f_X_1 z_S z1_S z2_S y0_S y1_S c_S_0 f_S_0 c_S_1 f_S_1 z_Z z1_Z z2_Z y0_Z y1_Z c_Z_0 f_Z_0 c_Z_1 f_Z_1
  clear hb3
  have g_A := h_A
  have g_B := h_B
  have g_C := h_C
  have g_X := h_X
  have g_S := h_S
  have g_Z := h_Z
  have hB := hB'
  clear hB' h_A h_B h_C h_X h_S h_Z
  obtain ⟨z_A, z1_A, z2_A, y0_A, y1_A⟩ := Hand.hz g_A
  obtain ⟨c_A_0, f_A_0, c_A_1, f_A_1⟩ := Hand.hc2 g_A
  obtain ⟨z_B, z1_B, z2_B, y0_B, y1_B⟩ := Hand.hz g_B
  obtain ⟨c_B_0, f_B_0, c_B_1, f_B_1⟩ := Hand.hc2 g_B
  obtain ⟨z_C, z1_C, z2_C, y0_C, y1_C⟩ := Hand.hz g_C
  obtain ⟨c_C_0, f_C_0, c_C_1, f_C_1⟩ := Hand.hc2 g_C
  obtain ⟨z_X, z1_X, z2_X, y0_X, y1_X⟩ := Hand.hz g_X
  obtain ⟨c_X_0, f_X_0, c_X_1, f_X_1⟩ := Hand.hc2 g_X
  obtain ⟨z_S, z1_S, z2_S, y0_S, y1_S⟩ := Hand.hz g_S
  obtain ⟨c_S_0, f_S_0, c_S_1, f_S_1⟩ := Hand.hc2 g_S
  obtain ⟨z_Z, z1_Z, z2_Z, y0_Z, y1_Z⟩ := Hand.hz g_Z
  obtain ⟨c_Z_0, f_Z_0, c_Z_1, f_Z_1⟩ := Hand.hc2 g_Z
  have zw : w.heap.size ≤ w3.heap.size := hB.size
  have HG := Lib.hid (And.intro g_A (And.intro g_B (And.intro g_C (And.intro g_X (And.intro g_S (And.intro g_Z (hB)))))))
  clear g_A g_B g_C g_X g_S g_Z hB
  go_wp2_with fail
  with_reducible refine (L.out _).mono ?_
  rintro e w4 ⟨rfl, hb4⟩
  obtain ⟨g_A, g_B, g_C, g_X, g_S, g_Z, hB⟩ := HG.out
  have h_A : w4.heap[gA]? = some (.cells #[.int .i64 a, .int .i64 b] 24 (0, 0)) := by
    refine Hand.kb hb4 ?_; first | with_reducible exact g_A | (simp (disch := first | omega | (simp only [Hand.sa, Hand.ss, Hand.sd, Hand.sn]; first | done | omega)) only [Hand.q2, Hand.q1, Hand.q5, Hand.q6, Hand.q4, Hand.q3, g_A] <;> rfl)
  have h_B : w4.heap[gB]? = some (.cells #[.int .i64 c, .int .i64 d] 24 (0, 0)) := by
    refine Hand.kb hb4 ?_; first | with_reducible exact g_B | (simp (disch := first | omega | (simp only [Hand.sa, Hand.ss, Hand.sd, Hand.sn]; first | done | omega)) only [Hand.q2, Hand.q1, Hand.q5, Hand.q6, Hand.q4, Hand.q3, g_B] <;> rfl)
  have h_C : w4.heap[gC]? = some (.cells #[.int .i64 e, .int .i64 f] 24 (0, 0)) := by
    refine Hand.kb hb4 ?_; first | with_reducible exact g_C | (simp (disch := first | omega | (simp only [Hand.sa, Hand.ss, Hand.sd, Hand.sn]; first | done | omega)) only [Hand.q2, Hand.q1, Hand.q5, Hand.q6, Hand.q4, Hand.q3, g_C] <;> rfl)
  have h_X : w4.heap[gX]? = some (.cells #[.int .i64 p2, .int .i64 q2] 24 (0, 0)) := by
    refine Hand.kb hb4 ?_; first | with_reducible exact g_X | (simp (disch := first | omega | (simp only [Hand.sa, Hand.ss, Hand.sd, Hand.sn]; first | done | omega)) only [Hand.q2, Hand.q1, Hand.q5, Hand.q6, Hand.q4, Hand.q3, g_X] <;> rfl)
  have h_S : w4.heap[gS]? = some (.cells #[.int .i64 p3, .int .i64 q3] 24 (0, 0)) := by
    refine Hand.kb hb4 ?_; first | with_reducible exact g_S | (simp (disch := first | omega | (simp only [Hand.sa, Hand.ss, Hand.sd, Hand.sn]; first | done | omega)) only [Hand.q2, Hand.q1, Hand.q5, Hand.q6, Hand.q4, Hand.q3, g_S] <;> rfl)
  have h_Z : w4.heap[w1.heap.size]? = some (.cells #[.int .i64 p4, .int .i64 q4] 24 (0, 0)) := by
    refine Hand.kb hb4 ?_; first | with_reducible exact g_Z | (simp (disch := first | omega | (simp only [Hand.sa, Hand.ss, Hand.sd, Hand.sn]; first | done | omega)) only [Hand.q2, Hand.q1, Hand.q5, Hand.q6, Hand.q4, Hand.q3, g_Z] <;> rfl)
  have hB' : Below w.heap.size w w4 := Hand.stepB hb4 (by repeat (with_reducible first | apply hB | apply Below.drew | apply pw_below_drewN | (apply Below.setCell; rotate_left; (dsimp only; omega)) | (apply Below.alloc; rotate_left; (first | omega | (simp only [Hand.sa, Hand.ss, Hand.sd, Hand.sn]; omega))))) (Nat.le_refl _)
  clear HG hB g_A g_B g_C g_X g_S g_Z zw z_A z1_A z2_A y0_A y1_A c_A_0 f_A_0 c_A_1 f_A_1 z_B z1_B z2_B y0_B y1_B c_B_0 f_B_0 c_B_1 f_B_1 z_C z1_C z2_C y0_C y1_C c_C_0 f_C_0 c_C_1 f_C_1 z_X z1_X z2_X y0_X y1_X c_X_0 f_X_0 c_X_1 f_X_1 z_S z1_S z2_S y0_S y1_S c_S_0 f_S_0 c_S_1 f_S_1 z_Z z1_Z z2_Z y0_Z y1_Z c_Z_0 f_Z_0 c_Z_1 f_Z_1
  clear hb4
  have g_A := h_A
  have g_B := h_B
  have g_C := h_C
  have g_X := h_X
  have g_S := h_S
  have g_Z := h_Z
  have hB := hB'
  clear hB' h_A h_B h_C h_X h_S h_Z
  obtain ⟨z_A, z1_A, z2_A, y0_A, y1_A⟩ := Hand.hz g_A
  obtain ⟨c_A_0, f_A_0, c_A_1, f_A_1⟩ := Hand.hc2 g_A
  obtain ⟨z_B, z1_B, z2_B, y0_B, y1_B⟩ := Hand.hz g_B
  obtain ⟨c_B_0, f_B_0, c_B_1, f_B_1⟩ := Hand.hc2 g_B
  obtain ⟨z_C, z1_C, z2_C, y0_C, y1_C⟩ := Hand.hz g_C
  obtain ⟨c_C_0, f_C_0, c_C_1, f_C_1⟩ := Hand.hc2 g_C
  obtain ⟨z_X, z1_X, z2_X, y0_X, y1_X⟩ := Hand.hz g_X
  obtain ⟨c_X_0, f_X_0, c_X_1, f_X_1⟩ := Hand.hc2 g_X
  obtain ⟨z_S, z1_S, z2_S, y0_S, y1_S⟩ := Hand.hz g_S
  obtain ⟨c_S_0, f_S_0, c_S_1, f_S_1⟩ := Hand.hc2 g_S
  obtain ⟨z_Z, z1_Z, z2_Z, y0_Z, y1_Z⟩ := Hand.hz g_Z
  obtain ⟨c_Z_0, f_Z_0, c_Z_1, f_Z_1⟩ := Hand.hc2 g_Z
  have zw : w.heap.size ≤ w4.heap.size := hB.size
  have HG := Lib.hid (And.intro g_A (And.intro g_B (And.intro g_C (And.intro g_X (And.intro g_S (And.intro g_Z (hB)))))))
  clear g_A g_B g_C g_X g_S g_Z hB
  go_wp2_with fail
  with_reducible refine (R.out _).mono ?_
  rintro e w5 ⟨rfl, hb5⟩
  obtain ⟨g_A, g_B, g_C, g_X, g_S, g_Z, hB⟩ := HG.out
  have h_A : w5.heap[gA]? = some (.cells #[.int .i64 a, .int .i64 b] 24 (0, 0)) := by
    refine Hand.kb hb5 ?_; first | with_reducible exact g_A | (simp (disch := first | omega | (simp only [Hand.sa, Hand.ss, Hand.sd, Hand.sn]; first | done | omega)) only [Hand.q2, Hand.q1, Hand.q5, Hand.q6, Hand.q4, Hand.q3, g_A] <;> rfl)
  have h_B : w5.heap[gB]? = some (.cells #[.int .i64 c, .int .i64 d] 24 (0, 0)) := by
    refine Hand.kb hb5 ?_; first | with_reducible exact g_B | (simp (disch := first | omega | (simp only [Hand.sa, Hand.ss, Hand.sd, Hand.sn]; first | done | omega)) only [Hand.q2, Hand.q1, Hand.q5, Hand.q6, Hand.q4, Hand.q3, g_B] <;> rfl)
  have h_C : w5.heap[gC]? = some (.cells #[.int .i64 e, .int .i64 f] 24 (0, 0)) := by
    refine Hand.kb hb5 ?_; first | with_reducible exact g_C | (simp (disch := first | omega | (simp only [Hand.sa, Hand.ss, Hand.sd, Hand.sn]; first | done | omega)) only [Hand.q2, Hand.q1, Hand.q5, Hand.q6, Hand.q4, Hand.q3, g_C] <;> rfl)
  have h_X : w5.heap[gX]? = some (.cells #[.int .i64 p2, .int .i64 q2] 24 (0, 0)) := by
    refine Hand.kb hb5 ?_; first | with_reducible exact g_X | (simp (disch := first | omega | (simp only [Hand.sa, Hand.ss, Hand.sd, Hand.sn]; first | done | omega)) only [Hand.q2, Hand.q1, Hand.q5, Hand.q6, Hand.q4, Hand.q3, g_X] <;> rfl)
  have h_S : w5.heap[gS]? = some (.cells #[.int .i64 p3, .int .i64 q3] 24 (0, 0)) := by
    refine Hand.kb hb5 ?_; first | with_reducible exact g_S | (simp (disch := first | omega | (simp only [Hand.sa, Hand.ss, Hand.sd, Hand.sn]; first | done | omega)) only [Hand.q2, Hand.q1, Hand.q5, Hand.q6, Hand.q4, Hand.q3, g_S] <;> rfl)
  have h_Z : w5.heap[w1.heap.size]? = some (.cells #[.int .i64 p4, .int .i64 q4] 24 (0, 0)) := by
    refine Hand.kb hb5 ?_; first | with_reducible exact g_Z | (simp (disch := first | omega | (simp only [Hand.sa, Hand.ss, Hand.sd, Hand.sn]; first | done | omega)) only [Hand.q2, Hand.q1, Hand.q5, Hand.q6, Hand.q4, Hand.q3, g_Z] <;> rfl)
  have h_U : w5.heap[w4.heap.size]? = some (.cells #[.int .i64 l1, .int .i64 l2] 24 (0, 0)) := by
    refine Hand.kb hb5 ?_; simp (disch := first | omega | (simp only [Hand.sa, Hand.ss, Hand.sd, Hand.sn]; first | done | omega)) only [Hand.q2, Hand.q1, Hand.q5, Hand.q6, Hand.q4, Hand.q3] <;> rfl
  have hB' : Below w.heap.size w w5 := Hand.stepB hb5 (by repeat (with_reducible first | apply hB | apply Below.drew | apply pw_below_drewN | (apply Below.setCell; rotate_left; (dsimp only; omega)) | (apply Below.alloc; rotate_left; (first | omega | (simp only [Hand.sa, Hand.ss, Hand.sd, Hand.sn]; omega))))) (Nat.le_refl _)
  clear HG hB g_A g_B g_C g_X g_S g_Z zw z_A z1_A z2_A y0_A y1_A c_A_0 f_A_0 c_A_1 f_A_1 z_B z1_B z2_B y0_B y1_B c_B_0 f_B_0 c_B_1 f_B_1 z_C z1_C z2_C y0_C y1_C c_C_0 f_C_0 c_C_1 f_C_1 z_X z1_X z2_X y0_X y1_X c_X_0 f_X_0 c_X_1 f_X_1 z_S z1_S z2_S y0_S y1_S c_S_0 f_S_0 c_S_1 f_S_1 z_Z z1_Z z2_Z y0_Z y1_Z c_Z_0 f_Z_0 c_Z_1 f_Z_1
  clear hb5
  have g_A := h_A
  have g_B := h_B
  have g_C := h_C
  have g_X := h_X
  have g_S := h_S
  have g_Z := h_Z
  have g_U := h_U
  have hB := hB'
  clear hB' h_A h_B h_C h_X h_S h_Z h_U
  obtain ⟨z_A, z1_A, z2_A, y0_A, y1_A⟩ := Hand.hz g_A
  obtain ⟨c_A_0, f_A_0, c_A_1, f_A_1⟩ := Hand.hc2 g_A
  obtain ⟨z_B, z1_B, z2_B, y0_B, y1_B⟩ := Hand.hz g_B
  obtain ⟨c_B_0, f_B_0, c_B_1, f_B_1⟩ := Hand.hc2 g_B
  obtain ⟨z_C, z1_C, z2_C, y0_C, y1_C⟩ := Hand.hz g_C
  obtain ⟨c_C_0, f_C_0, c_C_1, f_C_1⟩ := Hand.hc2 g_C
  obtain ⟨z_X, z1_X, z2_X, y0_X, y1_X⟩ := Hand.hz g_X
  obtain ⟨c_X_0, f_X_0, c_X_1, f_X_1⟩ := Hand.hc2 g_X
  obtain ⟨z_S, z1_S, z2_S, y0_S, y1_S⟩ := Hand.hz g_S
  obtain ⟨c_S_0, f_S_0, c_S_1, f_S_1⟩ := Hand.hc2 g_S
  obtain ⟨z_Z, z1_Z, z2_Z, y0_Z, y1_Z⟩ := Hand.hz g_Z
  obtain ⟨c_Z_0, f_Z_0, c_Z_1, f_Z_1⟩ := Hand.hc2 g_Z
  obtain ⟨z_U, z1_U, z2_U, y0_U, y1_U⟩ := Hand.hz g_U
  obtain ⟨c_U_0, f_U_0, c_U_1, f_U_1⟩ := Hand.hc2 g_U
  have zw : w.heap.size ≤ w5.heap.size := hB.size
  have HG := Lib.hid (And.intro g_A (And.intro g_B (And.intro g_C (And.intro g_X (And.intro g_S (And.intro g_Z (And.intro g_U (hB))))))))
  clear g_A g_B g_C g_X g_S g_Z g_U hB
  go_wp2
  obtain ⟨g_A, g_B, g_C, g_X, g_S, g_Z, g_U, hB⟩ := HG.out
  refine HK13.out _ _ (hN ?_ ?_)
  · repeat' (with_reducible apply And.intro)
    all_goals (repeat (with_reducible first | exact g_A | exact g_B | exact g_C | exact g_X | exact g_S | exact Hand.kn (by first | omega | (simp only [Hand.sa, Hand.ss, Hand.sd, Hand.sn]; first | done | omega)) | refine Hand.ka ?_ | refine Hand.kd ?_ | refine Hand.ks (by first | omega | (simp only [Hand.sa, Hand.ss, Hand.sd, Hand.sn]; first | done | omega)) ?_))
  · repeat (with_reducible first | exact hB | apply Below.drew | (apply Below.setCell; rotate_left; (dsimp only; first | omega | (simp only [Hand.sa, Hand.ss, Hand.sd, Hand.sn]; first | done | omega))) | (apply Below.alloc; rotate_left; (first | omega | (simp only [Hand.sa, Hand.ss, Hand.sd, Hand.sn]; first | done | omega))))
end Go.Proofs.YtofndakpenpkbaaDoor.PA
