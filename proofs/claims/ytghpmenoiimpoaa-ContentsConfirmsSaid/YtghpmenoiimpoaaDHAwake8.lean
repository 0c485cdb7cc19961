import Derived.Test.YtghpmenoiimpoaaDHCreate
import Derived.Test.YtghpmenoiimpoaaDPx22
import Derived.Test.YtghpmenoiimpoaaDPx2
namespace Go.Proofs.Ytghpmenoiimpoaa.P
open Go.RowKit Go.Proofs.YtghpmenoiimpoaaW.PrintWords Go.Proofs.YtghpmenoiimpoaaW.PrintLast Go.Proofs.YtghpmenoiimpoaaW.PrintMore
set_option linter.unusedVariables false
def cVOL : ByteArray := ⟨#[86, 79, 76]⟩
def cA : ByteArray := ⟨#[65]⟩
def cE : ByteArray := ⟨#[]⟩
def cNOTE : ByteArray := ⟨#[110, 111, 116, 101]⟩
def aw1 : List S66 := [⟨5, 2, cA, cE, [⟨4, 3⟩]⟩, z66, z66]
def aw2 : List S66 := [⟨5, 0, cA, cNOTE, [⟨4, 3⟩]⟩, z66, z66]
theorem toList_loop (s : ByteArray) : ∀ (d i : Nat) (r : List UInt8), i + d = s.size → ByteArray.toList.loop s i r = r.reverse ++ s.data.toList.drop i := by
  intro d
  induction d with
  | zero =>
    intro i r h
    rw [ByteArray.toList.loop, if_neg (by omega), List.drop_eq_nil_of_le (by rw [data_length]; omega), List.append_nil]
  | succ d ih =>
    intro i r h
    have hl : i < s.data.toList.length := by rw [data_length]; omega
    rw [ByteArray.toList.loop, if_pos (by omega), ih (i + 1) _ (by omega), List.drop_eq_getElem_cons hl, List.reverse_cons, List.append_assoc]
    congr 2
    have : s.get! i = s.data.toList[i] := by
      simp [ByteArray.get!]
      rw [getElem!_pos]
    rw [this]
    rfl
theorem toList_data (s : ByteArray) : s.toList = s.data.toList := by
  rw [ByteArray.toList, toList_loop s s.size 0 [] (by omega)]
  simp
def emptyQ (x : S66) : Bool := (x.f0 == 0) && ((x.f1 == 0) && ((x.f2.size == 0) && ((x.f3.size == 0) && sameL x.f4 [])))
theorem toList_nil (s : ByteArray) : decide (s.toList = (⟨#[]⟩ : ByteArray).toList) = (s.size == 0) := by
  rw [toList_data, toList_data, Bool.eq_iff_iff]
  simp only [decide_eq_true_eq, beq_iff_eq]
  rw [← data_length]
  constructor
  · intro h; rw [h]; rfl
  · intro h; rw [List.eq_nil_of_length_eq_zero h]
theorem emptyP_Q (x : S66) : emptyP x = emptyQ x := by
  unfold emptyP emptyQ
  rw [toList_nil, toList_nil]
theorem emptyP_fun : emptyP = emptyQ := funext emptyP_Q
set_option maxRecDepth 100000 in
theorem aw_new : contents_New.f 20 cVOL 16 = some (cVOL, 16, [z66, z66, z66], 0) := by kernel_rfl
set_option maxRecDepth 100000 in
theorem aw_ok0 : tableOk cVOL 16 [z66, z66, z66] = true := by
  unfold tableOk
  simp only [vLoop, emptyP_Q]
  kernel_rfl
set_option maxRecDepth 100000 in
theorem aw_create : contents_Create.f cVOL 16 [z66, z66, z66] 5 2 cA cE 3 = some (cVOL, 16, aw1, 0) := by
  unfold contents_Create.f createP
  rw [aw_ok0, emptyP_fun]
  kernel_rfl
set_option maxRecDepth 100000 in
theorem aw_ok1 : tableOk cVOL 16 aw1 = true := by
  unfold tableOk aw1
  simp only [vLoop, emptyP_Q]
  kernel_rfl
set_option maxRecDepth 100000 in
theorem aw_confirm : contents_Confirm.f cVOL 16 aw1 5 2 cNOTE = some (cVOL, 16, aw2, 0) := by
  unfold contents_Confirm.f changeP
  rw [aw_ok1]
  kernel_rfl
set_option maxRecDepth 100000 in
theorem aw_find : contents_Find.f cVOL 16 aw2 5 0 = some (5, 0, cA, cNOTE, [⟨4, 3⟩], true) := by kernel_rfl
set_option maxRecDepth 100000 in
theorem aw_sector : contents_Sector.f 20 5 0 cA cNOTE [⟨4, 3⟩] 9 = some (41, true) := by kernel_rfl
set_option maxRecDepth 100000 in
theorem aw_same : dasdref05_Same.f 20 [⟨4, 3⟩] [⟨4, 3⟩] = some true := by kernel_rfl
theorem aw_facts : ∃ (T0 T1 T2 : List S66) (X : List S25), contents_New.f 20 (⟨#[86, 79, 76]⟩ : ByteArray) 16 = some ((⟨#[86, 79, 76]⟩ : ByteArray), 16, T0, 0) ∧ contents_Create.f (⟨#[86, 79, 76]⟩ : ByteArray) 16 T0 5 2 (⟨#[65]⟩ : ByteArray) (⟨#[]⟩ : ByteArray) 3 = some ((⟨#[86, 79, 76]⟩ : ByteArray), 16, T1, 0) ∧ contents_Confirm.f (⟨#[86, 79, 76]⟩ : ByteArray) 16 T1 5 2 (⟨#[110, 111, 116, 101]⟩ : ByteArray) = some ((⟨#[86, 79, 76]⟩ : ByteArray), 16, T2, 0) ∧ contents_Find.f (⟨#[86, 79, 76]⟩ : ByteArray) 16 T2 5 0 = some (5, 0, (⟨#[65]⟩ : ByteArray), (⟨#[110, 111, 116, 101]⟩ : ByteArray), X, true) ∧
    contents_Sector.f 20 5 0 (⟨#[65]⟩ : ByteArray) (⟨#[110, 111, 116, 101]⟩ : ByteArray) X 9 = some (41, true) ∧ dasdref05_Same.f 20 X [⟨4, 3⟩] = some true ∧ ((T2.length : Int) == 3) = true := ⟨_, _, _, _, aw_new, aw_create, aw_confirm, aw_find, aw_sector, aw_same, rfl⟩
theorem same_lit (A : Option Addr) (c : Nat) (X : List S25) (W : World) (hX : Kd.C k25 W A X.length X) (hc : X.length ≤ c) (h : dasdref05_Same.f 20 X [⟨4, 3⟩] = some true) : Calls Try.prog 20 #[.slice A X.length c, .slice (some ⟨W.heap.size, 0, none⟩) 1 1] (W.alloc (.cells #[.int .i64 4, .int .i64 3] 25)) fun e w' => e = .returned (.bool true) ∧ Below W.heap.size W w' :=
  (dasdref05_Same.calls 20 A c X (some ⟨W.heap.size, 0, none⟩) 1 [⟨4, 3⟩] true _ (Kd.C_alloc hX _) hc (Kd.R_reads' (R_lit1 W W.heap.size W.heap.size (fun _ => True) rfl trivial (Nat.le_refl _) 4 3)).2.2 (Nat.le_refl _) h).mono fun e w' ⟨h1, h2⟩ => ⟨h1, below_step (below_alloc (Below.refl _ _) _) h2.below⟩
def dasdlaw08_awake.f : Option Bool := some true
set_option maxHeartbeats 8000000 in
set_option maxRecDepth 100000 in
theorem dasdlaw08_awake.calls (r : Bool) (w : World) (h : dasdlaw08_awake.f = some r) : Calls Try.prog 27 #[] w fun e w' => e = .returned (.bool r) ∧ Below w.heap.size w w' := by
  obtain rfl := Option.some.inj h
  clear h
  have hu41 := Try.underlying41
  have hu66 := Try.underlying66
  have hu72 := Try.underlying72
  have hu25 := Try.underlying25
  obtain ⟨T0, T1, T2, X, f0, f1, f2, f3, f4, f5, f6⟩ := aw_facts
  have F0 := Aside0.mk f0
  have F1 := Aside0.mk f1
  have F2 := Aside0.mk f2
  have F3 := Aside0.mk f3
  have F4 := Aside0.mk f4
  have F5 := Aside0.mk f5
  clear f0 f1 f2 f3 f4 f5
  have HB := Aside0.mk (Below.refl w.heap.size w)
  go_enter Try.func27, Try.ntmps27
  go_wp2_with (first
    | (go_at_call 59; (with_reducible refine (contents_New.calls 20 (⟨#[86, 79, 76]⟩ : ByteArray) 16 (⟨#[86, 79, 76]⟩ : ByteArray) 16 T0 0 _ F0.out).mono ?_); rintro e wx1 ⟨v, rfl, hv_, hb_⟩; obtain ⟨A0, c0, rfl⟩ := Kd.S_slice hv_; have HV := Aside0.mk (Kd.V_bound (Kd.S_V (base' := 0) (Kd.S_mono hv_ (fun _ _ => trivial)))); clear hv_; have n0_ := Aside0.mk (below_step HB.out hb_); clear HB; have HB := n0_; clear n0_; clear hb_)
    | ((with_reducible refine gate_dst (N := 1) rfl ?_); refine box_event ?hg (N := 1) ?hd (cs := #[.string (⟨#[]⟩ : ByteArray), .int .i64 0, .slice none 0 0]) (t := 41) ?hr ?_; (case hd => rfl); (case hg => rfl); (case hr => first | (go_simp; done) | (go_simp; rfl)); intro g1 hg_ wx2 hbox_ hb_; have G1 := Aside0.mk (by rw [hg_]; exact below_size HB.out : w.heap.size ≤ g1); have n0_ := Aside0.mk (below_step HB.out hb_); clear HB; have HB := n0_; clear n0_; have B1 := Aside0.mk hbox_; have hbx_ := hb_; have hgx_ := hg_; clear hb_ hbox_ hg_; have HT := Aside0.mk (Kd.V_mono (Kd.V_below HV.out hbx_) (ok' := fun k => k ≠ g1) (fun k hk => by have := hk.2; omega)); clear HV hbx_ hgx_)
    | ((with_reducible refine gate_store (t := 41) (p := 1) rfl ?_); refine row_store (g := g1) (cells := #[.string (⟨#[86, 79, 76]⟩ : ByteArray), .int .i64 16, .slice A0 T0.length c0]) (t := 41) HB.out G1.out B1.out rfl 41 _ _ rfl size41 rfl rfl rfl rfl ?_; intro wx3 hrow_ hoth_ hsz_ hb_; have ncHT_ := Aside0.mk (Kd.V_step HT.out (fun k hk _ => hoth_ k hk)); clear HB B1 HT; have HT := ncHT_; have HB := Aside0.mk hb_; have B1 := Aside0.mk hrow_; clear hrow_ hoth_ hsz_ hb_ ncHT_; have z1_0 := fcells g1 wx3 _ _ B1.out 0 _ rfl; have z1_1 := fcells g1 wx3 _ _ B1.out 1 _ rfl; have z1_2 := fcells g1 wx3 _ _ B1.out 2 _ rfl)
    | (go_at_call 73; (with_reducible refine (contents_Create.calls (⟨#[86, 79, 76]⟩ : ByteArray) 16 A0 c0 T0 5 2 (⟨#[65]⟩ : ByteArray) (⟨#[]⟩ : ByteArray) 3 (⟨#[86, 79, 76]⟩ : ByteArray) 16 T1 0 _ (Kd.V_reads' HT.out).2.2 (Kd.V_reads' HT.out).2.1 F1.out).mono ?_); rintro e wx4 ⟨v, rfl, hv_, hb_⟩; obtain ⟨A1, c1, rfl⟩ := Kd.V_slice hv_; have HT2 := Aside0.mk (Kd.V_mono hv_ (ok' := fun k => k ≠ g1) (fun k hk => by have := blk_lt B1.out; omega)); clear hv_; have n0_ := Aside0.mk (below_step HB.out hb_); have nb1_ := Aside0.mk (blk_below B1.out hb_); have ncHT_ := Aside0.mk (Kd.V_below HT.out hb_); clear HB B1 HT z1_0 z1_1 z1_2; have HB := n0_; have B1 := nb1_; have HT := ncHT_; clear n0_ nb1_ ncHT_; clear hb_; clear HT; have HT := HT2; clear HT2)
    | ((with_reducible refine gate_store (t := 41) (p := 1) rfl ?_); refine row_store (g := g1) (cells := #[.string (⟨#[86, 79, 76]⟩ : ByteArray), .int .i64 16, .slice A1 T1.length c1]) (t := 41) HB.out G1.out B1.out rfl 41 _ _ rfl size41 rfl rfl rfl rfl ?_; intro wx5 hrow_ hoth_ hsz_ hb_; have ncHT_ := Aside0.mk (Kd.V_step HT.out (fun k hk _ => hoth_ k hk)); clear HB B1 HT; have HT := ncHT_; have HB := Aside0.mk hb_; have B1 := Aside0.mk hrow_; clear hrow_ hoth_ hsz_ hb_ ncHT_; have z1_0 := fcells g1 wx5 _ _ B1.out 0 _ rfl; have z1_1 := fcells g1 wx5 _ _ B1.out 1 _ rfl; have z1_2 := fcells g1 wx5 _ _ B1.out 2 _ rfl)
    | (go_at_call 55; (with_reducible refine (contents_Confirm.calls (⟨#[86, 79, 76]⟩ : ByteArray) 16 A1 c1 T1 5 2 (⟨#[110, 111, 116, 101]⟩ : ByteArray) (⟨#[86, 79, 76]⟩ : ByteArray) 16 T2 0 _ (Kd.V_reads' HT.out).2.2 (Kd.V_reads' HT.out).2.1 F2.out).mono ?_); rintro e wx6 ⟨v, rfl, hv_, hb_⟩; obtain ⟨A2, c2, rfl⟩ := Kd.V_slice hv_; have HT2 := Aside0.mk (Kd.V_mono hv_ (ok' := fun k => k ≠ g1) (fun k hk => by have := blk_lt B1.out; omega)); clear hv_; have n0_ := Aside0.mk (below_step HB.out hb_); have nb1_ := Aside0.mk (blk_below B1.out hb_); have ncHT_ := Aside0.mk (Kd.V_below HT.out hb_); clear HB B1 HT z1_0 z1_1 z1_2; have HB := n0_; have B1 := nb1_; have HT := ncHT_; clear n0_ nb1_ ncHT_; clear hb_; clear HT; have HT := HT2; clear HT2)
    | ((with_reducible refine gate_store (t := 41) (p := 1) rfl ?_); refine row_store (g := g1) (cells := #[.string (⟨#[86, 79, 76]⟩ : ByteArray), .int .i64 16, .slice A2 T2.length c2]) (t := 41) HB.out G1.out B1.out rfl 41 _ _ rfl size41 rfl rfl rfl rfl ?_; intro wx7 hrow_ hoth_ hsz_ hb_; have ncHT_ := Aside0.mk (Kd.V_step HT.out (fun k hk _ => hoth_ k hk)); clear HB B1 HT; have HT := ncHT_; have HB := Aside0.mk hb_; have B1 := Aside0.mk hrow_; clear hrow_ hoth_ hsz_ hb_ ncHT_; have z1_0 := fcells g1 wx7 _ _ B1.out 0 _ rfl; have z1_1 := fcells g1 wx7 _ _ B1.out 1 _ rfl; have z1_2 := fcells g1 wx7 _ _ B1.out 2 _ rfl)
    | (go_at_call 54; (with_reducible refine (contents_Find.calls (⟨#[86, 79, 76]⟩ : ByteArray) 16 A2 c2 T2 5 0 5 0 (⟨#[65]⟩ : ByteArray) (⟨#[110, 111, 116, 101]⟩ : ByteArray) X true _ (Kd.V_reads' HT.out).2.2 (Kd.V_reads' HT.out).2.1 F3.out).mono ?_); rintro e wfi ⟨v, rfl, hv_, hb_⟩; obtain ⟨AX, cX, rfl⟩ := Kd.V_slice hv_; have HX := Aside0.mk (Kd.V_mono (Kd.V_bound hv_) (ok' := fun k => k < wfi.heap.size) (fun k hk => hk.2)); clear hv_; have n0_ := Aside0.mk (below_step HB.out hb_); have nb1_ := Aside0.mk (blk_below B1.out hb_); have ncHT_ := Aside0.mk (Kd.V_below HT.out hb_); clear HB B1 HT z1_0 z1_1 z1_2; have HB := n0_; have B1 := nb1_; have HT := ncHT_; clear n0_ nb1_ ncHT_; clear hb_; have z1_0 := fcells g1 wfi _ _ B1.out 0 _ rfl; have z1_1 := fcells g1 wfi _ _ B1.out 1 _ rfl; have z1_2 := fcells g1 wfi _ _ B1.out 2 _ rfl)
    | ((with_reducible refine gate_dst (N := 5) rfl ?_); refine box_event ?hg (N := 5) ?hd (cs := #[.int .i64 0, .int .i64 0, .string (⟨#[]⟩ : ByteArray), .string (⟨#[]⟩ : ByteArray), .slice none 0 0]) (t := 66) ?hr ?_; (case hd => rfl); (case hg => rfl); (case hr => first | (go_simp; done) | (go_simp; rfl)); intro g5 hg_ wx8 hbox_ hb_; have G5 := Aside0.mk (by rw [hg_]; exact below_size HB.out : w.heap.size ≤ g5); have E1_5 := Aside0.mk (by rw [hg_]; exact Nat.ne_of_lt (blk_lt B1.out) : g1 ≠ g5); have n0_ := Aside0.mk (below_step HB.out hb_); have nb1_ := Aside0.mk (blk_below B1.out hb_); have ncHT_ := Aside0.mk (Kd.V_below HT.out hb_); clear HB B1 HT z1_0 z1_1 z1_2; have HB := n0_; have B1 := nb1_; have HT := ncHT_; clear n0_ nb1_ ncHT_; have B5 := Aside0.mk hbox_; have hbx_ := hb_; have hgx_ := hg_; clear hb_ hbox_ hg_; have z1_0 := fcells g1 wx8 _ _ B1.out 0 _ rfl; have z1_1 := fcells g1 wx8 _ _ B1.out 1 _ rfl; have z1_2 := fcells g1 wx8 _ _ B1.out 2 _ rfl; have HX2 := Aside0.mk (Kd.V_mono (Kd.V_below HX.out hbx_) (ok' := fun k => k ≠ g5) (fun k hk => by omega)); clear HX hbx_ hgx_; have HX := HX2; clear HX2)
    | ((with_reducible refine gate_store (t := 66) (p := 5) rfl ?_); refine row_store (g := g5) (cells := #[.int .i64 5, .int .i64 0, .string (⟨#[65]⟩ : ByteArray), .string (⟨#[110, 111, 116, 101]⟩ : ByteArray), .slice AX X.length cX]) (t := 66) HB.out G5.out B5.out rfl 66 _ _ rfl size66 rfl rfl rfl rfl ?_; intro wx9 hrow_ hoth_ hsz_ hb_; have nb1_ := Aside0.mk ((hoth_ g1 E1_5.out).trans B1.out); have ncHX_ := Aside0.mk (Kd.V_step HX.out (fun k hk _ => hoth_ k hk)); clear HB B5 B1 HX z1_0 z1_1 z1_2; have B1 := nb1_; have HX := ncHX_; have HB := Aside0.mk hb_; have B5 := Aside0.mk hrow_; clear hrow_ hoth_ hsz_ hb_ nb1_ ncHX_; have z5_0 := fcells g5 wx9 _ _ B5.out 0 _ rfl; have z5_1 := fcells g5 wx9 _ _ B5.out 1 _ rfl; have z5_2 := fcells g5 wx9 _ _ B5.out 2 _ rfl; have z5_3 := fcells g5 wx9 _ _ B5.out 3 _ rfl; have z5_4 := fcells g5 wx9 _ _ B5.out 4 _ rfl)
    | (go_at_call 52; (with_reducible refine (contents_Sector.calls 20 5 0 (⟨#[65]⟩ : ByteArray) (⟨#[110, 111, 116, 101]⟩ : ByteArray) AX cX X 9 41 true _ (Kd.V_reads' HX.out).2.2 (Kd.V_reads' HX.out).2.1 F4.out).mono ?_); rintro e wx10 ⟨rfl, hb_⟩; have n0_ := Aside0.mk (below_step HB.out hb_); have nb1_ := Aside0.mk (blk_below B1.out hb_); have nb5_ := Aside0.mk (blk_below B5.out hb_); have ncHX_ := Aside0.mk (Kd.V_below HX.out hb_); clear HB B1 B5 HX z5_0 z5_1 z5_2 z5_3 z5_4; have HB := n0_; have B1 := nb1_; have B5 := nb5_; have HX := ncHX_; clear n0_ nb1_ nb5_ ncHX_; clear hb_; have z5_3 := fcells g5 wx10 _ _ B5.out 3 _ rfl; have z5_4 := fcells g5 wx10 _ _ B5.out 4 _ rfl; have z1_2 := fcells g1 wx10 _ _ B1.out 2 _ rfl)
    | (go_at_call 20; (with_reducible refine (same_lit AX cX X wx10 (Kd.V_reads' HX.out).2.2 (Kd.V_reads' HX.out).2.1 F5.out).mono ?_); rintro e wz ⟨rfl, hb_⟩; have n0 := Aside0.mk (below_step HB.out hb_); have n1 := Aside0.mk (blk_below B1.out hb_); clear HB B1 B5 hb_ z5_3 z5_4 z1_2; have HB := n0; have B1 := n1; clear n0 n1; have z1_2 := fcells g1 wz _ _ B1.out 2 _ rfl))
  go_ret
  exact ⟨rfl, HB.out⟩
end Go.Proofs.Ytghpmenoiimpoaa.P
