import Derived.Test.YtghpmenoiimpoaaDHContentsValid
namespace Go.Proofs.Ytghpmenoiimpoaa.P
open Go.RowKit Go.Proofs.YtghpmenoiimpoaaW.PrintWords Go.Proofs.YtghpmenoiimpoaaW.PrintLast Go.Proofs.YtghpmenoiimpoaaW.PrintMore
set_option linter.unusedVariables false
set_option linter.unusedSimpArgs false
/-- No table, and an error. -/
def errT (c : Int) : ByteArray × Int × List S66 × Int := (⟨#[]⟩, 0, [], c)
theorem vLoop_ext (tr : Int) : ∀ (l : List S66) (seen : List (Int × Bool)) (all out : List S25), vLoop tr seen all l = some out → ∀ x ∈ l, emptyP x = true ∨ labelOk x.f0 x.f1 x.f2 x.f3 x.f4 tr = true
  | [], seen, all, out, h, x, hx => by simp at hx
  | y :: l, seen, all, out, h, x, hx => by
    rw [vLoop] at h
    by_cases he : emptyP y = true
    · rw [if_pos he] at h
      rcases List.mem_cons.1 hx with rfl | hx
      · exact .inl he
      · exact vLoop_ext tr l _ _ _ h x hx
    · rw [if_neg he] at h
      by_cases hv : (labelOk y.f0 y.f1 y.f2 y.f3 y.f4 tr && !seen.contains (y.f0, decide (0 < y.f1))) = true
      · rw [if_pos hv] at h
        rcases List.mem_cons.1 hx with rfl | hx
        · exact .inr (by rw [Bool.and_eq_true] at hv; exact hv.1)
        · exact vLoop_ext tr l _ _ _ h x hx
      · rw [if_neg hv] at h; cases h
theorem emptyP_ext {x : S66} (h : emptyP x = true) : x.f4 = [] := by
  simp only [emptyP, Bool.and_eq_true] at h
  exact (sameL_iff _ _).1 h.2.2.2.2
theorem tableOk_loop {nm : ByteArray} {tr : Int} {ls : List S66} (h : tableOk nm tr ls = true) : ∃ out, vLoop tr [] [] ls = some out ∧ djL out = true := by
  simp only [tableOk, Bool.and_eq_true] at h
  have h2 := h.2.2.2
  cases hv : vLoop tr [] [] ls with
  | none => rw [hv] at h2; cases h2
  | some out => rw [hv] at h2; exact ⟨out, rfl, h2⟩
theorem tableOk_len {nm : ByteArray} {tr : Int} {ls : List S66} (h : tableOk nm tr ls = true) : ls.length ≤ 31 := by
  simp only [tableOk, Bool.and_eq_true] at h
  have h2 := beq_iff_eq.1 h.2.2.1
  have := slots_bd tr
  omega
theorem tableOk_each {nm : ByteArray} {tr : Int} {ls : List S66} (h : tableOk nm tr ls = true) : ∀ x ∈ ls, emptyP x = true ∨ labelOk x.f0 x.f1 x.f2 x.f3 x.f4 tr = true := by
  obtain ⟨out, h1, _⟩ := tableOk_loop h
  exact vLoop_ext tr ls _ _ _ h1
theorem tableOk_ext {nm : ByteArray} {tr : Int} {ls : List S66} (h : tableOk nm tr ls = true) : ∀ x ∈ ls, x.f4.length ≤ 16 := fun x hx => by
  rcases tableOk_each h x hx with h1 | h1
  · rw [emptyP_ext h1]; simp
  · exact labelOk_len h1
/-- What a closure of 'change' has done: the block g holds the new labels, whose runs lie in blocks new from B on. -/
def Did (W : World) (B g c n : Nat) (r : List S66 × Int) (e : Ending) (w' : World) : Prop :=
  e = .returned (.int .i64 r.2) ∧ W.grownBy w' (some g) ∧ (r.2 = 0 → r.1.length = n ∧ ∃ cs, w'.heap[g]? = some (.cells cs 66 (0, 0)) ∧ Labs w' (fun k => B ≤ k ∧ k ≠ g) cs r.1)
theorem Labs.bound {W : World} {ok : Nat → Prop} {cs : Array Value} {ls : List S66} (h : Labs W ok cs ls) : Labs W (fun k => ok k ∧ k < W.heap.size) cs ls := fun j hj => by
  obtain ⟨A, c, h0, h1, h2, h3, h4, h5, h6⟩ := h j hj
  exact ⟨A, c, h0, h1, h2, h3, h4, h5, Kd.F_bound h6⟩
/-- What 'change' does with a table, a reference and what its closure does with the labels (the labels, and the error). -/
def changeP (nm : ByteArray) (tr : Int) (ls : List S66) (id unit : Int) (F : List S66 → Nat → List S66 × Int) : ByteArray × Int × List S66 × Int :=
  if tableOk nm tr ls = true then (if idxOf ls id unit < 0 then errT 6 else if (F ls (idxOf ls id unit).toNat).2 = 0 then (nm, tr, (F ls (idxOf ls id unit).toNat).1, 0) else errT (F ls (idxOf ls id unit).toNat).2) else errT 1
theorem changeP_bad {nm : ByteArray} {tr : Int} {ls : List S66} {id unit : Int} {F : List S66 → Nat → List S66 × Int} (h : tableOk nm tr ls = false) : changeP nm tr ls id unit F = errT 1 := by
  unfold changeP; rw [h]; rfl
theorem changeP_none {nm : ByteArray} {tr : Int} {ls : List S66} {id unit : Int} {F : List S66 → Nat → List S66 × Int} (h : tableOk nm tr ls = true) (hx : idxOf ls id unit < 0) : changeP nm tr ls id unit F = errT 6 := by
  unfold changeP; rw [if_pos h, if_pos hx]
theorem changeP_ok {nm : ByteArray} {tr : Int} {ls : List S66} {id unit : Int} {F : List S66 → Nat → List S66 × Int} {i : Nat} {fr : List S66 × Int} (h : tableOk nm tr ls = true) (hx : idxOf ls id unit = (i : Int)) (hf : F ls i = fr) (he : fr.2 = 0) : changeP nm tr ls id unit F = (nm, tr, fr.1, 0) := by
  unfold changeP; rw [if_pos h, hx, if_neg (by omega), Int.toNat_natCast, hf, if_pos he]
theorem changeP_err {nm : ByteArray} {tr : Int} {ls : List S66} {id unit : Int} {F : List S66 → Nat → List S66 × Int} {i : Nat} {fr : List S66 × Int} (h : tableOk nm tr ls = true) (hx : idxOf ls id unit = (i : Int)) (hf : F ls i = fr) (he : ¬ fr.2 = 0) : changeP nm tr ls id unit F = errT fr.2 := by
  unfold changeP; rw [if_pos h, hx, if_neg (by omega), Int.toNat_natCast, hf, if_neg he]
/-- What the closure of 'change' is told to do: on a block g of labels, beside the table's block g9. -/
def DoesF (fid : Nat) (env : Array Value) (N0 : Nat) (Hold : World → Prop) (nm : ByteArray) (tr : Int) (ls : List S66) (F : List S66 → Nat → List S66 × Int) : Prop :=
  ∀ (W : World) (B g g9 c i : Nat) (cs : Array Value), Hold W → N0 ≤ B → B ≤ g → B ≤ W.heap.size → W.heap[g]? = some (.cells cs 66 (0, 0)) → W.heap[g9]? = some (.cells #[.string nm, .int .i64 tr, .slice (some ⟨g, 0, none⟩) ls.length c] 41 (0, 0)) → ls.length ≤ c → Labs W (fun k => B ≤ k ∧ k ≠ g) cs ls → i < ls.length →
    Calls Try.prog fid (#[.pointer (some ⟨g, i * 5, none⟩), .pointer (some ⟨g9, 0, none⟩)] ++ env) W fun e w' => Did W B g c ls.length (F ls i) e w'
theorem DoesF.le {fid : Nat} {env : Array Value} {N0 N1 : Nat} {Hold : World → Prop} {nm : ByteArray} {tr : Int} {ls : List S66} {F : List S66 → Nat → List S66 × Int} (h : DoesF fid env N0 Hold nm tr ls F) (hle : N0 ≤ N1) : DoesF fid env N1 Hold nm tr ls F :=
  fun W B g g9 c i cs h1 h2 => h W B g g9 c i cs h1 (Nat.le_trans hle h2)
theorem idx_form (p : S66 → Bool) : ∀ (l : List S66) (k : Int), 0 ≤ k → idxP p l k = -1 ∨ (k ≤ idxP p l k ∧ idxP p l k < k + l.length)
  | [], k, _ => .inl rfl
  | x :: l, k, hk => by
    rw [idxP]
    split
    · refine .inr ⟨Int.le_refl _, ?_⟩; simp; omega
    · rcases idx_form p l (k + 1) (by omega) with h | h
      · exact .inl h
      · refine .inr ⟨by omega, ?_⟩; simp; omega
set_option maxHeartbeats 8000000 in
set_option maxRecDepth 100000 in
theorem change_walk (fid : Nat) (env : Array Value) (Hold : World → Prop) (hmono : ∀ W W', Hold W → Below W.heap.size W W' → Hold W') (he : ∀ args w, (callFunc fid args).run Try.prog w = .ok (.enter fid args) w)
    (F : List S66 → Nat → List S66 × Int) (nm : ByteArray) (tr : Int) (A0 : Option Addr) (c0 : Nat) (l0 : List S66) (id unit : Int) (w : World) (hcall : tableOk nm tr l0 = true → DoesF fid env w.heap.size Hold nm tr l0 F) (hH : Hold w) (hr0 : Kd.C k66 w A0 l0.length l0) (hc0 : l0.length ≤ c0) :
    Calls Try.prog 95 #[.agg #[.string nm, .int .i64 tr, .slice A0 l0.length c0], .agg #[.int .i64 id, .int .i64 unit], .func (.func fid) #[] env] w fun e w' => ∃ v2_ : Value, e = .returned (.tuple #[.agg #[.string (changeP nm tr l0 id unit F).1, .int .i64 (changeP nm tr l0 id unit F).2.1, v2_], .int .i64 (changeP nm tr l0 id unit F).2.2.2]) ∧ Kd.V k66 66 w' w.heap.size (fun k_ => w.heap.size ≤ k_) v2_ (changeP nm tr l0 id unit F).2.2.1 ∧ Below w.heap.size w w' := by
  have hu41 := Try.underlying41
  have hu66 := Try.underlying66
  have hu72 := Try.underlying72
  have HR := Aside0.mk hr0
  have HC := Aside0.mk hc0
  have HH := Aside0.mk hH
  have HMO := Aside0.mk hmono
  have HCALL := Aside0.mk hcall
  have HB := Aside0.mk (Below.refl w.heap.size w)
  have HIX := Aside0.mk (idx_form (refP id unit) l0 0 (by omega))
  clear hr0 hc0 hH hmono hcall
  generalize hres : changeP nm tr l0 id unit F = res
  have HRES := Aside0.mk hres
  clear hres
  generalize htab : tableOk nm tr l0 = tb
  have HTAB := Aside0.mk (show contents_Valid.f nm tr l0 = some tb from congrArg some htab)
  have HTB := Aside0.mk htab
  clear htab
  cases tb with
  | false =>
    go_enter Try.func95, Try.ntmps95
    go_wp2_with (first
      | ((with_reducible refine gate_dst (N := 3) rfl ?_); refine box_event ?hg (N := 3) ?hd (cs := #[.string nm, .int .i64 tr, .slice A0 l0.length c0]) (t := 41) ?hr ?_; (case hd => rfl); (case hg => rfl); (case hr => first | (go_simp; done) | (go_simp; rfl)); intro g3 hg_ wx1 hbox_ hb_; have G3 := Aside0.mk (by rw [hg_]; exact below_size HB.out : w.heap.size ≤ g3); have n0_ := Aside0.mk (below_step HB.out hb_); clear HB; have HB := n0_; clear n0_; have B3 := Aside0.mk hbox_; clear hb_ hbox_ hg_)
      | ((with_reducible refine gate_dst (N := 4) rfl ?_); refine box_event ?hg (N := 4) ?hd (cs := #[.int .i64 id, .int .i64 unit]) (t := 72) ?hr ?_; (case hd => rfl); (case hg => rfl); (case hr => first | (go_simp; done) | (go_simp; rfl)); intro g4 hg_ wx2 hbox_ hb_; have G4 := Aside0.mk (by rw [hg_]; exact below_size HB.out : w.heap.size ≤ g4); have E3_4 := Aside0.mk (by rw [hg_]; exact Nat.ne_of_lt (blk_lt B3.out) : g3 ≠ g4); have n0_ := Aside0.mk (below_step HB.out hb_); have nb3_ := Aside0.mk (blk_below B3.out hb_); clear HB B3; have HB := n0_; have B3 := nb3_; clear n0_ nb3_; have B4 := Aside0.mk hbox_; clear hb_ hbox_ hg_)
      | ((with_reducible refine gate_dst (N := 6) rfl ?_); refine box_event ?hg (N := 6) ?hd (cs := #[.string (⟨#[]⟩ : ByteArray), .int .i64 0, .slice none 0 0]) (t := 41) ?hr ?_; (case hd => rfl); (case hg => rfl); (case hr => first | (go_simp; done) | (go_simp; rfl)); intro g6 hg_ wx3 hbox_ hb_; have G6 := Aside0.mk (by rw [hg_]; exact below_size HB.out : w.heap.size ≤ g6); have E3_6 := Aside0.mk (by rw [hg_]; exact Nat.ne_of_lt (blk_lt B3.out) : g3 ≠ g6); have E4_6 := Aside0.mk (by rw [hg_]; exact Nat.ne_of_lt (blk_lt B4.out) : g4 ≠ g6); have n0_ := Aside0.mk (below_step HB.out hb_); have nb3_ := Aside0.mk (blk_below B3.out hb_); have nb4_ := Aside0.mk (blk_below B4.out hb_); clear HB B3 B4; have HB := n0_; have B3 := nb3_; have B4 := nb4_; clear n0_ nb3_ nb4_; have B6 := Aside0.mk hbox_; clear hb_ hbox_ hg_; have z3_0 := fcells g3 wx3 _ _ B3.out 0 _ rfl; have z3_1 := fcells g3 wx3 _ _ B3.out 1 _ rfl; have z3_2 := fcells g3 wx3 _ _ B3.out 2 _ rfl; have y6_0 := blk_frozen B6.out 0; have y6_1 := blk_frozen B6.out 1; have y6_2 := blk_frozen B6.out 2)
      | (go_at_call 29; (with_reducible refine (contents_Valid.calls nm tr A0 c0 l0 false _ (Kd.C_below HR.out HB.out) HC.out HTAB.out).mono ?_); rintro e wx4 ⟨rfl, hb_⟩; have n0_ := Aside0.mk (below_step HB.out hb_); have nb3_ := Aside0.mk (blk_below B3.out hb_); have nb4_ := Aside0.mk (blk_below B4.out hb_); have nb6_ := Aside0.mk (blk_below B6.out hb_); clear HB B3 B4 B6 z3_0 z3_1 z3_2 y6_0 y6_1 y6_2; have HB := n0_; have B3 := nb3_; have B4 := nb4_; have B6 := nb6_; clear n0_ nb3_ nb4_ nb6_; clear hb_; have z3_0 := fcells g3 wx4 _ _ B3.out 0 _ rfl; have z3_1 := fcells g3 wx4 _ _ B3.out 1 _ rfl; have z3_2 := fcells g3 wx4 _ _ B3.out 2 _ rfl; have z4_0 := fcells g4 wx4 _ _ B4.out 0 _ rfl; have z4_1 := fcells g4 wx4 _ _ B4.out 1 _ rfl)
      | ((with_reducible refine gate_store (t := 41) (p := 6) rfl ?_); refine row_store (g := g6) (cells := #[.string (⟨#[]⟩ : ByteArray), .int .i64 0, .slice none 0 0]) (t := 41) HB.out G6.out B6.out rfl 41 _ _ rfl size41 rfl rfl rfl rfl ?_; intro wx5 hrow_ hoth_ hsz_ hb_; have nb3_ := Aside0.mk ((hoth_ g3 E3_6.out).trans B3.out); have nb4_ := Aside0.mk ((hoth_ g4 E4_6.out).trans B4.out); clear HB B6 B3 B4 z3_0 z3_1 z3_2 z4_0 z4_1; have B3 := nb3_; have B4 := nb4_; have HB := Aside0.mk hb_; have B6 := Aside0.mk hrow_; clear hrow_ hoth_ hsz_ hb_ nb3_ nb4_; have z6_0 := fcells g6 wx5 _ _ B6.out 0 _ rfl; have z6_1 := fcells g6 wx5 _ _ B6.out 1 _ rfl; have z6_2 := fcells g6 wx5 _ _ B6.out 2 _ rfl))
    refine bodyPost_ret (results_ct rfl _ _ g6 41 #[.string (⟨#[]⟩ : ByteArray), .int .i64 0, .slice none 0 0] (0, 0) _ rfl B6.out Try.underlying41 rfl (by kernel_rfl)) rfl ?_
    rw [← HRES.out, changeP_bad HTB.out]
    exact ⟨_, rfl, Kd.V_nil _ _ _ _ _, HB.out⟩
  | true =>
    have hl31 := Aside0.mk (tableOk_len HTB.out)
    have hle := Aside0.mk (tableOk_ext HTB.out)
    generalize hix : idxOf l0 id unit = ix
    have HX := Aside0.mk hix
    clear hix
    by_cases hneg : ix < 0
    · have hb1 : decide (ix < 0) = true := decide_eq_true hneg
      have HNEG := Aside0.mk hneg
      clear hneg
      go_enter Try.func95, Try.ntmps95
      go_wp2_with (first
        | ((with_reducible refine gate_dst (N := 3) rfl ?_); refine box_event ?hg (N := 3) ?hd (cs := #[.string nm, .int .i64 tr, .slice A0 l0.length c0]) (t := 41) ?hr ?_; (case hd => rfl); (case hg => rfl); (case hr => first | (go_simp; done) | (go_simp; rfl)); intro g3 hg_ wx1 hbox_ hb_; have G3 := Aside0.mk (by rw [hg_]; exact below_size HB.out : w.heap.size ≤ g3); have n0_ := Aside0.mk (below_step HB.out hb_); clear HB; have HB := n0_; clear n0_; have B3 := Aside0.mk hbox_; clear hb_ hbox_ hg_)
        | ((with_reducible refine gate_dst (N := 4) rfl ?_); refine box_event ?hg (N := 4) ?hd (cs := #[.int .i64 id, .int .i64 unit]) (t := 72) ?hr ?_; (case hd => rfl); (case hg => rfl); (case hr => first | (go_simp; done) | (go_simp; rfl)); intro g4 hg_ wx2 hbox_ hb_; have G4 := Aside0.mk (by rw [hg_]; exact below_size HB.out : w.heap.size ≤ g4); have E3_4 := Aside0.mk (by rw [hg_]; exact Nat.ne_of_lt (blk_lt B3.out) : g3 ≠ g4); have n0_ := Aside0.mk (below_step HB.out hb_); have nb3_ := Aside0.mk (blk_below B3.out hb_); clear HB B3; have HB := n0_; have B3 := nb3_; clear n0_ nb3_; have B4 := Aside0.mk hbox_; clear hb_ hbox_ hg_)
        | ((with_reducible refine gate_dst (N := 6) rfl ?_); refine box_event ?hg (N := 6) ?hd (cs := #[.string (⟨#[]⟩ : ByteArray), .int .i64 0, .slice none 0 0]) (t := 41) ?hr ?_; (case hd => rfl); (case hg => rfl); (case hr => first | (go_simp; done) | (go_simp; rfl)); intro g6 hg_ wx3 hbox_ hb_; have G6 := Aside0.mk (by rw [hg_]; exact below_size HB.out : w.heap.size ≤ g6); have E3_6 := Aside0.mk (by rw [hg_]; exact Nat.ne_of_lt (blk_lt B3.out) : g3 ≠ g6); have E4_6 := Aside0.mk (by rw [hg_]; exact Nat.ne_of_lt (blk_lt B4.out) : g4 ≠ g6); have n0_ := Aside0.mk (below_step HB.out hb_); have nb3_ := Aside0.mk (blk_below B3.out hb_); have nb4_ := Aside0.mk (blk_below B4.out hb_); clear HB B3 B4; have HB := n0_; have B3 := nb3_; have B4 := nb4_; clear n0_ nb3_ nb4_; have B6 := Aside0.mk hbox_; clear hb_ hbox_ hg_; have z3_0 := fcells g3 wx3 _ _ B3.out 0 _ rfl; have z3_1 := fcells g3 wx3 _ _ B3.out 1 _ rfl; have z3_2 := fcells g3 wx3 _ _ B3.out 2 _ rfl; have y6_0 := blk_frozen B6.out 0; have y6_1 := blk_frozen B6.out 1; have y6_2 := blk_frozen B6.out 2)
        | (go_at_call 29; (with_reducible refine (contents_Valid.calls nm tr A0 c0 l0 true _ (Kd.C_below HR.out HB.out) HC.out HTAB.out).mono ?_); rintro e wx4 ⟨rfl, hb_⟩; have n0_ := Aside0.mk (below_step HB.out hb_); have nb3_ := Aside0.mk (blk_below B3.out hb_); have nb4_ := Aside0.mk (blk_below B4.out hb_); have nb6_ := Aside0.mk (blk_below B6.out hb_); clear HB B3 B4 B6 z3_0 z3_1 z3_2 y6_0 y6_1 y6_2; have HB := n0_; have B3 := nb3_; have B4 := nb4_; have B6 := nb6_; clear n0_ nb3_ nb4_ nb6_; clear hb_; have z3_0 := fcells g3 wx4 _ _ B3.out 0 _ rfl; have z3_1 := fcells g3 wx4 _ _ B3.out 1 _ rfl; have z3_2 := fcells g3 wx4 _ _ B3.out 2 _ rfl; have z4_0 := fcells g4 wx4 _ _ B4.out 0 _ rfl; have z4_1 := fcells g4 wx4 _ _ B4.out 1 _ rfl)
        | (go_at_call 93; (with_reducible refine (index_walk nm tr A0 c0 l0 id unit _ (Kd.C_below HR.out HB.out) HC.out).mono ?_); rintro e wx5 ⟨rfl, hb_⟩; have n0_ := Aside0.mk (below_step HB.out hb_); have nb3_ := Aside0.mk (blk_below B3.out hb_); have nb4_ := Aside0.mk (blk_below B4.out hb_); have nb6_ := Aside0.mk (blk_below B6.out hb_); clear HB B3 B4 B6 z3_0 z3_1 z3_2 z4_0 z4_1; have HB := n0_; have B3 := nb3_; have B4 := nb4_; have B6 := nb6_; clear n0_ nb3_ nb4_ nb6_; clear hb_; rw [HX.out])
        | ((with_reducible refine gate_store (t := 41) (p := 6) rfl ?_); refine row_store (g := g6) (cells := #[.string (⟨#[]⟩ : ByteArray), .int .i64 0, .slice none 0 0]) (t := 41) HB.out G6.out B6.out rfl 41 _ _ rfl size41 rfl rfl rfl rfl ?_; intro wx6 hrow_ hoth_ hsz_ hb_; have nb3_ := Aside0.mk ((hoth_ g3 E3_6.out).trans B3.out); have nb4_ := Aside0.mk ((hoth_ g4 E4_6.out).trans B4.out); clear HB B6 B3 B4; have B3 := nb3_; have B4 := nb4_; have HB := Aside0.mk hb_; have B6 := Aside0.mk hrow_; clear hrow_ hoth_ hsz_ hb_ nb3_ nb4_; have z6_0 := fcells g6 wx6 _ _ B6.out 0 _ rfl; have z6_1 := fcells g6 wx6 _ _ B6.out 1 _ rfl; have z6_2 := fcells g6 wx6 _ _ B6.out 2 _ rfl))
      refine bodyPost_ret (results_ct rfl _ _ g6 41 #[.string (⟨#[]⟩ : ByteArray), .int .i64 0, .slice none 0 0] (0, 0) _ rfl B6.out Try.underlying41 rfl (by kernel_rfl)) rfl ?_
      rw [← HRES.out, changeP_none HTB.out (by rw [HX.out]; exact HNEG.out)]
      exact ⟨_, rfl, Kd.V_nil _ _ _ _ _, HB.out⟩
    · have hb1 : decide (ix < 0) = false := decide_eq_false hneg
      have hixf := HIX.out
      rw [show idxP (refP id unit) l0 0 = ix from HX.out] at hixf
      obtain ⟨i, rfl⟩ : ∃ i : Nat, ix = (i : Int) := ⟨ix.toNat, by omega⟩
      have hil : i < l0.length := by omega
      clear hneg hixf HIX
      have HD := Aside0.mk (HCALL.out HTB.out)
      clear HCALL

      have hi0 : decide (0 ≤ (i : Int)) = true := decide_eq_true (by omega)
      have hp1 : (0 ≤ (i : Int)) = True := eq_true (by omega)
      have hp2 : ((i : Int) < (l0.length : Int)) = True := eq_true (by omega)
      have HIL := Aside0.mk hil
      clear hil
      go_enter Try.func95, Try.ntmps95
      go_wp2_with (first
        | ((with_reducible refine gate_dst (N := 3) rfl ?_); refine box_event ?hg (N := 3) ?hd (cs := #[.string nm, .int .i64 tr, .slice A0 l0.length c0]) (t := 41) ?hr ?_; (case hd => rfl); (case hg => rfl); (case hr => first | (go_simp; done) | (go_simp; rfl)); intro g3 hg_ wx1 hbox_ hb_; have G3 := Aside0.mk (by rw [hg_]; exact below_size HB.out : w.heap.size ≤ g3); have n0_ := Aside0.mk (below_step HB.out hb_); clear HB; have HB := n0_; clear n0_; have B3 := Aside0.mk hbox_; clear hb_ hbox_ hg_)
        | ((with_reducible refine gate_dst (N := 4) rfl ?_); refine box_event ?hg (N := 4) ?hd (cs := #[.int .i64 id, .int .i64 unit]) (t := 72) ?hr ?_; (case hd => rfl); (case hg => rfl); (case hr => first | (go_simp; done) | (go_simp; rfl)); intro g4 hg_ wx2 hbox_ hb_; have G4 := Aside0.mk (by rw [hg_]; exact below_size HB.out : w.heap.size ≤ g4); have E3_4 := Aside0.mk (by rw [hg_]; exact Nat.ne_of_lt (blk_lt B3.out) : g3 ≠ g4); have n0_ := Aside0.mk (below_step HB.out hb_); have nb3_ := Aside0.mk (blk_below B3.out hb_); clear HB B3; have HB := n0_; have B3 := nb3_; clear n0_ nb3_; have B4 := Aside0.mk hbox_; clear hb_ hbox_ hg_)
        | ((with_reducible refine gate_dst (N := 6) rfl ?_); refine box_event ?hg (N := 6) ?hd (cs := #[.string (⟨#[]⟩ : ByteArray), .int .i64 0, .slice none 0 0]) (t := 41) ?hr ?_; (case hd => rfl); (case hg => rfl); (case hr => first | (go_simp; done) | (go_simp; rfl)); intro g6 hg_ wx3 hbox_ hb_; have G6 := Aside0.mk (by rw [hg_]; exact below_size HB.out : w.heap.size ≤ g6); have E3_6 := Aside0.mk (by rw [hg_]; exact Nat.ne_of_lt (blk_lt B3.out) : g3 ≠ g6); have E4_6 := Aside0.mk (by rw [hg_]; exact Nat.ne_of_lt (blk_lt B4.out) : g4 ≠ g6); have n0_ := Aside0.mk (below_step HB.out hb_); have nb3_ := Aside0.mk (blk_below B3.out hb_); have nb4_ := Aside0.mk (blk_below B4.out hb_); clear HB B3 B4; have HB := n0_; have B3 := nb3_; have B4 := nb4_; clear n0_ nb3_ nb4_; have B6 := Aside0.mk hbox_; clear hb_ hbox_ hg_; have z3_0 := fcells g3 wx3 _ _ B3.out 0 _ rfl; have z3_1 := fcells g3 wx3 _ _ B3.out 1 _ rfl; have z3_2 := fcells g3 wx3 _ _ B3.out 2 _ rfl; have y6_0 := blk_frozen B6.out 0; have y6_1 := blk_frozen B6.out 1; have y6_2 := blk_frozen B6.out 2)
        | (go_at_call 29; (with_reducible refine (contents_Valid.calls nm tr A0 c0 l0 true _ (Kd.C_below HR.out HB.out) HC.out HTAB.out).mono ?_); rintro e wx4 ⟨rfl, hb_⟩; have n0_ := Aside0.mk (below_step HB.out hb_); have nb3_ := Aside0.mk (blk_below B3.out hb_); have nb4_ := Aside0.mk (blk_below B4.out hb_); have nb6_ := Aside0.mk (blk_below B6.out hb_); clear HB B3 B4 B6 z3_0 z3_1 z3_2 y6_0 y6_1 y6_2; have HB := n0_; have B3 := nb3_; have B4 := nb4_; have B6 := nb6_; clear n0_ nb3_ nb4_ nb6_; clear hb_; have z3_0 := fcells g3 wx4 _ _ B3.out 0 _ rfl; have z3_1 := fcells g3 wx4 _ _ B3.out 1 _ rfl; have z3_2 := fcells g3 wx4 _ _ B3.out 2 _ rfl; have z4_0 := fcells g4 wx4 _ _ B4.out 0 _ rfl; have z4_1 := fcells g4 wx4 _ _ B4.out 1 _ rfl)
        | (go_at_call 93; (with_reducible refine (index_walk nm tr A0 c0 l0 id unit _ (Kd.C_below HR.out HB.out) HC.out).mono ?_); rintro e wc ⟨rfl, hb_⟩; have n0_ := Aside0.mk (below_step HB.out hb_); have nb3_ := Aside0.mk (blk_below B3.out hb_); have nb4_ := Aside0.mk (blk_below B4.out hb_); have nb6_ := Aside0.mk (blk_below B6.out hb_); clear HB B3 B4 B6 z3_0 z3_1 z3_2 z4_0 z4_1; have HB := n0_; have B3 := nb3_; have B4 := nb4_; have B6 := nb6_; clear n0_ nb3_ nb4_ nb6_; clear hb_; have z3_0 := fcells g3 wc _ _ B3.out 0 _ rfl; have z3_1 := fcells g3 wc _ _ B3.out 1 _ rfl; have z3_2 := fcells g3 wc _ _ B3.out 2 _ rfl; rw [HX.out])
        | (go_at_call 115; (with_reducible refine (clone_walk nm tr A0 c0 l0 _ (Kd.C_below HR.out HB.out) HC.out (by have := hl31.out; omega) (fun x hx => by have := hle.out x hx; omega)).mono ?_); rintro e wd ⟨v2, rfl, hV_, hb_, hL_⟩; obtain ⟨gL, cL, csL, rfl, hcl, hgB, hgb, hLs⟩ := hL_ (by have := HIL.out; omega); have HCL := Aside0.mk hcl; have HGB := Aside0.mk hgB; have GL := Aside0.mk (Nat.le_trans (below_size HB.out) hgB : w.heap.size ≤ gL); have HBW := Aside0.mk (below_size HB.out : w.heap.size ≤ wc.heap.size); have B6lt := Aside0.mk (blk_lt B6.out : g6 < wc.heap.size); have E6_L := Aside0.mk (Nat.ne_of_lt (Nat.lt_of_lt_of_le (blk_lt B6.out) hgB) : g6 ≠ gL); have HLS := Aside0.mk hLs.bound; have BLn := Aside0.mk hgb; clear hV_ hL_ hcl hgB hgb hLs; have n0_ := Aside0.mk (below_step HB.out hb_); have nb3_ := Aside0.mk (blk_below B3.out hb_); have nb4_ := Aside0.mk (blk_below B4.out hb_); have nb6_ := Aside0.mk (blk_below B6.out hb_); clear HB B3 B4 B6 z3_0 z3_1 z3_2; have HB := n0_; have B3 := nb3_; have B4 := nb4_; have B6 := nb6_; clear n0_ nb3_ nb4_ nb6_; clear hb_; have BL := BLn; clear BLn)
        | ((with_reducible refine gate_dst (N := 9) rfl ?_); refine box_event ?hg (N := 9) ?hd (cs := #[.string (⟨#[]⟩ : ByteArray), .int .i64 0, .slice none 0 0]) (t := 41) ?hr ?_; (case hd => rfl); (case hg => rfl); (case hr => first | (go_simp; done) | (go_simp; rfl)); intro g9 hg_ wx5 hbox_ hb_; have G9 := Aside0.mk (by rw [hg_]; exact below_size HB.out : w.heap.size ≤ g9); have E3_9 := Aside0.mk (by rw [hg_]; exact Nat.ne_of_lt (blk_lt B3.out) : g3 ≠ g9); have E4_9 := Aside0.mk (by rw [hg_]; exact Nat.ne_of_lt (blk_lt B4.out) : g4 ≠ g9); have E6_9 := Aside0.mk (by rw [hg_]; exact Nat.ne_of_lt (blk_lt B6.out) : g6 ≠ g9); have EL_9 := Aside0.mk (by rw [hg_]; exact Nat.ne_of_lt (blk_lt BL.out) : gL ≠ g9); have n0_ := Aside0.mk (below_step HB.out hb_); have nb3_ := Aside0.mk (blk_below B3.out hb_); have nb4_ := Aside0.mk (blk_below B4.out hb_); have nb6_ := Aside0.mk (blk_below B6.out hb_); have nbL_ := Aside0.mk (blk_below BL.out hb_); clear HB B3 B4 B6 BL; have HB := n0_; have B3 := nb3_; have B4 := nb4_; have B6 := nb6_; have BL := nbL_; clear n0_ nb3_ nb4_ nb6_ nbL_; have B9 := Aside0.mk hbox_; have hbx_ := hb_; have hgx_ := hg_; clear hb_ hbox_ hg_; have nls_ := Aside0.mk ((HLS.out.below hbx_).step (fun _ _ _ => rfl) (fun k hk => (⟨hk.1, by omega⟩ : (wc.heap.size ≤ k ∧ k ≠ gL) ∧ k ≠ g9))); clear HLS hbx_ hgx_; have HLS := nls_; clear nls_)
        | ((with_reducible refine gate_store (t := 41) (p := 9) rfl ?_); refine row_store (g := g9) (cells := #[.string nm, .int .i64 tr, .slice (some ⟨gL, 0, none⟩) l0.length cL]) (t := 41) HB.out G9.out B9.out rfl 41 _ _ rfl size41 rfl rfl rfl rfl ?_; intro wx6 hrow_ hoth_ hsz_ hb_; have nb3_ := Aside0.mk ((hoth_ g3 E3_9.out).trans B3.out); have nb4_ := Aside0.mk ((hoth_ g4 E4_9.out).trans B4.out); have nb6_ := Aside0.mk ((hoth_ g6 E6_9.out).trans B6.out); have nbL_ := Aside0.mk ((hoth_ gL EL_9.out).trans BL.out); have ncHLS_ := Aside0.mk (HLS.out.step (fun k hk _ => hoth_ k hk.2) (fun _ hk => hk)); clear HB B9 B3 B4 B6 BL HLS; have B3 := nb3_; have B4 := nb4_; have B6 := nb6_; have BL := nbL_; have HLS := ncHLS_; have HB := Aside0.mk hb_; have B9 := Aside0.mk hrow_; clear hrow_ hoth_ hsz_ hb_ nb3_ nb4_ nb6_ nbL_ ncHLS_; have z9_2 := fcells g9 wx6 _ _ B9.out 2 _ rfl))
      have HCT := HD.out _ wc.heap.size gL g9 cL i csL (HMO.out _ _ HH.out HB.out) HBW.out HGB.out (Nat.le_trans (Nat.le_of_lt (Nat.lt_of_le_of_lt HGB.out (blk_lt BL.out))) (Nat.le_refl _)) BL.out B9.out HCL.out (HLS.out.step (fun _ _ _ => rfl) (fun k hk => hk.1)) HIL.out
      refine (calls_of_args ?hargs HCT).mono ?_
      case hargs => first | rfl | (simp [Addr.add]; done)
      rintro e wf ⟨rfl, hgr, hdid⟩
      have n0 := Aside0.mk (pw_below_grown HB.out (some gL) (below_size HB.out) hgr (fun k e => by injection e with e; rw [← e]; exact GL.out))
      have n6 := Aside0.mk (blk_grown B6.out hgr (fun e => E6_L.out (by injection e)))
      have n9 := Aside0.mk (blk_grown B9.out hgr (fun e => (Ne.symm EL_9.out) (by injection e)))
      clear HB B3 B4 B6 B9 BL HLS hgr HCT HD z9_2
      have HB := n0
      have B6 := n6
      have B9 := n9
      clear n0 n6 n9
      generalize hF : F l0 i = fr at hdid ⊢
      have HF := Aside0.mk hF
      clear hF
      by_cases her : fr.2 = 0
      · have her1 : (fr.2 != 0) = false := by simp [her]
        obtain ⟨hlen, csF, hbF, hLF⟩ := hdid her
        have HLEN := Aside0.mk hlen
        have BL := Aside0.mk hbF
        have HLF := Aside0.mk hLF
        have HER := Aside0.mk her
        clear her hdid hlen hbF hLF
        have z9_0 := fcells g9 wf _ _ B9.out 0 _ rfl
        have z9_1 := fcells g9 wf _ _ B9.out 1 _ rfl
        have z9_2 := fcells g9 wf _ _ B9.out 2 _ rfl
        go_wp2_with (first
          | ((with_reducible refine gate_store (t := 41) (p := 6) rfl ?_); refine row_store (g := g6) (cells := #[.string nm, .int .i64 tr, .slice (some ⟨gL, 0, none⟩) l0.length cL]) (t := 41) HB.out G6.out B6.out rfl 41 _ _ rfl size41 rfl rfl rfl rfl ?_; intro wx30 hrow_ hoth_ hsz_ hb_; have nb9_ := Aside0.mk ((hoth_ g9 (Ne.symm E6_9.out)).trans B9.out); have nbL_ := Aside0.mk ((hoth_ gL (Ne.symm E6_L.out)).trans BL.out); have ncHLF_ := Aside0.mk (HLF.out.step (fun k hk _ => hoth_ k (fun e => by have h1 := B6lt.out; have h2 := hk.1; rw [e] at h2; omega)) (fun _ hk => hk)); clear HB B6 B9 BL HLF z9_0 z9_1 z9_2; have B9 := nb9_; have BL := nbL_; have HLF := ncHLF_; have HB := Aside0.mk hb_; have B6 := Aside0.mk hrow_; clear hrow_ hoth_ hsz_ hb_ nb9_ nbL_ ncHLF_))
        refine bodyPost_ret (results_ct rfl _ _ g6 41 #[.string nm, .int .i64 tr, .slice (some ⟨gL, 0, none⟩) l0.length cL] (0, 0) _ rfl B6.out Try.underlying41 rfl (by kernel_rfl)) rfl ?_
        rw [← HRES.out, changeP_ok HTB.out HX.out HF.out HER.out]
        refine ⟨_, rfl, ?_, HB.out⟩
        have hv := V_of_labs (base := w.heap.size) (by have := HLEN.out; have := hl31.out; omega) (by rw [HLEN.out]; exact HCL.out) (show w.heap.size ≤ gL from GL.out) BL.out (HLF.out.step (ok' := fun k => w.heap.size ≤ k) (fun _ _ _ => rfl) (fun k hk => Nat.le_trans HBW.out hk.1))
        rw [HLEN.out] at hv
        exact hv
      · have her1 : (fr.2 != 0) = true := by simp [her]
        have HER := Aside0.mk her
        clear her hdid
        go_wp2_with (first
          | ((with_reducible refine gate_store (t := 41) (p := 6) rfl ?_); refine row_store (g := g6) (cells := #[.string (⟨#[]⟩ : ByteArray), .int .i64 0, .slice none 0 0]) (t := 41) HB.out G6.out B6.out rfl 41 _ _ rfl size41 rfl rfl rfl rfl ?_; intro wx30 hrow_ hoth_ hsz_ hb_; have nb9_ := Aside0.mk ((hoth_ g9 (Ne.symm E6_9.out)).trans B9.out); clear HB B6 B9; have B9 := nb9_; have HB := Aside0.mk hb_; have B6 := Aside0.mk hrow_; clear hrow_ hoth_ hsz_ hb_ nb9_; have z6_0 := fcells g6 wx30 _ _ B6.out 0 _ rfl; have z6_1 := fcells g6 wx30 _ _ B6.out 1 _ rfl; have z6_2 := fcells g6 wx30 _ _ B6.out 2 _ rfl))
        refine bodyPost_ret (results_ct rfl _ _ g6 41 #[.string (⟨#[]⟩ : ByteArray), .int .i64 0, .slice none 0 0] (0, 0) _ rfl B6.out Try.underlying41 rfl (by kernel_rfl)) rfl ?_
        rw [← HRES.out, changeP_err HTB.out HX.out HF.out HER.out]
        exact ⟨_, rfl, Kd.V_nil _ _ _ _ _, HB.out⟩
end Go.Proofs.Ytghpmenoiimpoaa.P
