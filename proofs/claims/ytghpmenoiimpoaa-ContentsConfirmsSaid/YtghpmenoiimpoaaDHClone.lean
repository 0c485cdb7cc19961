import Derived.Test.YtghpmenoiimpoaaDHExtA
namespace Go.Proofs.Ytghpmenoiimpoaa.P
open Go.RowKit Go.Proofs.YtghpmenoiimpoaaW.PrintWords Go.Proofs.YtghpmenoiimpoaaW.PrintLast Go.Proofs.YtghpmenoiimpoaaW.PrintMore
set_option linter.unusedVariables false
set_option linter.unusedSimpArgs false
theorem R_lit0 {α : Type} (d : Kd α) (e : Nat) (W : World) (base N : Nat) (ok : Nat → Prop) (hN : N = W.heap.size) (hok : ok N) (hb : base ≤ W.heap.size) : d.R e (W.alloc (.cells #[] e)) base ok (.slice (some ⟨N, 0, none⟩) 0 0) [] := by
  subst hN
  refine ⟨fun k hk => ?_, OwnRow.lit W base (ps := ([] : List α)) (inner := []) ?_ hb (by simp)⟩
  · have : W.heap.size = k := by simpa [Value.ownBlock] using hk
    exact this ▸ hok
  · exact ⟨by simp, fun j p hj => by simp at hj⟩
theorem nil22 (n c : Nat) (w : World) : (Go.binOp .eql 22 (.slice none n c) (.slice none 0 0)).run Try.prog w = .ok (.bool true) w := by kernel_rfl
theorem some22 (ad : Addr) (n c : Nat) (w : World) : (Go.binOp .eql 22 (.slice (some ad) n c) (.slice none 0 0)).run Try.prog w = .ok (.bool false) w := by kernel_rfl
set_option maxHeartbeats 4000000 in
set_option maxRecDepth 100000 in
theorem clone_run (A0 : Option Addr) (c0 : Nat) (l0 : List S25) (w : World) (hr0 : Kd.C k25 w A0 l0.length l0) (hc0 : l0.length ≤ c0) (hl : l0.length < 8796093022208) :
    Calls Try.prog 94 #[.slice A0 l0.length c0] w fun e w' => ∃ v0_ : Value, e = .returned v0_ ∧ Kd.R k25 25 w' w.heap.size (fun _ => True) v0_ l0 ∧ Below w.heap.size w w' := by
  have hu25 := Try.underlying25
  have hn22 := nil22
  have hs22 := some22
  have HR0 := Aside0.mk hr0
  have HC0 := Aside0.mk hc0
  clear hr0 hc0
  cases A0 with
  | none =>
    have h0 : l0 = [] := by
      rcases Nat.eq_zero_or_pos l0.length with h | h
      · exact List.eq_nil_of_length_eq_zero h
      · obtain ⟨ad, e, _⟩ := HR0.out.2.2 h
        cases e
    subst h0
    go_enter Try.func94, Try.ntmps94
    go_wp2
    go_ret
    exact ⟨_, rfl, Kd.R_nil _ _ _ _ _, Below.refl _ _⟩
  | some ad =>
    go_enter Try.func94, Try.ntmps94
    go_wp2_with ((with_reducible refine gate_builtin (b := .append) (xs := #[.tmp 5, .tmp 6]) rfl ?_); at_builtin; refine Kd.R_append_rows k25 (w0 := w) w.heap.size rfl (.tmp 5) (.tmp 6) 22 25 (.agg #[(.int .i64 0), (.int .i64 0)]) 16 rfl Try.underlying22 info25 rfl (by decide) (by omega) (.slice (some ⟨w.heap.size, 0, none⟩) 0 0) [] l0 _ _ _ (fun _ => True) (fun _ => False) rfl rfl ?aO ?aR (fun _ _ h => h) (fun _ h => h.elim) ?aF ?aB ?aS ?aL ?_; (case aR => exact Kd.C_below HR0.out (below_alloc (Below.refl _ _) _)); (case aB => exact below_alloc (Below.refl _ _) _); (case aF => exact fun _ _ => trivial); (case aO => exact R_lit0 k25 25 w _ _ _ rfl trivial (Nat.le_refl _)); (case aS => exact below_size (below_alloc (Below.refl _ _) _)); (case aL => simp; omega); intro vc w6 ho hb hg hat; have n0 := Aside0.mk hb; have n1 := Aside0.mk ho; clear ho hb hg hat)
    go_ret
    exact ⟨_, rfl, n1.out, n0.out⟩
theorem nil39 (n c : Nat) (w : World) : (Go.binOp .eql 39 (.slice none n c) (.slice none 0 0)).run Try.prog w = .ok (.bool true) w := by kernel_rfl
theorem some39 (ad : Addr) (n c : Nat) (w : World) : (Go.binOp .eql 39 (.slice (some ad) n c) (.slice none 0 0)).run Try.prog w = .ok (.bool false) w := by kernel_rfl
theorem heap25 : Kd.Heap k25 := Kd.heap_iso _ (Kd.heap_pair (Kd.heap_int .i64) (Kd.heap_int .i64))
theorem heap66 : Kd.Heap k66 := Kd.heap_iso _ (Kd.heap_pair (Kd.heap_int .i64) (Kd.heap_pair (Kd.heap_int .i64) (Kd.heap_pair Kd.heap_string (Kd.heap_pair Kd.heap_string (Kd.heap_slice 25 heap25)))))
set_option maxHeartbeats 4000000 in
set_option maxRecDepth 100000 in
theorem clone_labels (A0 : Option Addr) (c0 : Nat) (l0 : List S66) (P : Nat → Prop) (w : World) (hr0 : Kd.F k66 w P A0 l0.length l0) (hP : ∀ k, P k → k < w.heap.size) (hc0 : l0.length ≤ c0) (hl : l0.length < 100000000) :
    Calls Try.prog 151 #[.slice A0 l0.length c0] w fun e w' => ∃ v0_ : Value, e = .returned v0_ ∧ Kd.N k66 66 w' w.heap.size (fun k => P k ∨ w.heap.size ≤ k) v0_ l0 ∧ Below w.heap.size w w' := by
  have hu25 := Try.underlying25
  have hn22 := nil39
  have hs22 := some39
  have HR0 := Aside0.mk hr0
  have HC0 := Aside0.mk hc0
  have HP := Aside0.mk hP
  clear hr0 hc0 hP
  cases A0 with
  | none =>
    have h0 : l0 = [] := by
      rcases Nat.eq_zero_or_pos l0.length with h | h
      · exact List.eq_nil_of_length_eq_zero h
      · obtain ⟨ad, e, _⟩ := (Kd.F_now HR0.out).2.2 h
        cases e
    subst h0
    go_enter Try.func151, Try.ntmps151
    go_wp2
    go_ret
    exact ⟨_, rfl, Kd.N_nil _ _ _ _ _, Below.refl _ _⟩
  | some ad =>
    go_enter Try.func151, Try.ntmps151
    go_wp2_with ((with_reducible refine gate_builtin (b := .append) (xs := #[.tmp 5, .tmp 6]) rfl ?_); at_builtin; refine Kd.N_append_rows k66 (w0 := w) w.heap.size rfl (.tmp 5) (.tmp 6) 39 66 (.agg #[(.int .i64 0), (.int .i64 0), .string ⟨#[]⟩, .string ⟨#[]⟩, .slice none 0 0]) 72 rfl Try.underlying39 info66 rfl (by decide) (by omega) (.slice (some ⟨w.heap.size, 0, none⟩) 0 0) [] l0 _ _ _ (fun k => P k ∨ w.heap.size ≤ k) P rfl rfl ?aO ?aR ?aK ?aF ?aB ?aS ?aL ?_; (case aR => exact Kd.F_alloc HR0.out _); (case aK => exact fun k hk => ⟨.inl hk, by have := HP.out k hk; simp [Value.ownBlock]; omega⟩); (case aB => exact below_alloc (Below.refl _ _) _); (case aF => exact fun k hk => .inr (Nat.le_trans (below_size (below_alloc (Below.refl _ _) _)) hk)); (case aO => exact Kd.R_N (R_lit0 k66 66 w _ _ _ rfl (.inr (Nat.le_refl _)) (Nat.le_refl _))); (case aS => exact below_size (below_alloc (Below.refl _ _) _)); (case aL => simp; omega); intro vc w6 ho hb hg hat; have n0 := Aside0.mk hb; have n1 := Aside0.mk ho; clear ho hb hg hat)
    go_ret
    exact ⟨_, rfl, n1.out, n0.out⟩
/-- A row of labels with all that it leads to, out of its cells. -/
theorem F_rows66 {W : World} {ok : Nat → Prop} {g : Nat} {A : Option Addr} {xs : List S66} (hn : xs.length ≤ 9223372036854775807) (hA : 0 < xs.length → A = some ⟨g, 0, none⟩) (hg : 0 < xs.length → ok g) (hC : Kd.C k66 W A xs.length xs)
    (hc : ∀ j (hj : j < xs.length), ∃ Ae ce, W.cell? ⟨g, j * 5 + 4, none⟩ = some (.slice Ae xs[j].f4.length ce) ∧ xs[j].f4.length ≤ ce ∧ Kd.F k25 W ok Ae xs[j].f4.length xs[j].f4) : Kd.F k66 W ok A xs.length xs := by
  intro W' hW
  refine ⟨rfl, hn, fun hp => ⟨⟨g, 0, none⟩, hA hp, fun j p hj => ?_⟩⟩
  have hjl := (List.getElem?_eq_some_iff.1 hj).1
  obtain rfl : xs[j] = p := (List.getElem?_eq_some_iff.1 hj).2
  obtain ⟨Ae, ce, h4, hle, hF⟩ := hc j hjl
  obtain ⟨ad, A4, c4, e, q0, q1, q2, q3, q4, l4, g4⟩ := at_T66 hC (j : Int) (by omega) (by omega)
  rw [hA hp] at e
  injection e with e
  subst e
  have hrd : rd_T66 xs (j : Int) = xs[j] := by simp [rd_T66, List.getD_eq_getElem?_getD, hjl]
  rw [hrd, Int.toNat_natCast] at q0 q1 q2 q3
  have ea : ∀ m : Nat, (⟨g, 0, none⟩ : Addr).add m = ⟨g, m, none⟩ := fun m => by simp [Addr.add]; intro h; omega
  rw [ea] at q0 q1 q2 q3
  dsimp only at q0 q1 q2 q3
  have ez : k66.sz = 5 := rfl
  have hlt : g < W.heap.size := World.block_lt_of_cell? W _ q1
  have hmv : ∀ (o : Nat) (v : Value), W.cell? ⟨g, o, none⟩ = some v → W'.cell? ⟨g, o, none⟩ = some v := fun o v h => by
    rw [← h]
    simp only [World.cell?]
    rw [hW g (hg hp) hlt]
  refine ⟨[.int .i64 xs[j].f0, .int .i64 xs[j].f1, .string xs[j].f2, .string xs[j].f3, .slice Ae xs[j].f4.length ce], rfl, k66_mk W' xs[j] hle (hF W' hW), fun i u hu => ?_⟩
  match i, hu with
  | 0, hu => obtain rfl := Option.some.inj hu; rw [ez, ea]; exact hmv _ _ q0
  | 1, hu => obtain rfl := Option.some.inj hu; rw [ez, ea]; exact hmv _ _ q1
  | 2, hu => obtain rfl := Option.some.inj hu; rw [ez, ea]; exact hmv _ _ q2
  | 3, hu => obtain rfl := Option.some.inj hu; rw [ez, ea]; exact hmv _ _ q3
  | 4, hu => obtain rfl := Option.some.inj hu; rw [ez, ea]; exact hmv _ _ h4
/-- The label x at place o of a block of labels; its runs lie in ok. -/
def Lab (W : World) (ok : Nat → Prop) (x : S66) (cs : Array Value) (o : Nat) : Prop :=
  ∃ A c, cs[o]? = some (.int .i64 x.f0) ∧ cs[o + 1]? = some (.int .i64 x.f1) ∧ cs[o + 2]? = some (.string x.f2) ∧ cs[o + 3]? = some (.string x.f3) ∧ cs[o + 4]? = some (.slice A x.f4.length c) ∧ x.f4.length ≤ c ∧ Kd.F k25 W ok A x.f4.length x.f4
/-- A block of labels. -/
def Labs (W : World) (ok : Nat → Prop) (cs : Array Value) (ls : List S66) : Prop := ∀ (j : Nat) (hj : j < ls.length), Lab W ok ls[j] cs (j * 5)
theorem Labs.step {W W' : World} {ok ok' : Nat → Prop} {cs : Array Value} {ls : List S66} (h : Labs W ok cs ls) (hm : ∀ k, ok k → k < W.heap.size → W'.heap[k]? = W.heap[k]?) (hok : ∀ k, ok k → ok' k) : Labs W' ok' cs ls := fun j hj => by
  obtain ⟨A, c, h0, h1, h2, h3, h4, h5, h6⟩ := h j hj
  exact ⟨A, c, h0, h1, h2, h3, h4, h5, Kd.F_mono (Kd.F_step h6 hm) hok⟩
theorem Labs.below {W W' : World} {ok : Nat → Prop} {cs : Array Value} {ls : List S66} (h : Labs W ok cs ls) (hb : Below W.heap.size W W') : Labs W' ok cs ls := h.step (fun k _ hk => hb.block k hk) (fun _ hk => hk)
theorem labs_of {W : World} {ok : Nat → Prop} {g : Nat} {cs : Array Value} {ls : List S66} (hb : W.heap[g]? = some (.cells cs 66 (0, 0))) (hC : Kd.C k66 W (some ⟨g, 0, none⟩) ls.length ls)
    (hI : ∀ (j : Nat) (hj : j < ls.length), ∃ A c, W.cell? ⟨g, j * 5 + 4, none⟩ = some (.slice A ls[j].f4.length c) ∧ ls[j].f4.length ≤ c ∧ Kd.F k25 W ok A ls[j].f4.length ls[j].f4) : Labs W ok cs ls := fun j hj => by
  obtain ⟨A, c, h4, h5, h6⟩ := hI j hj
  obtain ⟨ad, A4, c4, e, q0, q1, q2, q3, q4, l4, g4⟩ := at_T66 hC (j : Int) (by omega) (by omega)
  injection e with e
  subst e
  have hrd : rd_T66 ls (j : Int) = ls[j] := by simp [rd_T66, List.getD_eq_getElem?_getD, hj]
  have ea : ∀ m : Nat, (⟨g, 0, none⟩ : Addr).add m = ⟨g, m, none⟩ := fun m => by simp [Addr.add]; intro h; omega
  rw [hrd, Int.toNat_natCast, ea] at q0 q1 q2 q3
  have hm : ∀ o v, W.cell? ⟨g, o, none⟩ = some v → cs[o]? = some v := fun o v h => (blk_cell hb o).symm.trans h
  exact ⟨A, c, hm _ _ q0, hm _ _ q1, hm _ _ q2, hm _ _ q3, hm _ _ h4, h5, h6⟩
theorem V_of_labs {W : World} {ok : Nat → Prop} {g c base : Nat} {cs : Array Value} {ls : List S66} (hn : ls.length ≤ 9223372036854775807) (hc : ls.length ≤ c) (hg : ok g) (hb : W.heap[g]? = some (.cells cs 66 (0, 0))) (hL : Labs W ok cs ls) : Kd.V k66 66 W base ok (.slice (some ⟨g, 0, none⟩) ls.length c) ls := by
  refine Kd.V_mk hc (fun W' hW => ⟨rfl, hn, fun hp => ⟨⟨g, 0, none⟩, rfl, fun j p hj => ?_⟩⟩)
  have hjl := (List.getElem?_eq_some_iff.1 hj).1
  obtain rfl : ls[j] = p := (List.getElem?_eq_some_iff.1 hj).2
  obtain ⟨A, c4, h0, h1, h2, h3, h4, h5, h6⟩ := hL j hjl
  have ea : ∀ m : Nat, (⟨g, 0, none⟩ : Addr).add m = ⟨g, m, none⟩ := fun m => by simp [Addr.add]; intro h; omega
  have hb' : W'.heap[g]? = some (.cells cs 66 (0, 0)) := (hW g hg (blk_lt hb)).trans hb
  have ez : k66.sz = 5 := rfl
  refine ⟨[.int .i64 ls[j].f0, .int .i64 ls[j].f1, .string ls[j].f2, .string ls[j].f3, .slice A ls[j].f4.length c4], rfl, k66_mk W' ls[j] h5 (h6 W' hW), fun i u hu => ?_⟩
  match i, hu with
  | 0, hu => obtain rfl := Option.some.inj hu; rw [ez, ea]; exact (blk_cell hb' _).trans h0
  | 1, hu => obtain rfl := Option.some.inj hu; rw [ez, ea]; exact (blk_cell hb' _).trans h1
  | 2, hu => obtain rfl := Option.some.inj hu; rw [ez, ea]; exact (blk_cell hb' _).trans h2
  | 3, hu => obtain rfl := Option.some.inj hu; rw [ez, ea]; exact (blk_cell hb' _).trans h3
  | 4, hu => obtain rfl := Option.some.inj hu; rw [ez, ea]; exact (blk_cell hb' _).trans h4
/-- The slice v is a block of labels, new from B on, and so is what they lead to. -/
def LabsOut (B : Nat) (W : World) (v : Value) (ls : List S66) : Prop := 0 < ls.length → ∃ g c cs, v = .slice (some ⟨g, 0, none⟩) ls.length c ∧ ls.length ≤ c ∧ B ≤ g ∧ W.heap[g]? = some (.cells cs 66 (0, 0)) ∧ Labs W (fun k => B ≤ k ∧ k ≠ g) cs ls
def contents_clone.T5 : Bool × List (List Nat × List Nat) := (true, [([], []), ([0], [0]), ([], []), ([], []), ([3], [3]), ([], []), ([4, 5], [4, 5]), ([6], [6]), ([7], [7]), ([8], [8]), ([1, 2, 0, 1, 2, 3, 4, 5, 6, 7, 8, 9], [1, 2]), ([10, 0, 1, 2, 3, 4, 5, 6, 7, 8, 9], [10]), ([11, 9, 9, 0, 1, 2, 3, 4, 5, 6, 7, 8, 9], [9, 11])])
def contents_clone.B5 : List Nat := [0, 1, 0, 0, 8, 0, 56, 120, 248, 504, 1023, 2047, 4095]
theorem contents_clone.tab5 : rtab .any (opsOf Try.f115 5) = contents_clone.T5 := by kernel_rfl
theorem contents_clone.bits5 : waitsOk contents_clone.T5.2 contents_clone.B5 = true := by kernel_rfl
set_option maxHeartbeats 4000000 in
set_option maxRecDepth 100000 in
theorem clone_walk (nm : ByteArray) (tr : Int) (A0 : Option Addr) (c0 : Nat) (l0 : List S66) (w : World) (hr0 : Kd.C k66 w A0 l0.length l0) (hc0 : l0.length ≤ c0) (hl : l0.length < 100000000) (hle : ∀ x ∈ l0, x.f4.length < 8796093022208) :
    Calls Try.prog 115 #[.agg #[.string nm, .int .i64 tr, .slice A0 l0.length c0]] w fun e w' => ∃ v2_ : Value, e = .returned (.agg #[.string nm, .int .i64 tr, v2_]) ∧ Kd.V k66 66 w' w.heap.size (fun k_ => w.heap.size ≤ k_) v2_ l0 ∧ Below w.heap.size w w' ∧ LabsOut w.heap.size w' v2_ l0 := by
  have hu25 := Try.underlying25
  have hu41 := Try.underlying41
  have hu66 := Try.underlying66
  have HR0 := Aside0.mk hr0
  have HC0 := Aside0.mk hc0
  have HLE := Aside0.mk hle
  clear hr0 hc0 hle
  have HB := Aside0.mk (Below.refl w.heap.size w)
  go_enter Try.func115, Try.ntmps115
  go_wp2_with (first
    | ((with_reducible refine gate_dst (N := 1) rfl ?_); refine box_event ?hg (N := 1) ?hd (cs := #[.string nm, .int .i64 tr, .slice A0 l0.length c0]) (t := 41) ?hr ?_; (case hd => rfl); (case hg => rfl); (case hr => first | (go_simp; done) | (go_simp; rfl)); intro g1 hg w1 hbox hb; have n0 := Aside0.mk (below_step HB.out hb); have B1 := Aside0.mk hbox; have G1 := Aside0.mk (by rw [hg]; exact below_size HB.out : w.heap.size ≤ g1); clear HB; have HB := n0; clear n0 hb hbox hg)
    | ((with_reducible refine gate_dst (N := 2) rfl ?_); refine box_event ?hg (N := 2) ?hd (cs := #[.string (⟨#[]⟩ : ByteArray), .int .i64 0, .slice none 0 0]) (t := 41) ?hr ?_; (case hd => rfl); (case hg => rfl); (case hr => first | (go_simp; done) | (go_simp; rfl)); intro g2 hg w2 hbox hb; have n0 := Aside0.mk (below_step HB.out hb); have B2 := Aside0.mk hbox; have n1 := Aside0.mk (blk_below B1.out hb); have G2 := Aside0.mk (by rw [hg]; exact below_size HB.out : w.heap.size ≤ g2); have G12 := Aside0.mk (by rw [hg]; exact Nat.ne_of_lt (blk_lt B1.out) : g1 ≠ g2); clear HB B1; have HB := n0; have B1 := n1; clear n0 n1 hb hbox hg; have z0 : w2.cell? ⟨g1, 0, none⟩ = some (.string nm) := (blk_cell B1.out 0).trans rfl; have z1 : w2.cell? ⟨g1, 1, none⟩ = some (.int .i64 tr) := (blk_cell B1.out 1).trans rfl; have z2 : w2.cell? ⟨g1, 2, none⟩ = some (.slice A0 l0.length c0) := (blk_cell B1.out 2).trans rfl; have f0 := blk_frozen B1.out 0; have f1 := blk_frozen B1.out 1; have f2 := blk_frozen B1.out 2)
    | (go_at_call 151; (with_reducible refine (clone_labels A0 c0 l0 (fun k => k < w.heap.size) _ (Kd.F_step (Kd.C_F heap66 HR0.out) (fun k _ hlt => HB.out.block k hlt)) (fun k hk => Nat.lt_of_lt_of_le hk (below_size HB.out)) HC0.out hl).mono ?_); rintro e w3 ⟨v, rfl, hr, hb⟩; obtain ⟨A, c, rfl⟩ := Kd.N_slice hr; have m0 := Aside0.mk (below_step HB.out hb); have m1 := Aside0.mk (blk_below B1.out hb); have m2 := Aside0.mk (blk_below B2.out hb); have HB2 := Aside0.mk hb; have HN := Aside0.mk hr; have G1W := Aside0.mk (blk_lt B1.out); have G2W := Aside0.mk (blk_lt B2.out); have HB2w := Aside0.mk HB.out; clear HB B1 B2 hr hb z0 z1 z2 f0 f1 f2; have HB := m0; have B1 := m1; have B2 := m2; clear m0 m1 m2; have z2 : w3.cell? ⟨g1, 2, none⟩ = some (.slice A0 l0.length c0) := (blk_cell B1.out 2).trans rfl; have f2 := blk_frozen B1.out 2))
  have hst : w3.setCell ⟨g1, 2, none⟩ (.slice A l0.length c) = w3.setCell ⟨g1, 2, none⟩ (.slice A l0.length c) := rfl
  have m0 := Aside0.mk (below_set HB.out G1.out : Below w.heap.size w (w3.setCell ⟨g1, 2, none⟩ (.slice A l0.length c)))
  have m1 := Aside0.mk (blk_put (cs := #[.string nm, .int .i64 tr, .slice A0 l0.length c0]) B1.out 2 (.slice A l0.length c) rfl)
  have m2 := Aside0.mk (blk_far B2.out (p := ⟨g1, 2, none⟩) (Ne.symm G12.out) (.slice A l0.length c))
  have m3 := Aside0.mk (Kd.N_far HN.out (p := ⟨g1, 2, none⟩) (fun k hk => by have h3 := G1.out; have h4 := G1W.out; dsimp only; rcases hk with hk | hk <;> omega) (.slice A l0.length c))
  have m4 := Aside0.mk (show w2.heap.size ≤ (w3.setCell ⟨g1, 2, none⟩ (.slice A l0.length c)).heap.size by have := HB2.out.size; simpa [World.setCell] using this)
  have hgx : ∃ g, (0 < l0.length → A = some ⟨g, 0, none⟩ ∧ w2.heap.size ≤ g ∧ g < (w3.setCell ⟨g1, 2, none⟩ (.slice A l0.length c)).heap.size) := by
    by_cases h : 0 < l0.length
    · obtain ⟨g, cap, e, h1, h2, _⟩ := Kd.N_form HN.out h
      injection e with e _ _
      exact ⟨g, fun _ => ⟨e, h1, by simpa [World.setCell] using h2⟩⟩
    · exact ⟨0, fun h2 => absurd h2 h⟩
  generalize w3.setCell ⟨g1, 2, none⟩ (.slice A l0.length c) = w4 at m0 m1 m2 m3 m4 hgx ⊢
  obtain ⟨g, hg⟩ := hgx
  have HG := Aside0.mk hg
  clear hg HB B1 B2 HN HB2 z2 f2
  have HB := m0
  have B1 := Aside0.mk (show w4.heap[g1]? = some (.cells #[.string nm, .int .i64 tr, .slice A l0.length c] 41 (0, 0)) from m1.out)
  have B2 := m2
  have HN := m3
  have HS := m4
  clear m0 m1 m2 m3 m4
  go_loopg [11] l0.length (fun kq v11 w' => ∃ i : Nat, v11 = .int .i64 i ∧ Aside0 (kq + i = l0.length) ∧ Aside0 (Below w.heap.size w w') ∧ Aside0 (w4.heap.size ≤ w'.heap.size) ∧ Aside0 (w'.heap[g1]? = some (.cells #[.string nm, .int .i64 tr, .slice A l0.length c] 41 (0, 0))) ∧ Aside0 (w'.heap[g2]? = some (.cells #[.string (⟨#[]⟩ : ByteArray), .int .i64 0, .slice none 0 0] 41 (0, 0))) ∧ Aside0 (Kd.N k66 66 w' w2.heap.size (fun k => k < w.heap.size ∨ w2.heap.size ≤ k) (.slice A l0.length c) l0) ∧ Aside0 (∀ j (hj : j < l0.length), j < i → ∃ Ae ce, w'.cell? ⟨g, j * 5 + 4, none⟩ = some (.slice Ae l0[j].f4.length ce) ∧ l0[j].f4.length ≤ ce ∧ Kd.F k25 w' (fun k => w4.heap.size ≤ k) Ae l0[j].f4.length l0[j].f4))
  case atStart => exact ⟨0, rfl, ⟨rfl⟩, HB, ⟨Nat.le_refl _⟩, B1, B2, HN, ⟨fun j hj h => absurd h (by omega)⟩⟩
  case round =>
    clear HB B1 B2 HN
    obtain ⟨i, rfl, HK, HB, HZ, B1, B2, HN, HI⟩ := hrel
    by_cases hi : i < l0.length
    · have hii : (i : Int) < (l0.length : Int) := by omega
      have hib : decide ((i : Int) < (l0.length : Int)) = true := decide_eq_true hii
      have hgi := HG.out (by omega)
      obtain ⟨hA, hgl, hgu⟩ := hgi
      subst hA
      obtain ⟨xc, hxl, hxf, hxc, hxz⟩ := Kd.N_elem HN.out z66 (i : Int) (by omega) (by omega)
      have hrd : l0.getD (i : Int).toNat z66 = l0[i] := by simp [List.getD_eq_getElem?_getD, hi]
      rw [hrd] at hxf
      obtain ⟨Ae, ce, exc, hce, hE⟩ := k66_open (Kd.FK_now hxf)
      rw [exc] at hxc
      have hxl2 := HLE.out l0[i] (List.getElem_mem hi)
      generalize hxi : l0[i] = xi at hE hce exc hxc hxf hxl2
      have HXI := Aside0.mk hxi
      clear hxi hrd
      have d1 : wr.cell? ⟨g1, 2, none⟩ = some (.slice (some ⟨g, 0, none⟩) l0.length c) := (blk_cell B1.out 2).trans rfl
      have d2 : wr.cell? ⟨g, i * 5 + 4, none⟩ = some (.slice Ae xi.f4.length ce) := hxc 4 _ rfl
      have HXC := Aside0.mk hxc
      have HZ0 := Aside0.mk HZ.out
      have HXF := Aside0.mk hxf
      have HXL := Aside0.mk (show xc.length = 5 from hxl)
      have HE := Aside0.mk hE
      have HEX := Aside0.mk exc
      have HGL := Aside0.mk hgl
      have HGU := Aside0.mk hgu
      clear hxc hxf hxl hE exc hgl hgu hxz
      obtain ⟨m, rfl⟩ : ∃ m, gk = m + 1 := ⟨gk - 1, by have := HK.out; omega⟩
      go_wp2
      refine start_ (n := 13) (S := fun w' => w'.cell? ⟨g1, 2, none⟩ = some (.slice (some ⟨g, 0, none⟩) l0.length c) ∧ w'.cell? ⟨g, i * 5 + 4, none⟩ = some (.slice Ae xi.f4.length ce)) (ds := [12]) #[false, false, false, false, false, false, false, false, false, false, false, false, false] (by kernel_rfl) rfl rfl ⟨d1, d2⟩ (fun hHeld => ?_)
      refine with_tabW contents_clone.tab5 contents_clone.bits5 (fun HT_ HW_ => ?_)
      refine pure_ (i := 0) (N := some 14) (v := ?_) (a' := ?_) #[true, false, false, false, false, false, false, false, false, false, false, false, false] rfl rfl (any_of HT_.out (by kernel_rfl)) (fun _ _ _ h => h) (Or.inl ⟨by rfl, ?_⟩) ?_ ?_
      rotate_left
      · intro w'
        go_simp
        with_reducible rfl
      rotate_left
      · simp only [Act.put, List.setIfInBounds_toArray, List.set_cons_zero, List.set_cons_succ, i64_w, i32_w]
        rfl
      refine pure_ (i := 2) (N := some 16) (v := ?_) (a' := ?_) #[true, false, true, false, false, false, false, false, false, false, false, false, false] rfl rfl (any_of HT_.out (by kernel_rfl)) (fun _ _ _ h => h) (Or.inl ⟨by rfl, ?_⟩) ?_ ?_
      rotate_left
      · intro w'
        go_simp
        with_reducible rfl
      rotate_left
      · simp only [Act.put, List.setIfInBounds_toArray, List.set_cons_zero, List.set_cons_succ, i64_w, i32_w]
        rfl
      refine pure_ (i := 3) (N := some 17) (v := ?_) (a' := ?_) #[true, false, true, true, false, false, false, false, false, false, false, false, false] rfl rfl (any_of HT_.out (by kernel_rfl)) (fun _ _ _ h => h) (Or.inl ⟨by rfl, ?_⟩) ?_ ?_
      rotate_left
      · intro w'
        go_simp
        with_reducible rfl
      rotate_left
      · simp only [Act.put, List.setIfInBounds_toArray, List.set_cons_zero, List.set_cons_succ, i64_w, i32_w]
        rfl
      refine pure_ (i := 5) (N := some 19) (v := ?_) (a' := ?_) #[true, false, true, true, false, true, false, false, false, false, false, false, false] rfl rfl (any_of HT_.out (by kernel_rfl)) (fun _ _ _ h => h) (Or.inl ⟨by rfl, ?_⟩) ?_ ?_
      rotate_left
      · intro w'
        go_simp
        with_reducible rfl
      rotate_left
      · simp only [Act.put, List.setIfInBounds_toArray, List.set_cons_zero, List.set_cons_succ, i64_w, i32_w]
        rfl
      refine take_ (i := 1) (N := some 15) (v := ?_) (a' := ?_) #[true, true, true, true, false, true, false, false, false, false, false, false, false] rfl rfl (take_ofW HT_.out HW_.out (by kernel_rfl)) (fun _ _ _ h => h) (Or.inl ⟨by rfl, ?_⟩) hHeld ?_ ?_
      rotate_left
      · rintro w' ⟨s0, s1⟩
        go_simp
        with_reducible rfl
      rotate_left
      · simp only [Act.put, List.setIfInBounds_toArray, List.set_cons_zero, List.set_cons_succ, i64_w, i32_w]
        rfl
      refine take_ (i := 4) (N := some 18) (v := ?_) (a' := ?_) #[true, true, true, true, true, true, false, false, false, false, false, false, false] rfl rfl (take_ofW HT_.out HW_.out (by kernel_rfl)) (fun _ _ _ h => h) (Or.inl ⟨by rfl, ?_⟩) hHeld ?_ ?_
      rotate_left
      · rintro w' ⟨s0, s1⟩
        go_simp
        with_reducible rfl
      rotate_left
      · simp only [Act.put, List.setIfInBounds_toArray, List.set_cons_zero, List.set_cons_succ, i64_w, i32_w]
        rfl
      refine pure_ (i := 6) (N := some 20) (v := ?_) (a' := ?_) #[true, true, true, true, true, true, true, false, false, false, false, false, false] rfl rfl (any_of HT_.out (by kernel_rfl)) (fun _ _ _ h => h) (Or.inl ⟨by rfl, ?_⟩) ?_ ?_
      rotate_left
      · intro w'
        go_simp
        with_reducible rfl
      rotate_left
      · simp only [Act.put, List.setIfInBounds_toArray, List.set_cons_zero, List.set_cons_succ, i64_w, i32_w]
        rfl
      refine pure_ (i := 7) (N := some 21) (v := ?_) (a' := ?_) #[true, true, true, true, true, true, true, true, false, false, false, false, false] rfl rfl (any_of HT_.out (by kernel_rfl)) (fun _ _ _ h => h) (Or.inl ⟨by rfl, ?_⟩) ?_ ?_
      rotate_left
      · intro w'
        go_simp
        with_reducible rfl
      rotate_left
      · simp only [Act.put, List.setIfInBounds_toArray, List.set_cons_zero, List.set_cons_succ, i64_w, i32_w]
        rfl
      refine take_ (i := 8) (N := some 22) (v := ?_) (a' := ?_) #[true, true, true, true, true, true, true, true, true, false, false, false, false] rfl rfl (take_ofW HT_.out HW_.out (by kernel_rfl)) (fun _ _ _ h => h) (Or.inl ⟨by rfl, ?_⟩) hHeld ?_ ?_
      rotate_left
      · rintro w' ⟨s0, s1⟩
        go_simp
        with_reducible rfl
      rotate_left
      · simp only [Act.put, List.setIfInBounds_toArray, List.set_cons_zero, List.set_cons_succ, i64_w, i32_w]
        rfl
      refine one_ (i := 9) (N := some 23) #[true, true, true, true, true, true, true, true, true, true, false, false, false] rfl rfl (one_of HT_.out (by kernel_rfl)) (by decide) (fun K hK => ?_)
      refine goes_ Try.func94 (by kernel_rfl) rfl #[.slice Ae xi.f4.length ce] (by rfl) rfl rfl (by simp only [List.map_toArray, List.map_cons, List.map_nil]; rfl) ?_
      with_reducible refine (clone_run Ae ce xi.f4 _ (Kd.C_drew HE.out) hce hxl2).mono ?_
      rintro e w5 ⟨ve, rfl, hr, hb⟩
      refine ⟨_, rfl, ?_⟩
      obtain ⟨Av, cv, rfl⟩ := Kd.R_slice hr
      have m0 := Aside0.mk (below_step (below_drew1 HB.out) hb)
      have m1 := Aside0.mk (Nat.le_trans HZ.out hb.size)
      have m2 := Aside0.mk (Kd.N_below (Kd.N_drew HN.out) hb)
      have m3 := Aside0.mk hr
      have m4 := Aside0.mk (blk_below (blk_drew B1.out) hb)
      have m5 := Aside0.mk (blk_below (blk_drew B2.out) hb)
      have m6 := Aside0.mk (show ∀ j (hj : j < l0.length), j < i → ∃ Ae ce, w5.cell? ⟨g, j * 5 + 4, none⟩ = some (.slice Ae l0[j].f4.length ce) ∧ l0[j].f4.length ≤ ce ∧ Kd.F k25 w5 (fun k => w4.heap.size ≤ k) Ae l0[j].f4.length l0[j].f4 from fun j hj hji => by obtain ⟨Aj, cj, q1, q2, q3⟩ := HI.out j hj hji; exact ⟨Aj, cj, (hb.cell (World.block_lt_of_cell? wr _ q1)).trans q1, q2, Kd.F_below (Kd.F_drew q3) hb⟩)
      have m7 := Aside0.mk (show ∀ (j : Nat) u, ([.int .i64 xi.f0, .int .i64 xi.f1, .string xi.f2, .string xi.f3, .slice Ae xi.f4.length ce] : List Value)[j]? = some u → w5.cell? ⟨g, i * 5 + j, none⟩ = some u from fun j u hu => by have q1 := HXC.out j u hu; exact (hb.cell (World.block_lt_of_cell? wr _ q1)).trans q1)
      have m8 := Aside0.mk (show w5.frozen? ⟨g, i * 5 + 4, none⟩ = false from by obtain ⟨_, _, _, _, q4⟩ := Kd.N_elem m2.out z66 (i : Int) (by omega) (by omega); have q5 := q4 4; exact q5)
      clear HB HZ HN hr B1 B2 HI HXC
      have HB := m0
      have HZ := m1
      have HN := m2
      have HV := m3
      have B1 := m4
      have B2 := m5
      have HI := m6
      have HXC := m7
      have d3 := m8.out
      clear m0 m1 m2 m3 m4 m5 m6 m7 m8
      refine hK.out _ _ ⟨(hb.cell (World.block_lt_of_cell? _ _ (hHeld.1))).trans (hHeld.1), (hb.cell (World.block_lt_of_cell? _ _ (hHeld.2))).trans (hHeld.2)⟩ (fun hHeld => ?_)
      clear hK K
      refine norm_ (a' := ?_) ?_ ?_
      rotate_left
      · show Act.put _ (some 23) _ = _
        simp only [Act.put, List.setIfInBounds_toArray, List.set_cons_zero, List.set_cons_succ, i64_w, i32_w]
        rfl
      refine pure_ (i := 10) (N := some 24) (v := ?_) (a' := ?_) #[true, true, true, true, true, true, true, true, true, true, true, false, false] rfl rfl (any_of HT_.out (by kernel_rfl)) (fun _ _ _ h => h) (Or.inl ⟨by rfl, ?_⟩) ?_ ?_
      rotate_left
      · intro w'
        go_simp
        with_reducible rfl
      rotate_left
      · simp only [Act.put, List.setIfInBounds_toArray, List.set_cons_zero, List.set_cons_succ, i64_w, i32_w]
        rfl
      refine pure_ (i := 11) (N := some 25) (v := ?_) (a' := ?_) #[true, true, true, true, true, true, true, true, true, true, true, true, false] rfl rfl (any_of HT_.out (by kernel_rfl)) (fun _ _ _ h => h) (Or.inl ⟨by rfl, ?_⟩) ?_ ?_
      rotate_left
      · intro w'
        go_simp
        with_reducible rfl
      rotate_left
      · simp only [Act.put, List.setIfInBounds_toArray, List.set_cons_zero, List.set_cons_succ, i64_w, i32_w]
        rfl
      refine last_ (i := 12) (N := none) #[true, true, true, true, true, true, true, true, true, true, true, true, true] rfl rfl (one_of HT_.out (by kernel_rfl)) (by decide) (fun K hK => ?_)
      have d2 := hHeld.2
      refine skip_ (w1 := ?_) (by rfl) rfl ?_ ?_
      rotate_left
      · go_simp
        rfl
      refine hK.out _ _ ?_
      clear hK K
      refine done_ (done_of HT_.out (by kernel_rfl)) ?_
      obtain ⟨hs2, hs3⟩ : (w5.setCell ⟨g, i * 5 + 4, none⟩ (.slice Av xi.f4.length cv)) = (w5.setCell ⟨g, i * 5 + 4, none⟩ (.slice Av xi.f4.length cv)) ∧ g1 ≠ g := ⟨rfl, by have := HGL.out; have := G1W.out; omega⟩
      have hs4 : g2 ≠ g := by have := HGL.out; have := G2W.out; omega
      have hbig : w4.heap.size ≤ wr.heap.size := HZ0.out
      have hFV : Kd.F k25 w5 (fun k => wr.heap.size ≤ k) Av xi.f4.length xi.f4 := Kd.R_F (Kd.R_mono (Kd.R_bound HV.out) (fun k hk => hk.2.1))
      have hseg := Kd.N_seg HN.out (i : Int) (by omega) (by omega) (c := [.int .i64 xi.f0, .int .i64 xi.f1, .string xi.f2, .string xi.f3, .slice Ae xi.f4.length ce]) (seg := [.slice Av xi.f4.length cv]) (j := 4) rfl (fun j u hu => by rw [Int.toNat_natCast]; exact HXC.out j u hu) (show 4 + 1 ≤ 5 from by decide) (x' := xi) (okp := fun k => wr.heap.size ≤ k) (fun W' hW => k66_mk W' xi (Kd.R_reads' HV.out).2.1 (hFV W' hW)) (fun k hk => ⟨.inr (by have := HS.out; omega), by have := HGU.out; omega⟩)
      have hset : l0.set (i : Int).toNat xi = l0 := by rw [Int.toNat_natCast, ← HXI.out, List.set_getElem_self]
      rw [hset, Int.toNat_natCast] at hseg
      have m0 := Aside0.mk (below_set HB.out (by have := HGL.out; have := G2W.out; have := G2.out; omega : w.heap.size ≤ g) : Below w.heap.size w (w5.setCell ⟨g, i * 5 + 4, none⟩ (.slice Av xi.f4.length cv)))
      have m1 := Aside0.mk (show w4.heap.size ≤ (w5.setCell ⟨g, i * 5 + 4, none⟩ (.slice Av xi.f4.length cv)).heap.size by have := HZ.out; simpa [World.setCell] using this)
      have m2 := Aside0.mk (blk_far B1.out (p := ⟨g, i * 5 + 4, none⟩) hs3 (.slice Av xi.f4.length cv))
      have m3 := Aside0.mk (blk_far B2.out (p := ⟨g, i * 5 + 4, none⟩) hs4 (.slice Av xi.f4.length cv))
      have m4 := Aside0.mk (show Kd.N k66 66 (w5.setCell ⟨g, i * 5 + 4, none⟩ (.slice Av xi.f4.length cv)) w2.heap.size (fun k => k < w.heap.size ∨ w2.heap.size ≤ k) (.slice (some ⟨g, 0, none⟩) l0.length c) l0 from hseg.1)
      have hfar : ∀ {A' : Option Addr} {n' : Nat} {xs' : List S25}, Kd.F k25 w5 (fun k => w4.heap.size ≤ k) A' n' xs' → Kd.F k25 (w5.setCell ⟨g, i * 5 + 4, none⟩ (.slice Av xi.f4.length cv)) (fun k => w4.heap.size ≤ k) A' n' xs' := fun h => Kd.F_far h (p := ⟨g, i * 5 + 4, none⟩) (fun k hk => by have := HGU.out; dsimp only; omega) _
      have m5 := Aside0.mk (show ∀ j (hj : j < l0.length), j < i + 1 → ∃ Ae ce, (w5.setCell ⟨g, i * 5 + 4, none⟩ (.slice Av xi.f4.length cv)).cell? ⟨g, j * 5 + 4, none⟩ = some (.slice Ae l0[j].f4.length ce) ∧ l0[j].f4.length ≤ ce ∧ Kd.F k25 (w5.setCell ⟨g, i * 5 + 4, none⟩ (.slice Av xi.f4.length cv)) (fun k => w4.heap.size ≤ k) Ae l0[j].f4.length l0[j].f4 from fun j hj hji => by
        by_cases e : j = i
        · subst e
          rw [HXI.out]
          exact ⟨Av, cv, World.cell?_setCell_same _ _ _ d2, (Kd.R_reads' HV.out).2.1, hfar (Kd.F_mono hFV (fun k hk => Nat.le_trans hbig hk))⟩
        · obtain ⟨Aj, cj, q1, q2, q3⟩ := HI.out j hj (by omega)
          exact ⟨Aj, cj, (World.cell?_setCell_other _ _ _ _ (by intro h; injection h; omega)).trans q1, q2, hfar q3⟩)
      clear HB HZ B1 B2 HN HI HV HXC
      generalize w5.setCell ⟨g, i * 5 + 4, none⟩ (.slice Av xi.f4.length cv) = w6 at m0 m1 m2 m3 m4 m5 ⊢
      go_wp2
      go_roundg m
      case measure => omega
      case rel => exact ⟨i + 1, by go_num, ⟨by have := HK.out; omega⟩, m0, m1, m2, m3, m4, m5⟩
    · have hib : decide ((i : Int) < (l0.length : Int)) = false := decide_eq_false (by omega)
      have z0 : wr.cell? ⟨g1, 0, none⟩ = some (.string nm) := (blk_cell B1.out 0).trans rfl
      have z1 : wr.cell? ⟨g1, 1, none⟩ = some (.int .i64 tr) := (blk_cell B1.out 1).trans rfl
      have z2 : wr.cell? ⟨g1, 2, none⟩ = some (.slice A l0.length c) := (blk_cell B1.out 2).trans rfl
      have y0 : wr.cell? ⟨g2, 0, none⟩ = some (.string (⟨#[]⟩ : ByteArray)) := (blk_cell B2.out 0).trans rfl
      have y1 : wr.cell? ⟨g2, 1, none⟩ = some (.int .i64 0) := (blk_cell B2.out 1).trans rfl
      have y2 : wr.cell? ⟨g2, 2, none⟩ = some (.slice none 0 0) := (blk_cell B2.out 2).trans rfl
      have e0 := blk_frozen B2.out 0
      have e1 := blk_frozen B2.out 1
      have e2 := blk_frozen B2.out 2
      have hin : i = l0.length := by have := HK.out; omega
      subst hin
      have hF : Kd.F k66 wr (fun k => w2.heap.size ≤ k) A l0.length l0 := F_rows66 (g := g) (by omega) (fun hp => (HG.out hp).1) (fun hp => (HG.out hp).2.1) (Kd.N_reads' HN.out).2.2 (fun j hj => by
        obtain ⟨Aj, cj, q1, q2, q3⟩ := HI.out j hj hj
        exact ⟨Aj, cj, q1, q2, Kd.F_mono q3 (fun k hk => Nat.le_trans HS.out hk)⟩)
      have hcl := (Kd.N_reads' HN.out).2.1
      have hne : ∀ k, w2.heap.size ≤ k → k ≠ g2 := fun k hk => by have := G2W.out; omega
      have HFF := Aside0.mk hF
      have HNE := Aside0.mk hne
      clear hF hne
      go_wp2
      refine bodyPost_ret (results_cell_row rfl _ _ g2 41 #[.string nm, .int .i64 tr, .slice A l0.length c] (0, 0) _ rfl (blk_put (cs := #[.string nm, .int .i64 tr, .slice none 0 0]) (blk_put (cs := #[.string nm, .int .i64 0, .slice none 0 0]) (blk_put (cs := #[.string (⟨#[]⟩ : ByteArray), .int .i64 0, .slice none 0 0]) B2.out 0 _ rfl) 1 _ rfl) 2 _ rfl) Try.underlying41 rfl (by kernel_rfl)) rfl ?_
      refine ⟨_, rfl, ?_, below_set (below_set (below_set HB.out G2.out) G2.out) G2.out, fun hp => ?_⟩
      rotate_left
      · obtain ⟨hA, hgl, hgu⟩ := HG.out hp
        obtain ⟨cs, hcs⟩ := Kd.N_typed HN.out g (by rw [hA]; rfl)
        have hg2 : g ≠ g2 := HNE.out g hgl
        have hL : Labs wr (fun k => w4.heap.size ≤ k) cs l0 := labs_of hcs (hA ▸ (Kd.N_reads' HN.out).2.2) (fun j hj => HI.out j hj hj)
        have hw42 := HS.out
        refine ⟨g, c, cs, by rw [hA], hcl, Nat.le_trans (below_size HB2w.out) hgl, blk_far (blk_far (blk_far hcs (p := ⟨g2, 0, none⟩) hg2 _) (p := ⟨g2, 1, none⟩) hg2 _) (p := ⟨g2, 2, none⟩) hg2 _, hL.step (fun k hk _ => ?_) (fun k hk => ⟨by have := below_size HB2w.out; omega, by omega⟩)⟩
        have hk2 := HNE.out k (by omega)
        exact (Below.heap_setCell _ ⟨g2, 2, none⟩ _ k hk2).trans ((Below.heap_setCell _ ⟨g2, 1, none⟩ _ k hk2).trans (Below.heap_setCell _ ⟨g2, 0, none⟩ _ k hk2))
      refine Kd.V_mk hcl (Kd.F_mono (Kd.F_far (Kd.F_far (Kd.F_far HFF.out (p := ⟨g2, 0, none⟩) HNE.out _) (p := ⟨g2, 1, none⟩) HNE.out _) (p := ⟨g2, 2, none⟩) HNE.out _) (fun k hk => Nat.le_trans (below_size HB2w.out) hk))
def api_Run_94.f (l0 : List S25) : Option (List S25) := if l0.length < 8796093022208 then some l0 else none
theorem api_Run_94.calls (A0 : Option Addr) (c0 : Nat) (l0 : List S25) (r : List S25) (w : World) (hr0 : Kd.C k25 w A0 l0.length l0) (hc0 : l0.length ≤ c0) (h : api_Run_94.f l0 = some r) :
    Calls Try.prog 94 #[.slice A0 l0.length c0] w fun e w' => ∃ v0_ : Value, e = .returned (v0_) ∧ Kd.V k25 25 w' w.heap.size (fun k_ => (w.heap.size ≤ k_)) v0_ r ∧ Below w.heap.size w w' := by
  unfold api_Run_94.f at h
  split at h
  · rename_i hl
    obtain rfl := Option.some.inj h
    refine (clone_run A0 c0 l0 w hr0 hc0 hl).mono ?_
    rintro e w' ⟨v, rfl, hr, hb⟩
    obtain ⟨A, c, rfl⟩ := Kd.R_slice hr
    exact ⟨_, rfl, Kd.V_mk (Kd.R_reads' hr).2.1 (Kd.R_F (Kd.R_mono (Kd.R_bound hr) (fun k hk => hk.2.1))), hb⟩
  · exact absurd h (by simp)
end Go.Proofs.Ytghpmenoiimpoaa.P
