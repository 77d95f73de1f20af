/-
  A call of each function gives what its model gives: printed by a program, checked by the kernel.
-/
import Derived.Test.YtcccboodapgejaaVWa
namespace Go.Proofs.Ytcccboodapgejaa
open Go.Sym Go.Cap

theorem c_tape_Join (N : Nat) (x0 : List TBlock) (gx0 : Gs (Gs Unit)) (r : TBlock × (List UInt8) × Int) (hm : tape_Join N x0 = some r) : CallOk Try.prog 14 [sl x0.length gx0] [vw eTBlock x0.length x0 gx0, fm eTBlock x0.length x0 gx0 nTBlock_0] [] (U := Gs Unit × Gs Unit) (fun u => .tuple #[ag (cTBlock r.1 u.1), sl r.2.1.length u.2, .int .i64 r.2.2]) (fun u => [vw elB r.1.Text.length r.1.Text u.1, rw 5 elB r.2.1.length r.2.1 u.2]) (fun _ => []) (fun _ => True) := by
  unfold tape_Join at hm
  refine callI (N := 106) Try.func14 (by kernel_rfl) (by kernel_rfl) (by kernel_rfl) ?_
  intro w0 B M a hF hH
  refine wp_seqE (by kernel_rfl) ?_
  refine wp_regE (by kernel_rfl) ?_
  refine seg [.al, .p, .p] [0, 2] (fun K => ∀ g1, K [⟨0, none, sl x0.length gx0⟩, ⟨2, none, .pointer (some ⟨g1, 0, none⟩)⟩] [.box g1 27 (cTBlock TBlock.z (gu none 0))]) (fun K => by kernel_rfl) hF hH ?_
  intro g1
  clear hF hH; intro a w hF hH
  refine wl_end (by kernel_rfl) ?_
  refine then_n ?_
  refine wp_seqE (by kernel_rfl) ?_
  refine wp_seqE (by kernel_rfl) ?_
  refine wp_regE (by kernel_rfl) ?_
  refine seg [.p, .p, .p] [0, 2, 18] (fun K => K [⟨0, none, sl x0.length gx0⟩, ⟨2, none, .pointer (some ⟨g1, 0, none⟩)⟩, ⟨18, none, .bool ((x0.length : Int) == 0)⟩] [.box g1 27 (cTBlock TBlock.z (gu none 0))]) (fun K => by kernel_rfl) hF hH ?_
  clear hF hH; intro a w hF hH
  refine wl_end (by kernel_rfl) ?_
  refine then_n ?_
  refine wp_condE (b := (x0.length : Int) == 0) (by kernel_rfl) (by kernel_rfl) hF (fun hb1 => ?_) (fun hb1 => ?_)
  · have hm := condT hb1 hm
    have hb1p := eq_of_beq hb1
    refine wp_seqE (by kernel_rfl) ?_
    refine wp_regE (by kernel_rfl) ?_
    refine seg [.p, .st 0, .p, .p] [2, 3, 4] (fun K => ((g1 : Nat) = g1 ∧ (none : Option Nat) = none) ∧ K [⟨2, none, .pointer (some ⟨g1, 0, none⟩)⟩, ⟨3, none, sl 0 (gu none 0)⟩, ⟨4, none, .int .i64 6⟩] [.box g1 27 (cTBlock TBlock.z (gu none 0))]) (fun K => by kernel_rfl) hF hH ?_
    refine ⟨⟨rfl, rfl⟩, ?_⟩
    clear hF hH; intro a w hF hH
    refine wl_end (by kernel_rfl) ?_
    refine then_n ?_
    refine wp_retE (by kernel_rfl) ?_
    refine then_ret ?_
    have hH := hH.nilRw 5 elB (gu none 0) rfl rfl
    have hH := hH.freeze (k := 1) rfl (imp_rv (by simp)) rfl
    have hH := hH.nilRw 5 elB (gu none 0) rfl rfl
    refine retE (vs := [ag (cTBlock TBlock.z (gu none 0)), sl 0 (gu none 0), .int .i64 6]) (p := (((g1 : Nat) = g1 ∧ (none : Option Nat) = none)) ∧ True) (v := .tuple #[ag (cTBlock TBlock.z (gu none 0)), sl 0 (gu none 0), .int .i64 6]) [0] (by kernel_rfl) ⟨⟨rfl, rfl⟩, trivial⟩ (by kernel_rfl) hF hH ?_
    obtain rfl := Option.some.inj hm
    exact ⟨((gu none 0), (gu none 0)), by kernel_rfl, hH.below, trivial, newK hH [1, 2] [] (by kernel_rfl) (by kernel_rfl) (by kernel_rfl) (by kernel_rfl)⟩
  · have hm := condF hb1 hm
    have hb1p := ne_of_beq_false hb1
    refine wp_skipE (by kernel_rfl) ?_
    refine then_n ?_
    refine wp_seqE (by kernel_rfl) ?_
    refine wp_seqE (by kernel_rfl) ?_
    refine wp_regE (by kernel_rfl) ?_
    refine seg [.p, .p, .p] [0, 2, 20, 21, 22] (fun K => K [⟨0, none, sl x0.length gx0⟩, ⟨2, none, .pointer (some ⟨g1, 0, none⟩)⟩, ⟨20, none, sl x0.length gx0⟩, ⟨21, none, .int .i64 (x0.length : Int)⟩, ⟨22, none, .int .i64 0⟩] [.box g1 27 (cTBlock TBlock.z (gu none 0))]) (fun K => by kernel_rfl) hF hH ?_
    clear hF hH; intro a w hF hH
    refine wl_end (by kernel_rfl) ?_
    refine then_n ?_
    obtain ⟨jk1, hjk1, hm⟩ := jn_some hm
    refine wp_blockJ (id := 0) (by kernel_rfl) (fun a w => jk1 = some r ∧ Fr 106 [⟨0, none, sl x0.length gx0⟩, ⟨2, none, .pointer (some ⟨g1, 0, none⟩)⟩] a ∧ Hp w0 B M [vw eTBlock x0.length x0 gx0, fm eTBlock x0.length x0 gx0 nTBlock_0] [.box g1 27 (cTBlock TBlock.z (gu none 0))] w) ?_ ?_
    · skip
      refine wp_loopE (by kernel_rfl) (fun msr a w => ∃ (v1 : Int), tape_Join_L4 N x0 jk1 msr v1 = some r ∧ Fr 106 [⟨0, none, sl x0.length gx0⟩, ⟨2, none, .pointer (some ⟨g1, 0, none⟩)⟩, ⟨20, none, sl x0.length gx0⟩, ⟨21, none, .int .i64 (x0.length : Int)⟩, ⟨22, none, .int .i64 v1⟩] a ∧ Hp w0 B M [vw eTBlock x0.length x0 gx0, fm eTBlock x0.length x0 gx0 nTBlock_0] [.box g1 27 (cTBlock TBlock.z (gu none 0))] w) N ⟨0, hm, frK hF [0, 2, 20, 21, 22] (by kernel_rfl), hpKN hH [0, 1] [0] (by kernel_rfl) (by kernel_rfl) (by kernel_rfl)⟩ ?_
      clear hF hH hm; rintro msr a w ⟨v1, hm, hF, hH⟩
      rcases msr with _ | msr
      · exact absurd hm (by simp [tape_Join_L4])
      rw [tape_Join_L4] at hm
      refine wp_seqE (by kernel_rfl) ?_
      refine wp_regE (by kernel_rfl) ?_
      refine seg [.p] [0, 2, 20, 21, 22, 23] (fun K => K [⟨0, none, sl x0.length gx0⟩, ⟨2, none, .pointer (some ⟨g1, 0, none⟩)⟩, ⟨20, none, sl x0.length gx0⟩, ⟨21, none, .int .i64 (x0.length : Int)⟩, ⟨22, none, .int .i64 v1⟩, ⟨23, none, .bool (decide (v1 < (x0.length : Int)))⟩] [.box g1 27 (cTBlock TBlock.z (gu none 0))]) (fun K => by kernel_rfl) hF hH ?_
      clear hF hH; intro a w hF hH
      refine wl_end (by kernel_rfl) ?_
      refine then_n ?_
      refine wp_seqE (by kernel_rfl) ?_
      refine wp_condE (b := decide (v1 < (x0.length : Int))) (by kernel_rfl) (by kernel_rfl) hF (fun hb2 => ?_) (fun hb2 => ?_)
      · have hm := condT hb2 hm
        have hb2p := of_decide_eq_true hb2
        refine wp_skipE (by kernel_rfl) ?_
        refine then_n ?_
        refine wp_seqE (by kernel_rfl) ?_
        refine wp_blockE (id := 1) (by kernel_rfl) ?_
        refine wp_seqE (by kernel_rfl) ?_
        refine wp_regE (by kernel_rfl) ?_
        obtain ⟨hp1, hm⟩ := grd_some hm
        refine seg [.ia (.n 0) v1.toNat, .lv (.n 0) v1.toNat 0, .al, .st 1] [0, 2, 20, 21, 22, 6] (fun K => (((gx0.a : Option Addr) = gx0.a) ∧ ((x0.length : Nat) = x0.length) ∧ ((18 : Nat) = 18) ∧ ((v1 : Int) = ((v1.toNat : Nat) : Int)) ∧ (v1.toNat < x0.length)) ∧ (((gx0.a.getD nilA).add (v1.toNat * 18) = ((gx0.a.getD nilA).add (v1.toNat * 18)).add 0) ∧ (v1.toNat < x0.length)) ∧ ∀ g2, ((g2 : Nat) = g2 ∧ (none : Option Nat) = none) ∧ K [⟨0, none, sl x0.length gx0⟩, ⟨2, none, .pointer (some ⟨g1, 0, none⟩)⟩, ⟨20, none, sl x0.length gx0⟩, ⟨21, none, .int .i64 (x0.length : Int)⟩, ⟨22, none, .int .i64 v1⟩, ⟨6, none, .pointer (some ⟨g2, 0, none⟩)⟩] [.box g1 27 (cTBlock TBlock.z (gu none 0)), .box g2 27 (cTBlock (x0.getD v1.toNat TBlock.z) (gx0.g v1.toNat))]) (fun K => by kernel_rfl) hF hH ?_
        refine ⟨⟨rfl, rfl, rfl, by omega, by omega⟩, ?_⟩
        refine ⟨⟨rfl, by omega⟩, ?_⟩
        intro g2
        refine ⟨⟨rfl, rfl⟩, ?_⟩
        clear hF hH; intro a w hF hH
        refine wl_end (by kernel_rfl) ?_
        refine then_n ?_
        refine wp_seqE (by kernel_rfl) ?_
        refine wp_regE (by kernel_rfl) ?_
        refine seg [.ld (.r 1)] [0, 2, 20, 21, 22, 26] (fun K => (((g2 : Nat) = g2) ∧ ((none : Option Nat) = none)) ∧ K [⟨0, none, sl x0.length gx0⟩, ⟨2, none, .pointer (some ⟨g1, 0, none⟩)⟩, ⟨20, none, sl x0.length gx0⟩, ⟨21, none, .int .i64 (x0.length : Int)⟩, ⟨22, none, .int .i64 v1⟩, ⟨26, none, ag (cTBlock (x0.getD v1.toNat TBlock.z) (gx0.g v1.toNat))⟩] [.box g1 27 (cTBlock TBlock.z (gu none 0)), .box g2 27 (cTBlock (x0.getD v1.toNat TBlock.z) (gx0.g v1.toNat))]) (fun K => by kernel_rfl) hF hH ?_
        refine ⟨⟨rfl, rfl⟩, ?_⟩
        clear hF hH; intro a w hF hH
        have hH := hH.lookN (k := 1) rfl (imp_elem (i := v1.toNat) (by omega) (fun _ _ => rfl))
        obtain ⟨r1, hx1, hm⟩ := bnd_some hm
        refine callE (d := 27) (c_tape_Check N (x0.getD v1.toNat TBlock.z) (gx0.g v1.toNat) r1 hx1) [.v (.n 2)] [] (by kernel_rfl) trivial (.inl rfl) (by kernel_rfl) (by kernel_rfl) (by kernel_rfl) (by kernel_rfl) hF hH ?_
        clear hF hH; rintro ⟨⟩ - a w hF hH
        refine seg [.p] [0, 2, 20, 21, 22, 7] (fun K => K [⟨0, none, sl x0.length gx0⟩, ⟨2, none, .pointer (some ⟨g1, 0, none⟩)⟩, ⟨20, none, sl x0.length gx0⟩, ⟨21, none, .int .i64 (x0.length : Int)⟩, ⟨22, none, .int .i64 v1⟩, ⟨7, none, .int .i64 r1⟩] [.box g1 27 (cTBlock TBlock.z (gu none 0)), .box g2 27 (cTBlock (x0.getD v1.toNat TBlock.z) (gx0.g v1.toNat))]) (fun K => by kernel_rfl) hF hH ?_
        clear hF hH; intro a w hF hH
        refine wl_end (by kernel_rfl) ?_
        refine then_n ?_
        refine wp_seqE (by kernel_rfl) ?_
        refine wp_regE (by kernel_rfl) ?_
        refine seg [.p, .p] [0, 2, 20, 21, 22, 7, 29] (fun K => K [⟨0, none, sl x0.length gx0⟩, ⟨2, none, .pointer (some ⟨g1, 0, none⟩)⟩, ⟨20, none, sl x0.length gx0⟩, ⟨21, none, .int .i64 (x0.length : Int)⟩, ⟨22, none, .int .i64 v1⟩, ⟨7, none, .int .i64 r1⟩, ⟨29, none, .bool (r1 != 0)⟩] [.box g1 27 (cTBlock TBlock.z (gu none 0)), .box g2 27 (cTBlock (x0.getD v1.toNat TBlock.z) (gx0.g v1.toNat))]) (fun K => by kernel_rfl) hF hH ?_
        clear hF hH; intro a w hF hH
        refine wl_end (by kernel_rfl) ?_
        refine then_n ?_
        refine wp_condE (b := r1 != 0) (by kernel_rfl) (by kernel_rfl) hF (fun hb3 => ?_) (fun hb3 => ?_)
        · have hm := condT hb3 hm
          have hb3p := ne_of_bne hb3
          refine wp_seqE (by kernel_rfl) ?_
          refine wp_regE (by kernel_rfl) ?_
          refine seg [.p, .p, .st 0, .p, .p] [2, 3, 4] (fun K => ((g1 : Nat) = g1 ∧ (none : Option Nat) = none) ∧ K [⟨2, none, .pointer (some ⟨g1, 0, none⟩)⟩, ⟨3, none, sl 0 (gu none 0)⟩, ⟨4, none, .int .i64 r1⟩] [.box g1 27 (cTBlock TBlock.z (gu none 0)), .box g2 27 (cTBlock (x0.getD v1.toNat TBlock.z) (gx0.g v1.toNat))]) (fun K => by kernel_rfl) hF hH ?_
          refine ⟨⟨rfl, rfl⟩, ?_⟩
          clear hF hH; intro a w hF hH
          refine wl_end (by kernel_rfl) ?_
          refine then_n ?_
          refine wp_retE (by kernel_rfl) ?_
          refine block_ret ?_
          refine then_ret ?_
          refine then_ret ?_
          refine block_ret ?_
          refine then_ret ?_
          refine then_ret ?_
          have hH := hH.nilRw 5 elB (gu none 0) rfl rfl
          have hH := hH.freeze (k := 2) rfl (imp_rv (by simp)) rfl
          have hH := hH.nilRw 5 elB (gu none 0) rfl rfl
          refine retE (vs := [ag (cTBlock TBlock.z (gu none 0)), sl 0 (gu none 0), .int .i64 r1]) (p := (((g1 : Nat) = g1 ∧ (none : Option Nat) = none)) ∧ True) (v := .tuple #[ag (cTBlock TBlock.z (gu none 0)), sl 0 (gu none 0), .int .i64 r1]) [0] (by kernel_rfl) ⟨⟨rfl, rfl⟩, trivial⟩ (by kernel_rfl) hF hH ?_
          obtain rfl := Option.some.inj hm
          exact ⟨((gu none 0), (gu none 0)), by kernel_rfl, hH.below, trivial, newK hH [2, 3] [] (by kernel_rfl) (by kernel_rfl) (by kernel_rfl) (by kernel_rfl)⟩
        · have hm := condF hb3 hm
          have hb3p := eq_of_bne_false hb3
          refine wp_skipE (by kernel_rfl) ?_
          refine block_n ?_
          refine then_n ?_
          refine wp_regE (by kernel_rfl) ?_
          refine seg [.p, .p] [0, 2, 20, 21, 22] (fun K => K [⟨0, none, sl x0.length gx0⟩, ⟨2, none, .pointer (some ⟨g1, 0, none⟩)⟩, ⟨20, none, sl x0.length gx0⟩, ⟨21, none, .int .i64 (x0.length : Int)⟩, ⟨22, none, .int .i64 (w64 (v1 + 1))⟩] [.box g1 27 (cTBlock TBlock.z (gu none 0)), .box g2 27 (cTBlock (x0.getD v1.toNat TBlock.z) (gx0.g v1.toNat))]) (fun K => by kernel_rfl) hF hH ?_
          clear hF hH; intro a w hF hH
          refine wl_end (by kernel_rfl) ?_
          refine then_n ?_
          exact ⟨msr, Nat.lt_succ_self _, w64 (v1 + 1), hm, frK hF [0, 2, 20, 21, 22] (by kernel_rfl), hpKN hH [0, 1] [0] (by kernel_rfl) (by kernel_rfl) (by kernel_rfl)⟩
      · have hm := condF hb2 hm
        have hb2p := of_decide_eq_false hb2
        refine wp_exitE (id := 0) (by kernel_rfl) ?_
        refine then_exit ?_
        refine then_exit ?_
        refine block_exit ?_
        refine then_n ?_
        exact ⟨hm, frK hF [0, 2] (by kernel_rfl), hpKN hH [0, 1] [0] (by kernel_rfl) (by kernel_rfl) (by kernel_rfl)⟩
    · clear hF hH hm; rintro a w ⟨hm, hF, hH⟩
      rw [hjk1] at hm
      refine then_n ?_
      refine wp_seqE (by kernel_rfl) ?_
      refine wp_regE (by kernel_rfl) ?_
      refine seg [.p, .p, .p, .p] [0, 2, 8] (fun K => K [⟨0, none, sl x0.length gx0⟩, ⟨2, none, .pointer (some ⟨g1, 0, none⟩)⟩, ⟨8, none, .int .i64 (w64 ((x0.length : Int) - 1))⟩] [.box g1 27 (cTBlock TBlock.z (gu none 0))]) (fun K => by kernel_rfl) hF hH ?_
      clear hF hH; intro a w hF hH
      refine wl_end (by kernel_rfl) ?_
      refine then_n ?_
      refine wp_seqE (by kernel_rfl) ?_
      refine wp_seqE (by kernel_rfl) ?_
      refine wp_regE (by kernel_rfl) ?_
      refine seg [.p, .p, .p] [0, 2, 8, 36, 37, 38] (fun K => K [⟨0, none, sl x0.length gx0⟩, ⟨2, none, .pointer (some ⟨g1, 0, none⟩)⟩, ⟨8, none, .int .i64 (w64 ((x0.length : Int) - 1))⟩, ⟨36, none, sl x0.length gx0⟩, ⟨37, none, .int .i64 (x0.length : Int)⟩, ⟨38, none, .int .i64 0⟩] [.box g1 27 (cTBlock TBlock.z (gu none 0))]) (fun K => by kernel_rfl) hF hH ?_
      clear hF hH; intro a w hF hH
      refine wl_end (by kernel_rfl) ?_
      refine then_n ?_
      obtain ⟨jk2, hjk2, hm⟩ := jn_some hm
      refine wp_blockJ (id := 2) (by kernel_rfl) (fun a w => jk2 = some r ∧ Fr 106 [⟨0, none, sl x0.length gx0⟩, ⟨2, none, .pointer (some ⟨g1, 0, none⟩)⟩, ⟨8, none, .int .i64 (w64 ((x0.length : Int) - 1))⟩] a ∧ Hp w0 B M [vw eTBlock x0.length x0 gx0, fm eTBlock x0.length x0 gx0 nTBlock_0] [.box g1 27 (cTBlock TBlock.z (gu none 0))] w) ?_ ?_
      · skip
        refine wp_loopE (by kernel_rfl) (fun msr a w => ∃ (v2 : Int), tape_Join_L12 N x0 jk2 msr v2 = some r ∧ Fr 106 [⟨0, none, sl x0.length gx0⟩, ⟨2, none, .pointer (some ⟨g1, 0, none⟩)⟩, ⟨8, none, .int .i64 (w64 ((x0.length : Int) - 1))⟩, ⟨36, none, sl x0.length gx0⟩, ⟨37, none, .int .i64 (x0.length : Int)⟩, ⟨38, none, .int .i64 v2⟩] a ∧ Hp w0 B M [vw eTBlock x0.length x0 gx0, fm eTBlock x0.length x0 gx0 nTBlock_0] [.box g1 27 (cTBlock TBlock.z (gu none 0))] w) N ⟨0, hm, frK hF [0, 2, 8, 36, 37, 38] (by kernel_rfl), hpKN hH [0, 1] [0] (by kernel_rfl) (by kernel_rfl) (by kernel_rfl)⟩ ?_
        clear hF hH hm; rintro msr a w ⟨v2, hm, hF, hH⟩
        rcases msr with _ | msr
        · exact absurd hm (by simp [tape_Join_L12])
        rw [tape_Join_L12] at hm
        refine wp_seqE (by kernel_rfl) ?_
        refine wp_regE (by kernel_rfl) ?_
        refine seg [.p] [0, 2, 8, 36, 37, 38, 39] (fun K => K [⟨0, none, sl x0.length gx0⟩, ⟨2, none, .pointer (some ⟨g1, 0, none⟩)⟩, ⟨8, none, .int .i64 (w64 ((x0.length : Int) - 1))⟩, ⟨36, none, sl x0.length gx0⟩, ⟨37, none, .int .i64 (x0.length : Int)⟩, ⟨38, none, .int .i64 v2⟩, ⟨39, none, .bool (decide (v2 < (x0.length : Int)))⟩] [.box g1 27 (cTBlock TBlock.z (gu none 0))]) (fun K => by kernel_rfl) hF hH ?_
        clear hF hH; intro a w hF hH
        refine wl_end (by kernel_rfl) ?_
        refine then_n ?_
        refine wp_seqE (by kernel_rfl) ?_
        refine wp_condE (b := decide (v2 < (x0.length : Int))) (by kernel_rfl) (by kernel_rfl) hF (fun hb4 => ?_) (fun hb4 => ?_)
        · have hm := condT hb4 hm
          have hb4p := of_decide_eq_true hb4
          refine wp_skipE (by kernel_rfl) ?_
          refine then_n ?_
          refine wp_seqE (by kernel_rfl) ?_
          refine wp_blockE (id := 3) (by kernel_rfl) ?_
          refine wp_seqE (by kernel_rfl) ?_
          refine wp_regE (by kernel_rfl) ?_
          obtain ⟨hp2, hm⟩ := grd_some hm
          refine seg [.p, .ia (.n 0) v2.toNat, .lv (.n 0) v2.toNat 0, .al, .p, .st 1] [0, 2, 8, 36, 37, 38, 10, 9] (fun K => (((gx0.a : Option Addr) = gx0.a) ∧ ((x0.length : Nat) = x0.length) ∧ ((18 : Nat) = 18) ∧ ((v2 : Int) = ((v2.toNat : Nat) : Int)) ∧ (v2.toNat < x0.length)) ∧ (((gx0.a.getD nilA).add (v2.toNat * 18) = ((gx0.a.getD nilA).add (v2.toNat * 18)).add 0) ∧ (v2.toNat < x0.length)) ∧ ∀ g3, ((g3 : Nat) = g3 ∧ (none : Option Nat) = none) ∧ K [⟨0, none, sl x0.length gx0⟩, ⟨2, none, .pointer (some ⟨g1, 0, none⟩)⟩, ⟨8, none, .int .i64 (w64 ((x0.length : Int) - 1))⟩, ⟨36, none, sl x0.length gx0⟩, ⟨37, none, .int .i64 (x0.length : Int)⟩, ⟨38, none, .int .i64 v2⟩, ⟨10, none, .pointer (some ⟨g3, 0, none⟩)⟩, ⟨9, none, .int .i64 v2⟩] [.box g1 27 (cTBlock TBlock.z (gu none 0)), .box g3 27 (cTBlock (x0.getD v2.toNat TBlock.z) (gx0.g v2.toNat))]) (fun K => by kernel_rfl) hF hH ?_
          refine ⟨⟨rfl, rfl, rfl, by omega, by omega⟩, ?_⟩
          refine ⟨⟨rfl, by omega⟩, ?_⟩
          intro g3
          refine ⟨⟨rfl, rfl⟩, ?_⟩
          clear hF hH; intro a w hF hH
          refine wl_end (by kernel_rfl) ?_
          refine then_n ?_
          refine wp_seqE (by kernel_rfl) ?_
          refine wp_regE (by kernel_rfl) ?_
          refine seg [.p, .p] [0, 2, 8, 36, 37, 38, 10, 9, 11] (fun K => K [⟨0, none, sl x0.length gx0⟩, ⟨2, none, .pointer (some ⟨g1, 0, none⟩)⟩, ⟨8, none, .int .i64 (w64 ((x0.length : Int) - 1))⟩, ⟨36, none, sl x0.length gx0⟩, ⟨37, none, .int .i64 (x0.length : Int)⟩, ⟨38, none, .int .i64 v2⟩, ⟨10, none, .pointer (some ⟨g3, 0, none⟩)⟩, ⟨9, none, .int .i64 v2⟩, ⟨11, none, .int .i64 v2⟩] [.box g1 27 (cTBlock TBlock.z (gu none 0)), .box g3 27 (cTBlock (x0.getD v2.toNat TBlock.z) (gx0.g v2.toNat))]) (fun K => by kernel_rfl) hF hH ?_
          clear hF hH; intro a w hF hH
          refine wl_end (by kernel_rfl) ?_
          refine then_n ?_
          obtain ⟨jk3, hjk3, hm⟩ := jn_some hm
          refine wp_seqJ (by kernel_rfl) (fun a w => ∃ (v3 : Int), jk3 v3 = some r ∧ Fr 106 [⟨0, none, sl x0.length gx0⟩, ⟨2, none, .pointer (some ⟨g1, 0, none⟩)⟩, ⟨8, none, .int .i64 (w64 ((x0.length : Int) - 1))⟩, ⟨10, none, .pointer (some ⟨g3, 0, none⟩)⟩, ⟨11, none, .int .i64 v3⟩, ⟨36, none, sl x0.length gx0⟩, ⟨37, none, .int .i64 (x0.length : Int)⟩, ⟨38, none, .int .i64 v2⟩] a ∧ Hp w0 B M [vw eTBlock x0.length x0 gx0, fm eTBlock x0.length x0 gx0 nTBlock_0] [.box g3 27 (cTBlock (x0.getD v2.toNat TBlock.z) (gx0.g v2.toNat)), .box g1 27 (cTBlock TBlock.z (gu none 0))] w) ?_ ?_
          · skip
            refine wp_seqE (by kernel_rfl) ?_
            refine wp_regE (by kernel_rfl) ?_
            refine seg [.p, .p, .p] [0, 2, 8, 36, 37, 38, 10, 11, 46] (fun K => K [⟨0, none, sl x0.length gx0⟩, ⟨2, none, .pointer (some ⟨g1, 0, none⟩)⟩, ⟨8, none, .int .i64 (w64 ((x0.length : Int) - 1))⟩, ⟨36, none, sl x0.length gx0⟩, ⟨37, none, .int .i64 (x0.length : Int)⟩, ⟨38, none, .int .i64 v2⟩, ⟨10, none, .pointer (some ⟨g3, 0, none⟩)⟩, ⟨11, none, .int .i64 v2⟩, ⟨46, none, .bool (v2 == (w64 ((x0.length : Int) - 1)))⟩] [.box g1 27 (cTBlock TBlock.z (gu none 0)), .box g3 27 (cTBlock (x0.getD v2.toNat TBlock.z) (gx0.g v2.toNat))]) (fun K => by kernel_rfl) hF hH ?_
            clear hF hH; intro a w hF hH
            refine wl_end (by kernel_rfl) ?_
            refine then_n ?_
            refine wp_condE (b := v2 == (w64 ((x0.length : Int) - 1))) (by kernel_rfl) (by kernel_rfl) hF (fun hb5 => ?_) (fun hb5 => ?_)
            · have hm := condT hb5 hm
              have hb5p := eq_of_beq hb5
              refine wp_regE (by kernel_rfl) ?_
              refine seg [.p] [0, 2, 8, 36, 37, 38, 10, 11] (fun K => K [⟨0, none, sl x0.length gx0⟩, ⟨2, none, .pointer (some ⟨g1, 0, none⟩)⟩, ⟨8, none, .int .i64 (w64 ((x0.length : Int) - 1))⟩, ⟨36, none, sl x0.length gx0⟩, ⟨37, none, .int .i64 (x0.length : Int)⟩, ⟨38, none, .int .i64 v2⟩, ⟨10, none, .pointer (some ⟨g3, 0, none⟩)⟩, ⟨11, none, .int .i64 255⟩] [.box g1 27 (cTBlock TBlock.z (gu none 0)), .box g3 27 (cTBlock (x0.getD v2.toNat TBlock.z) (gx0.g v2.toNat))]) (fun K => by kernel_rfl) hF hH ?_
              clear hF hH; intro a w hF hH
              refine wl_end (by kernel_rfl) ?_
              refine then_n ?_
              exact ⟨255, hm, frK hF [0, 2, 8, 10, 11, 36, 37, 38] (by kernel_rfl), hpKN hH [0, 1] [1, 0] (by kernel_rfl) (by kernel_rfl) (by kernel_rfl)⟩
            · have hm := condF hb5 hm
              have hb5p := ne_of_beq_false hb5
              refine wp_skipE (by kernel_rfl) ?_
              refine then_n ?_
              exact ⟨v2, hm, frK hF [0, 2, 8, 10, 11, 36, 37, 38] (by kernel_rfl), hpKN hH [0, 1] [1, 0] (by kernel_rfl) (by kernel_rfl) (by kernel_rfl)⟩
          · clear hF hH hm; rintro a w ⟨v3, hm, hF, hH⟩
            rw [hjk3] at hm
            refine wp_seqE (by kernel_rfl) ?_
            obtain ⟨hp3, hm⟩ := grd_some hm
            rcases Bool.eq_false_or_eq_true ((((x0.getD v2.toNat TBlock.z).Extension).toNat : Int) != v3) with hy1 | hy1
            · have hm := condT hy1 hm
              have hy1p := ne_of_bne hy1
              refine drawE (n := 13) (by kernel_rfl) (by kernel_rfl) (by kernel_rfl) (by kernel_rfl) [0, 1] [0, 2, 8, 36, 37, 38, 53, 54, 55, 56, 57, 58, 59] (.take 0 (.p) (.take 1 (.ld (.r 0)) (.take 2 (.pv (.int .i64 (((x0.getD v2.toNat TBlock.z).Extension).toNat : Int))) (.take 3 (.p) (.take 4 (.p) (.take 5 (.p) (.eff [(6, .sk), (7, .sk)] (fun i => (bif Nat.beq i 6 then .eff [(7, .sk)] (fun _ => .eff [(8, .sk)] (fun _ => .eff [(9, .sk)] (fun _ => .eff [(10, .sk)] (fun _ => .eff [(11, .sk)] (fun _ => .take 12 (.pt true) ((.done [0, 1]))))))) else .eff [(6, .sk), (8, .sk)] (fun i => (bif Nat.beq i 6 then .eff [(8, .sk)] (fun _ => .eff [(9, .sk)] (fun _ => .eff [(10, .sk)] (fun _ => .eff [(11, .sk)] (fun _ => .take 12 (.pt true) ((.done [0, 1])))))) else .eff [(6, .sk), (9, .sk)] (fun i => (bif Nat.beq i 6 then .eff [(9, .sk)] (fun _ => .eff [(10, .sk)] (fun _ => .eff [(11, .sk)] (fun _ => .take 12 (.pt true) ((.done [0, 1]))))) else .eff [(6, .sk)] (fun _ => .eff [(10, .sk)] (fun _ => .eff [(11, .sk)] (fun _ => .take 12 (.pt true) ((.done [0, 1])))))))))))))))))) (fun l rs => l = [⟨0, none, sl x0.length gx0⟩, ⟨2, none, .pointer (some ⟨g1, 0, none⟩)⟩, ⟨8, none, .int .i64 (w64 ((x0.length : Int) - 1))⟩, ⟨36, none, sl x0.length gx0⟩, ⟨37, none, .int .i64 (x0.length : Int)⟩, ⟨38, none, .int .i64 v2⟩, ⟨53, none, undef⟩, ⟨54, none, undef⟩, ⟨55, none, undef⟩, ⟨56, none, undef⟩, ⟨57, none, undef⟩, ⟨58, none, undef⟩, ⟨59, none, .bool true⟩] ∧ rs = [.box g3 27 (cTBlock (x0.getD v2.toNat TBlock.z) (gx0.g v2.toNat)), .box g1 27 (cTBlock TBlock.z (gu none 0))]) (fun K => (((g3 : Nat) = g3) ∧ ((none : Option Nat) = none)) ∧ (Value.int .i64 (IntKind.wrap .i64 (((x0.getD v2.toNat TBlock.z).Extension).toNat : Int)) = .int .i64 (((x0.getD v2.toNat TBlock.z).Extension).toNat : Int)) ∧ ((((((x0.getD v2.toNat TBlock.z).Extension).toNat : Int) != v3) = !false) ∧ (([.box g3 27 (cTBlock (x0.getD v2.toNat TBlock.z) (gx0.g v2.toNat)), .box g1 27 (cTBlock TBlock.z (gu none 0))] : List Res) = [.box g3 27 (cTBlock (x0.getD v2.toNat TBlock.z) (gx0.g v2.toNat)), .box g1 27 (cTBlock TBlock.z (gu none 0))]) ∧ ((((((x0.getD v2.toNat TBlock.z).Extension).toNat : Int) != v3) = !false) ∧ (([.box g3 27 (cTBlock (x0.getD v2.toNat TBlock.z) (gx0.g v2.toNat)), .box g1 27 (cTBlock TBlock.z (gu none 0))] : List Res) = [.box g3 27 (cTBlock (x0.getD v2.toNat TBlock.z) (gx0.g v2.toNat)), .box g1 27 (cTBlock TBlock.z (gu none 0))]) ∧ ((((((x0.getD v2.toNat TBlock.z).Extension).toNat : Int) != v3) = !false) ∧ (([.box g3 27 (cTBlock (x0.getD v2.toNat TBlock.z) (gx0.g v2.toNat)), .box g1 27 (cTBlock TBlock.z (gu none 0))] : List Res) = [.box g3 27 (cTBlock (x0.getD v2.toNat TBlock.z) (gx0.g v2.toNat)), .box g1 27 (cTBlock TBlock.z (gu none 0))]) ∧ ((((((x0.getD v2.toNat TBlock.z).Extension).toNat : Int) != v3) = !false) ∧ (([.box g3 27 (cTBlock (x0.getD v2.toNat TBlock.z) (gx0.g v2.toNat)), .box g1 27 (cTBlock TBlock.z (gu none 0))] : List Res) = [.box g3 27 (cTBlock (x0.getD v2.toNat TBlock.z) (gx0.g v2.toNat)), .box g1 27 (cTBlock TBlock.z (gu none 0))]) ∧ ((((((x0.getD v2.toNat TBlock.z).Extension).toNat : Int) != v3) = !false) ∧ (([.box g3 27 (cTBlock (x0.getD v2.toNat TBlock.z) (gx0.g v2.toNat)), .box g1 27 (cTBlock TBlock.z (gu none 0))] : List Res) = [.box g3 27 (cTBlock (x0.getD v2.toNat TBlock.z) (gx0.g v2.toNat)), .box g1 27 (cTBlock TBlock.z (gu none 0))]) ∧ ((((((x0.getD v2.toNat TBlock.z).Extension).toNat : Int) != v3) = !false) ∧ (([.box g3 27 (cTBlock (x0.getD v2.toNat TBlock.z) (gx0.g v2.toNat)), .box g1 27 (cTBlock TBlock.z (gu none 0))] : List Res) = [.box g3 27 (cTBlock (x0.getD v2.toNat TBlock.z) (gx0.g v2.toNat)), .box g1 27 (cTBlock TBlock.z (gu none 0))]) ∧ (((((x0.getD v2.toNat TBlock.z).Extension).toNat : Int) != v3) = true) ∧ K [⟨0, none, sl x0.length gx0⟩, ⟨2, none, .pointer (some ⟨g1, 0, none⟩)⟩, ⟨8, none, .int .i64 (w64 ((x0.length : Int) - 1))⟩, ⟨36, none, sl x0.length gx0⟩, ⟨37, none, .int .i64 (x0.length : Int)⟩, ⟨38, none, .int .i64 v2⟩, ⟨53, none, undef⟩, ⟨54, none, undef⟩, ⟨55, none, undef⟩, ⟨56, none, undef⟩, ⟨57, none, undef⟩, ⟨58, none, undef⟩, ⟨59, none, .bool true⟩] [.box g3 27 (cTBlock (x0.getD v2.toNat TBlock.z) (gx0.g v2.toNat)), .box g1 27 (cTBlock TBlock.z (gu none 0))])))))) ∧ ((((((x0.getD v2.toNat TBlock.z).Extension).toNat : Int) != v3) = !false) ∧ (([.box g3 27 (cTBlock (x0.getD v2.toNat TBlock.z) (gx0.g v2.toNat)), .box g1 27 (cTBlock TBlock.z (gu none 0))] : List Res) = [.box g3 27 (cTBlock (x0.getD v2.toNat TBlock.z) (gx0.g v2.toNat)), .box g1 27 (cTBlock TBlock.z (gu none 0))]) ∧ ((((((x0.getD v2.toNat TBlock.z).Extension).toNat : Int) != v3) = !false) ∧ (([.box g3 27 (cTBlock (x0.getD v2.toNat TBlock.z) (gx0.g v2.toNat)), .box g1 27 (cTBlock TBlock.z (gu none 0))] : List Res) = [.box g3 27 (cTBlock (x0.getD v2.toNat TBlock.z) (gx0.g v2.toNat)), .box g1 27 (cTBlock TBlock.z (gu none 0))]) ∧ ((((((x0.getD v2.toNat TBlock.z).Extension).toNat : Int) != v3) = !false) ∧ (([.box g3 27 (cTBlock (x0.getD v2.toNat TBlock.z) (gx0.g v2.toNat)), .box g1 27 (cTBlock TBlock.z (gu none 0))] : List Res) = [.box g3 27 (cTBlock (x0.getD v2.toNat TBlock.z) (gx0.g v2.toNat)), .box g1 27 (cTBlock TBlock.z (gu none 0))]) ∧ ((((((x0.getD v2.toNat TBlock.z).Extension).toNat : Int) != v3) = !false) ∧ (([.box g3 27 (cTBlock (x0.getD v2.toNat TBlock.z) (gx0.g v2.toNat)), .box g1 27 (cTBlock TBlock.z (gu none 0))] : List Res) = [.box g3 27 (cTBlock (x0.getD v2.toNat TBlock.z) (gx0.g v2.toNat)), .box g1 27 (cTBlock TBlock.z (gu none 0))]) ∧ ((((((x0.getD v2.toNat TBlock.z).Extension).toNat : Int) != v3) = !false) ∧ (([.box g3 27 (cTBlock (x0.getD v2.toNat TBlock.z) (gx0.g v2.toNat)), .box g1 27 (cTBlock TBlock.z (gu none 0))] : List Res) = [.box g3 27 (cTBlock (x0.getD v2.toNat TBlock.z) (gx0.g v2.toNat)), .box g1 27 (cTBlock TBlock.z (gu none 0))]) ∧ ((((((x0.getD v2.toNat TBlock.z).Extension).toNat : Int) != v3) = !false) ∧ (([.box g3 27 (cTBlock (x0.getD v2.toNat TBlock.z) (gx0.g v2.toNat)), .box g1 27 (cTBlock TBlock.z (gu none 0))] : List Res) = [.box g3 27 (cTBlock (x0.getD v2.toNat TBlock.z) (gx0.g v2.toNat)), .box g1 27 (cTBlock TBlock.z (gu none 0))]) ∧ (((((x0.getD v2.toNat TBlock.z).Extension).toNat : Int) != v3) = true) ∧ K [⟨0, none, sl x0.length gx0⟩, ⟨2, none, .pointer (some ⟨g1, 0, none⟩)⟩, ⟨8, none, .int .i64 (w64 ((x0.length : Int) - 1))⟩, ⟨36, none, sl x0.length gx0⟩, ⟨37, none, .int .i64 (x0.length : Int)⟩, ⟨38, none, .int .i64 v2⟩, ⟨53, none, undef⟩, ⟨54, none, undef⟩, ⟨55, none, undef⟩, ⟨56, none, undef⟩, ⟨57, none, undef⟩, ⟨58, none, undef⟩, ⟨59, none, .bool true⟩] [.box g3 27 (cTBlock (x0.getD v2.toNat TBlock.z) (gx0.g v2.toNat)), .box g1 27 (cTBlock TBlock.z (gu none 0))]))))) ∧ ((((((x0.getD v2.toNat TBlock.z).Extension).toNat : Int) != v3) = !false) ∧ (([.box g3 27 (cTBlock (x0.getD v2.toNat TBlock.z) (gx0.g v2.toNat)), .box g1 27 (cTBlock TBlock.z (gu none 0))] : List Res) = [.box g3 27 (cTBlock (x0.getD v2.toNat TBlock.z) (gx0.g v2.toNat)), .box g1 27 (cTBlock TBlock.z (gu none 0))]) ∧ ((((((x0.getD v2.toNat TBlock.z).Extension).toNat : Int) != v3) = !false) ∧ (([.box g3 27 (cTBlock (x0.getD v2.toNat TBlock.z) (gx0.g v2.toNat)), .box g1 27 (cTBlock TBlock.z (gu none 0))] : List Res) = [.box g3 27 (cTBlock (x0.getD v2.toNat TBlock.z) (gx0.g v2.toNat)), .box g1 27 (cTBlock TBlock.z (gu none 0))]) ∧ ((((((x0.getD v2.toNat TBlock.z).Extension).toNat : Int) != v3) = !false) ∧ (([.box g3 27 (cTBlock (x0.getD v2.toNat TBlock.z) (gx0.g v2.toNat)), .box g1 27 (cTBlock TBlock.z (gu none 0))] : List Res) = [.box g3 27 (cTBlock (x0.getD v2.toNat TBlock.z) (gx0.g v2.toNat)), .box g1 27 (cTBlock TBlock.z (gu none 0))]) ∧ ((((((x0.getD v2.toNat TBlock.z).Extension).toNat : Int) != v3) = !false) ∧ (([.box g3 27 (cTBlock (x0.getD v2.toNat TBlock.z) (gx0.g v2.toNat)), .box g1 27 (cTBlock TBlock.z (gu none 0))] : List Res) = [.box g3 27 (cTBlock (x0.getD v2.toNat TBlock.z) (gx0.g v2.toNat)), .box g1 27 (cTBlock TBlock.z (gu none 0))]) ∧ ((((((x0.getD v2.toNat TBlock.z).Extension).toNat : Int) != v3) = !false) ∧ (([.box g3 27 (cTBlock (x0.getD v2.toNat TBlock.z) (gx0.g v2.toNat)), .box g1 27 (cTBlock TBlock.z (gu none 0))] : List Res) = [.box g3 27 (cTBlock (x0.getD v2.toNat TBlock.z) (gx0.g v2.toNat)), .box g1 27 (cTBlock TBlock.z (gu none 0))]) ∧ (((((x0.getD v2.toNat TBlock.z).Extension).toNat : Int) != v3) = true) ∧ K [⟨0, none, sl x0.length gx0⟩, ⟨2, none, .pointer (some ⟨g1, 0, none⟩)⟩, ⟨8, none, .int .i64 (w64 ((x0.length : Int) - 1))⟩, ⟨36, none, sl x0.length gx0⟩, ⟨37, none, .int .i64 (x0.length : Int)⟩, ⟨38, none, .int .i64 v2⟩, ⟨53, none, undef⟩, ⟨54, none, undef⟩, ⟨55, none, undef⟩, ⟨56, none, undef⟩, ⟨57, none, undef⟩, ⟨58, none, undef⟩, ⟨59, none, .bool true⟩] [.box g3 27 (cTBlock (x0.getD v2.toNat TBlock.z) (gx0.g v2.toNat)), .box g1 27 (cTBlock TBlock.z (gu none 0))])))) ∧ ((((((x0.getD v2.toNat TBlock.z).Extension).toNat : Int) != v3) = !false) ∧ (([.box g3 27 (cTBlock (x0.getD v2.toNat TBlock.z) (gx0.g v2.toNat)), .box g1 27 (cTBlock TBlock.z (gu none 0))] : List Res) = [.box g3 27 (cTBlock (x0.getD v2.toNat TBlock.z) (gx0.g v2.toNat)), .box g1 27 (cTBlock TBlock.z (gu none 0))]) ∧ ((((((x0.getD v2.toNat TBlock.z).Extension).toNat : Int) != v3) = !false) ∧ (([.box g3 27 (cTBlock (x0.getD v2.toNat TBlock.z) (gx0.g v2.toNat)), .box g1 27 (cTBlock TBlock.z (gu none 0))] : List Res) = [.box g3 27 (cTBlock (x0.getD v2.toNat TBlock.z) (gx0.g v2.toNat)), .box g1 27 (cTBlock TBlock.z (gu none 0))]) ∧ ((((((x0.getD v2.toNat TBlock.z).Extension).toNat : Int) != v3) = !false) ∧ (([.box g3 27 (cTBlock (x0.getD v2.toNat TBlock.z) (gx0.g v2.toNat)), .box g1 27 (cTBlock TBlock.z (gu none 0))] : List Res) = [.box g3 27 (cTBlock (x0.getD v2.toNat TBlock.z) (gx0.g v2.toNat)), .box g1 27 (cTBlock TBlock.z (gu none 0))]) ∧ ((((((x0.getD v2.toNat TBlock.z).Extension).toNat : Int) != v3) = !false) ∧ (([.box g3 27 (cTBlock (x0.getD v2.toNat TBlock.z) (gx0.g v2.toNat)), .box g1 27 (cTBlock TBlock.z (gu none 0))] : List Res) = [.box g3 27 (cTBlock (x0.getD v2.toNat TBlock.z) (gx0.g v2.toNat)), .box g1 27 (cTBlock TBlock.z (gu none 0))]) ∧ (((((x0.getD v2.toNat TBlock.z).Extension).toNat : Int) != v3) = true) ∧ K [⟨0, none, sl x0.length gx0⟩, ⟨2, none, .pointer (some ⟨g1, 0, none⟩)⟩, ⟨8, none, .int .i64 (w64 ((x0.length : Int) - 1))⟩, ⟨36, none, sl x0.length gx0⟩, ⟨37, none, .int .i64 (x0.length : Int)⟩, ⟨38, none, .int .i64 v2⟩, ⟨53, none, undef⟩, ⟨54, none, undef⟩, ⟨55, none, undef⟩, ⟨56, none, undef⟩, ⟨57, none, undef⟩, ⟨58, none, undef⟩, ⟨59, none, .bool true⟩] [.box g3 27 (cTBlock (x0.getD v2.toNat TBlock.z) (gx0.g v2.toNat)), .box g1 27 (cTBlock TBlock.z (gu none 0))]))))))) (fun K => by kernel_rfl) hF hH (⟨⟨rfl, rfl⟩, ⟨u8_wr_i64 _, ⟨⟨hy1, rfl, ⟨hy1, rfl, ⟨hy1, rfl, ⟨hy1, rfl, ⟨hy1, rfl, ⟨hy1, rfl, ⟨hy1, ⟨rfl, rfl⟩⟩⟩⟩⟩⟩⟩⟩, ⟨hy1, rfl, ⟨⟨hy1, rfl, ⟨hy1, rfl, ⟨hy1, rfl, ⟨hy1, rfl, ⟨hy1, rfl, ⟨hy1, ⟨rfl, rfl⟩⟩⟩⟩⟩⟩⟩, ⟨hy1, rfl, ⟨⟨hy1, rfl, ⟨hy1, rfl, ⟨hy1, rfl, ⟨hy1, rfl, ⟨hy1, ⟨rfl, rfl⟩⟩⟩⟩⟩⟩, ⟨hy1, rfl, ⟨hy1, rfl, ⟨hy1, rfl, ⟨hy1, rfl, ⟨hy1, ⟨rfl, rfl⟩⟩⟩⟩⟩⟩⟩⟩⟩⟩⟩⟩⟩) ?_
              clear hF hH; rintro l rs a w ⟨rfl, rfl⟩ hF hH
              refine then_n ?_
              refine wp_condE (b := true) (by kernel_rfl) (by kernel_rfl) hF (fun _ => ?_) (fun h => by cases h)
              refine wp_seqE (by kernel_rfl) ?_
              refine wp_regE (by kernel_rfl) ?_
              refine seg [.p, .st 1, .p, .p] [2, 3, 4] (fun K => ((g1 : Nat) = g1 ∧ (none : Option Nat) = none) ∧ K [⟨2, none, .pointer (some ⟨g1, 0, none⟩)⟩, ⟨3, none, sl 0 (gu none 0)⟩, ⟨4, none, .int .i64 8⟩] [.box g3 27 (cTBlock (x0.getD v2.toNat TBlock.z) (gx0.g v2.toNat)), .box g1 27 (cTBlock TBlock.z (gu none 0))]) (fun K => by kernel_rfl) hF hH ?_
              refine ⟨⟨rfl, rfl⟩, ?_⟩
              clear hF hH; intro a w hF hH
              refine wl_end (by kernel_rfl) ?_
              refine then_n ?_
              refine wp_retE (by kernel_rfl) ?_
              refine block_ret ?_
              refine then_ret ?_
              refine then_ret ?_
              refine block_ret ?_
              refine then_ret ?_
              refine then_ret ?_
              have hH := hH.nilRw 5 elB (gu none 0) rfl rfl
              have hH := hH.freeze (k := 2) rfl (imp_rv (by simp)) rfl
              have hH := hH.nilRw 5 elB (gu none 0) rfl rfl
              refine retE (vs := [ag (cTBlock TBlock.z (gu none 0)), sl 0 (gu none 0), .int .i64 8]) (p := (((g1 : Nat) = g1 ∧ (none : Option Nat) = none)) ∧ True) (v := .tuple #[ag (cTBlock TBlock.z (gu none 0)), sl 0 (gu none 0), .int .i64 8]) [1] (by kernel_rfl) ⟨⟨rfl, rfl⟩, trivial⟩ (by kernel_rfl) hF hH ?_
              obtain rfl := Option.some.inj hm
              exact ⟨((gu none 0), (gu none 0)), by kernel_rfl, hH.below, trivial, newK hH [2, 3] [] (by kernel_rfl) (by kernel_rfl) (by kernel_rfl) (by kernel_rfl)⟩
            · have hm := condF hy1 hm
              have hy1p := eq_of_bne_false hy1
              have hH := hH.lookN (k := 1) rfl (imp_elem (i := v2.toNat) (by omega) (fun _ _ => rfl))
              have hH := hH.lookN (k := 1) rfl (imp_elem (i := 0) (by omega) (fun _ _ => rfl))
              obtain ⟨r2, hx2, hm⟩ := bnd_some hm
              refine drawE (n := 13) (by kernel_rfl) (by kernel_rfl) (by kernel_rfl) (by kernel_rfl) [0, 1] [0, 2, 8, 36, 37, 38, 53, 54, 55, 56, 57, 58, 59] (.take 0 (.p) (.take 1 (.ld (.r 0)) (.take 2 (.pv (.int .i64 (((x0.getD v2.toNat TBlock.z).Extension).toNat : Int))) (.take 3 (.p) (.take 4 (.p) (.take 5 (.p) (.take 6 (.ld (.r 0)) (.up 52 false (.take 7 (.p) (.up 52 false (.take 8 (.ia (.n 0) 0) (.up 52 false (.take 9 (.lv (.n 0) 0 0) (.up 52 false (.eff [(10, .ge (.cl (U := Unit) [.v (.n 2), .v (.n 3)] (fun _ => .bool r2) (fun _ => []) (fun _ => []) (fun _ => True)))] (fun _ => .take 11 (.p) (.up 52 false (.take 12 (.pt false) ((.done [0, 1])))))))))))))))))))) (fun l rs => ∃ (u1 : Unit), l = [⟨0, none, sl x0.length gx0⟩, ⟨2, none, .pointer (some ⟨g1, 0, none⟩)⟩, ⟨8, none, .int .i64 (w64 ((x0.length : Int) - 1))⟩, ⟨36, none, sl x0.length gx0⟩, ⟨37, none, .int .i64 (x0.length : Int)⟩, ⟨38, none, .int .i64 v2⟩, ⟨53, none, ag (cTBlock (x0.getD v2.toNat TBlock.z) (gx0.g v2.toNat))⟩, ⟨54, none, sl x0.length gx0⟩, ⟨55, none, .pointer (some ((gx0.a.getD nilA).add (0 * 18)))⟩, ⟨56, none, ag (cTBlock (x0.getD 0 TBlock.z) (gx0.g 0))⟩, ⟨57, none, .bool r2⟩, ⟨58, none, .bool (!r2)⟩, ⟨59, none, .bool (!r2)⟩] ∧ rs = [.box g3 27 (cTBlock (x0.getD v2.toNat TBlock.z) (gx0.g v2.toNat)), .box g1 27 (cTBlock TBlock.z (gu none 0))]) (fun K => (((g3 : Nat) = g3) ∧ ((none : Option Nat) = none)) ∧ (Value.int .i64 (IntKind.wrap .i64 (((x0.getD v2.toNat TBlock.z).Extension).toNat : Int)) = .int .i64 (((x0.getD v2.toNat TBlock.z).Extension).toNat : Int)) ∧ (((g3 : Nat) = g3) ∧ ((none : Option Nat) = none)) ∧ (((((x0.getD v2.toNat TBlock.z).Extension).toNat : Int) != v3) = false) ∧ (((((x0.getD v2.toNat TBlock.z).Extension).toNat : Int) != v3) = false) ∧ (((((x0.getD v2.toNat TBlock.z).Extension).toNat : Int) != v3) = false → (((gx0.a : Option Addr) = gx0.a) ∧ ((x0.length : Nat) = x0.length) ∧ ((18 : Nat) = 18) ∧ ((0 : Int) = ((0 : Nat) : Int)) ∧ (0 < x0.length))) ∧ (((((x0.getD v2.toNat TBlock.z).Extension).toNat : Int) != v3) = false) ∧ (((((x0.getD v2.toNat TBlock.z).Extension).toNat : Int) != v3) = false → (((gx0.a.getD nilA).add (0 * 18) = ((gx0.a.getD nilA).add (0 * 18)).add 0) ∧ (0 < x0.length))) ∧ (((((x0.getD v2.toNat TBlock.z).Extension).toNat : Int) != v3) = false) ∧ ((((((x0.getD v2.toNat TBlock.z).Extension).toNat : Int) != v3) = false) ∧ (True ∧ ((false : Bool) = false ∨ ∀ u, (fun _ => [] : Unit → List Res) u = []) ∧ CallOk Try.prog 28 [ag (cTBlock (x0.getD v2.toNat TBlock.z) (gx0.g v2.toNat)), ag (cTBlock (x0.getD 0 TBlock.z) (gx0.g 0))] [vw elB (((x0.getD v2.toNat TBlock.z).Text).length) ((x0.getD v2.toNat TBlock.z).Text) (gx0.g v2.toNat), vw elB (((x0.getD 0 TBlock.z).Text).length) ((x0.getD 0 TBlock.z).Text) (gx0.g 0)] [] (U := Unit) (fun _ => .bool r2) (fun _ => []) (fun _ => []) (fun _ => True)) ∧ ∀ u1 : Unit, (fun (_ : Unit) => True) u1 → (([.box g3 27 (cTBlock (x0.getD v2.toNat TBlock.z) (gx0.g v2.toNat)), .box g1 27 (cTBlock TBlock.z (gu none 0))] : List Res) = [.box g3 27 (cTBlock (x0.getD v2.toNat TBlock.z) (gx0.g v2.toNat)), .box g1 27 (cTBlock TBlock.z (gu none 0))]) ∧ (((((x0.getD v2.toNat TBlock.z).Extension).toNat : Int) != v3) = false) ∧ (((((x0.getD v2.toNat TBlock.z).Extension).toNat : Int) != v3) = false) ∧ K [⟨0, none, sl x0.length gx0⟩, ⟨2, none, .pointer (some ⟨g1, 0, none⟩)⟩, ⟨8, none, .int .i64 (w64 ((x0.length : Int) - 1))⟩, ⟨36, none, sl x0.length gx0⟩, ⟨37, none, .int .i64 (x0.length : Int)⟩, ⟨38, none, .int .i64 v2⟩, ⟨53, none, ag (cTBlock (x0.getD v2.toNat TBlock.z) (gx0.g v2.toNat))⟩, ⟨54, none, sl x0.length gx0⟩, ⟨55, none, .pointer (some ((gx0.a.getD nilA).add (0 * 18)))⟩, ⟨56, none, ag (cTBlock (x0.getD 0 TBlock.z) (gx0.g 0))⟩, ⟨57, none, .bool r2⟩, ⟨58, none, .bool (!r2)⟩, ⟨59, none, .bool (!r2)⟩] [.box g3 27 (cTBlock (x0.getD v2.toNat TBlock.z) (gx0.g v2.toNat)), .box g1 27 (cTBlock TBlock.z (gu none 0))])) (fun K => by kernel_rfl) hF hH (⟨⟨rfl, rfl⟩, ⟨u8_wr_i64 _, ⟨⟨rfl, rfl⟩, hy1, ⟨hy1, ⟨(fun q0 => by have := hp3 q0; have := hp3 q0; have := hp3 q0; have := hp3 q0; have := hp3 q0; have := hp3 q0; have := hp3 q0; have := hp3 q0; have := hp3 q0; have := hp3 q0; have := hp3 q0; have := hp3 q0; have := hp3 q0; have := hp3 q0; have := hp3 q0; have := hp3 q0; exact ⟨rfl, rfl, rfl, by omega, by omega⟩), hy1, ⟨(fun q0 => by have := hp3 q0; have := hp3 q0; have := hp3 q0; have := hp3 q0; have := hp3 q0; have := hp3 q0; have := hp3 q0; have := hp3 q0; have := hp3 q0; have := hp3 q0; have := hp3 q0; have := hp3 q0; have := hp3 q0; have := hp3 q0; have := hp3 q0; have := hp3 q0; exact ⟨rfl, by omega⟩), hy1, (⟨hy1, ⟨⟨trivial, .inl rfl, c_tape_alike N (x0.getD v2.toNat TBlock.z) (gx0.g v2.toNat) (x0.getD 0 TBlock.z) (gx0.g 0) r2 hx2⟩, (by rintro u1 -; exact ⟨rfl, ⟨hy1, ⟨hy1, ⟨u1, rfl, rfl⟩⟩⟩⟩)⟩⟩)⟩⟩⟩⟩⟩⟩) ?_
              clear hF hH; rintro l rs a w ⟨u1, rfl, rfl⟩ hF hH
              refine then_n ?_
              refine wp_condE (b := !r2) (by kernel_rfl) (by kernel_rfl) hF (fun hb6 => ?_) (fun hb6 => ?_)
              · have hm := condT hb6 hm
                refine wp_seqE (by kernel_rfl) ?_
                refine wp_regE (by kernel_rfl) ?_
                refine seg [.p, .st 1, .p, .p] [2, 3, 4] (fun K => ((g1 : Nat) = g1 ∧ (none : Option Nat) = none) ∧ K [⟨2, none, .pointer (some ⟨g1, 0, none⟩)⟩, ⟨3, none, sl 0 (gu none 0)⟩, ⟨4, none, .int .i64 8⟩] [.box g3 27 (cTBlock (x0.getD v2.toNat TBlock.z) (gx0.g v2.toNat)), .box g1 27 (cTBlock TBlock.z (gu none 0))]) (fun K => by kernel_rfl) hF hH ?_
                refine ⟨⟨rfl, rfl⟩, ?_⟩
                clear hF hH; intro a w hF hH
                refine wl_end (by kernel_rfl) ?_
                refine then_n ?_
                refine wp_retE (by kernel_rfl) ?_
                refine block_ret ?_
                refine then_ret ?_
                refine then_ret ?_
                refine block_ret ?_
                refine then_ret ?_
                refine then_ret ?_
                have hH := hH.nilRw 5 elB (gu none 0) rfl rfl
                have hH := hH.freeze (k := 2) rfl (imp_rv (by simp)) rfl
                have hH := hH.nilRw 5 elB (gu none 0) rfl rfl
                refine retE (vs := [ag (cTBlock TBlock.z (gu none 0)), sl 0 (gu none 0), .int .i64 8]) (p := (((g1 : Nat) = g1 ∧ (none : Option Nat) = none)) ∧ True) (v := .tuple #[ag (cTBlock TBlock.z (gu none 0)), sl 0 (gu none 0), .int .i64 8]) [1] (by kernel_rfl) ⟨⟨rfl, rfl⟩, trivial⟩ (by kernel_rfl) hF hH ?_
                obtain rfl := Option.some.inj hm
                exact ⟨((gu none 0), (gu none 0)), by kernel_rfl, hH.below, trivial, newK hH [2, 3] [] (by kernel_rfl) (by kernel_rfl) (by kernel_rfl) (by kernel_rfl)⟩
              · have hm := condF hb6 hm
                refine wp_skipE (by kernel_rfl) ?_
                refine block_n ?_
                refine then_n ?_
                refine wp_regE (by kernel_rfl) ?_
                refine seg [.p, .p] [0, 2, 8, 36, 37, 53, 54, 55, 56, 57, 58, 38] (fun K => K [⟨0, none, sl x0.length gx0⟩, ⟨2, none, .pointer (some ⟨g1, 0, none⟩)⟩, ⟨8, none, .int .i64 (w64 ((x0.length : Int) - 1))⟩, ⟨36, none, sl x0.length gx0⟩, ⟨37, none, .int .i64 (x0.length : Int)⟩, ⟨53, none, ag (cTBlock (x0.getD v2.toNat TBlock.z) (gx0.g v2.toNat))⟩, ⟨54, none, sl x0.length gx0⟩, ⟨55, none, .pointer (some ((gx0.a.getD nilA).add (0 * 18)))⟩, ⟨56, none, ag (cTBlock (x0.getD 0 TBlock.z) (gx0.g 0))⟩, ⟨57, none, .bool r2⟩, ⟨58, none, .bool (!r2)⟩, ⟨38, none, .int .i64 (w64 (v2 + 1))⟩] [.box g3 27 (cTBlock (x0.getD v2.toNat TBlock.z) (gx0.g v2.toNat)), .box g1 27 (cTBlock TBlock.z (gu none 0))]) (fun K => by kernel_rfl) hF hH ?_
                clear hF hH; intro a w hF hH
                refine wl_end (by kernel_rfl) ?_
                refine then_n ?_
                exact ⟨msr, Nat.lt_succ_self _, w64 (v2 + 1), hm, frK hF [0, 2, 8, 36, 37, 38] (by kernel_rfl), hpKN hH [0, 1] [1] (by kernel_rfl) (by kernel_rfl) (by kernel_rfl)⟩
        · have hm := condF hb4 hm
          have hb4p := of_decide_eq_false hb4
          refine wp_exitE (id := 2) (by kernel_rfl) ?_
          refine then_exit ?_
          refine then_exit ?_
          refine block_exit ?_
          refine then_n ?_
          exact ⟨hm, frK hF [0, 2, 8] (by kernel_rfl), hpKN hH [0, 1] [0] (by kernel_rfl) (by kernel_rfl) (by kernel_rfl)⟩
      · clear hF hH hm; rintro a w ⟨hm, hF, hH⟩
        rw [hjk2] at hm
        refine then_n ?_
        refine wp_seqE (by kernel_rfl) ?_
        refine wp_regE (by kernel_rfl) ?_
        refine seg [.p] [0, 2, 8, 12] (fun K => K [⟨0, none, sl x0.length gx0⟩, ⟨2, none, .pointer (some ⟨g1, 0, none⟩)⟩, ⟨8, none, .int .i64 (w64 ((x0.length : Int) - 1))⟩, ⟨12, none, sl 0 (gu none 0)⟩] [.box g1 27 (cTBlock TBlock.z (gu none 0))]) (fun K => by kernel_rfl) hF hH ?_
        clear hF hH; intro a w hF hH
        refine wl_end (by kernel_rfl) ?_
        refine then_n ?_
        refine wp_seqE (by kernel_rfl) ?_
        refine wp_seqE (by kernel_rfl) ?_
        refine wp_regE (by kernel_rfl) ?_
        refine seg [.p, .p, .p] [0, 2, 8, 12, 62, 63, 64] (fun K => K [⟨0, none, sl x0.length gx0⟩, ⟨2, none, .pointer (some ⟨g1, 0, none⟩)⟩, ⟨8, none, .int .i64 (w64 ((x0.length : Int) - 1))⟩, ⟨12, none, sl 0 (gu none 0)⟩, ⟨62, none, sl x0.length gx0⟩, ⟨63, none, .int .i64 (x0.length : Int)⟩, ⟨64, none, .int .i64 0⟩] [.box g1 27 (cTBlock TBlock.z (gu none 0))]) (fun K => by kernel_rfl) hF hH ?_
        clear hF hH; intro a w hF hH
        refine wl_end (by kernel_rfl) ?_
        refine then_n ?_
        obtain ⟨jk4, hjk4, hm⟩ := jn_some hm
        refine wp_blockJ (id := 4) (by kernel_rfl) (fun a w => ∃ (v4 : List UInt8), ∃ (s1 : Gs Unit), jk4 v4 = some r ∧ Fr 106 [⟨0, none, sl x0.length gx0⟩, ⟨2, none, .pointer (some ⟨g1, 0, none⟩)⟩, ⟨12, none, sl v4.length s1⟩] a ∧ Hp w0 B M [vw eTBlock x0.length x0 gx0, fm eTBlock x0.length x0 gx0 nTBlock_0] [.box g1 27 (cTBlock TBlock.z (gu none 0)), rw 5 elB v4.length v4 s1] w) ?_ ?_
        · skip
          have hH := hH.nilRw 5 elB (gu none 0) rfl rfl
          refine wp_loopE (by kernel_rfl) (fun msr a w => ∃ (v5 : List UInt8), ∃ (v6 : Int), ∃ (s2 : Gs Unit), tape_Join_L22 N x0 jk4 msr v5 v6 = some r ∧ Fr 106 [⟨0, none, sl x0.length gx0⟩, ⟨2, none, .pointer (some ⟨g1, 0, none⟩)⟩, ⟨8, none, .int .i64 (w64 ((x0.length : Int) - 1))⟩, ⟨12, none, sl v5.length s2⟩, ⟨62, none, sl x0.length gx0⟩, ⟨63, none, .int .i64 (x0.length : Int)⟩, ⟨64, none, .int .i64 v6⟩] a ∧ Hp w0 B M [vw eTBlock x0.length x0 gx0, fm eTBlock x0.length x0 gx0 nTBlock_0] [.box g1 27 (cTBlock TBlock.z (gu none 0)), rw 5 elB v5.length v5 s2] w) N ⟨[], 0, (gu none 0), hm, frK hF [0, 2, 8, 12, 62, 63, 64] (by kernel_rfl), hpKN hH [0, 1] [0, 1] (by kernel_rfl) (by kernel_rfl) (by kernel_rfl)⟩ ?_
          clear hF hH hm; rintro msr a w ⟨v5, v6, s2, hm, hF, hH⟩
          rcases msr with _ | msr
          · exact absurd hm (by simp [tape_Join_L22])
          rw [tape_Join_L22] at hm
          refine wp_seqE (by kernel_rfl) ?_
          refine wp_regE (by kernel_rfl) ?_
          refine seg [.p] [0, 2, 8, 12, 62, 63, 64, 65] (fun K => K [⟨0, none, sl x0.length gx0⟩, ⟨2, none, .pointer (some ⟨g1, 0, none⟩)⟩, ⟨8, none, .int .i64 (w64 ((x0.length : Int) - 1))⟩, ⟨12, none, sl v5.length s2⟩, ⟨62, none, sl x0.length gx0⟩, ⟨63, none, .int .i64 (x0.length : Int)⟩, ⟨64, none, .int .i64 v6⟩, ⟨65, none, .bool (decide (v6 < (x0.length : Int)))⟩] [.box g1 27 (cTBlock TBlock.z (gu none 0)), rw 5 elB v5.length v5 s2]) (fun K => by kernel_rfl) hF hH ?_
          clear hF hH; intro a w hF hH
          refine wl_end (by kernel_rfl) ?_
          refine then_n ?_
          refine wp_seqE (by kernel_rfl) ?_
          refine wp_condE (b := decide (v6 < (x0.length : Int))) (by kernel_rfl) (by kernel_rfl) hF (fun hb7 => ?_) (fun hb7 => ?_)
          · have hm := condT hb7 hm
            have hb7p := of_decide_eq_true hb7
            refine wp_skipE (by kernel_rfl) ?_
            refine then_n ?_
            refine wp_seqE (by kernel_rfl) ?_
            refine wp_blockE (id := 5) (by kernel_rfl) ?_
            refine wp_seqE (by kernel_rfl) ?_
            refine wp_regE (by kernel_rfl) ?_
            obtain ⟨hp4, hm⟩ := grd_some hm
            refine seg [.p, .ia (.n 0) v6.toNat, .lv (.n 0) v6.toNat 0, .al, .p, .st 2] [0, 2, 8, 12, 62, 63, 64, 14, 13] (fun K => (((gx0.a : Option Addr) = gx0.a) ∧ ((x0.length : Nat) = x0.length) ∧ ((18 : Nat) = 18) ∧ ((v6 : Int) = ((v6.toNat : Nat) : Int)) ∧ (v6.toNat < x0.length)) ∧ (((gx0.a.getD nilA).add (v6.toNat * 18) = ((gx0.a.getD nilA).add (v6.toNat * 18)).add 0) ∧ (v6.toNat < x0.length)) ∧ ∀ g4, ((g4 : Nat) = g4 ∧ (none : Option Nat) = none) ∧ K [⟨0, none, sl x0.length gx0⟩, ⟨2, none, .pointer (some ⟨g1, 0, none⟩)⟩, ⟨8, none, .int .i64 (w64 ((x0.length : Int) - 1))⟩, ⟨12, none, sl v5.length s2⟩, ⟨62, none, sl x0.length gx0⟩, ⟨63, none, .int .i64 (x0.length : Int)⟩, ⟨64, none, .int .i64 v6⟩, ⟨14, none, .pointer (some ⟨g4, 0, none⟩)⟩, ⟨13, none, .int .i64 v6⟩] [.box g1 27 (cTBlock TBlock.z (gu none 0)), rw 5 elB v5.length v5 s2, .box g4 27 (cTBlock (x0.getD v6.toNat TBlock.z) (gx0.g v6.toNat))]) (fun K => by kernel_rfl) hF hH ?_
            refine ⟨⟨rfl, rfl, rfl, by omega, by omega⟩, ?_⟩
            refine ⟨⟨rfl, by omega⟩, ?_⟩
            intro g4
            refine ⟨⟨rfl, rfl⟩, ?_⟩
            clear hF hH; intro a w hF hH
            refine wl_end (by kernel_rfl) ?_
            refine then_n ?_
            refine wp_seqE (by kernel_rfl) ?_
            refine wp_seqE (by kernel_rfl) ?_
            refine wp_regE (by kernel_rfl) ?_
            refine seg [.p, .p, .p, .p, .p, .ld (.r 2), .p, .p, .pk, .p, .p, .p, .p, .p, .p, .p, .pk, .p, .p, .ld (.r 2), .p, .p, .pk, .pk] [0, 2, 8, 12, 62, 63, 64, 14, 92] (fun K => (((g4 : Nat) = g4) ∧ ((none : Option Nat) = none)) ∧ (((g4 : Nat) = g4) ∧ ((none : Option Nat) = none)) ∧ K [⟨0, none, sl x0.length gx0⟩, ⟨2, none, .pointer (some ⟨g1, 0, none⟩)⟩, ⟨8, none, .int .i64 (w64 ((x0.length : Int) - 1))⟩, ⟨12, none, sl v5.length s2⟩, ⟨62, none, sl x0.length gx0⟩, ⟨63, none, .int .i64 (x0.length : Int)⟩, ⟨64, none, .int .i64 v6⟩, ⟨14, none, .pointer (some ⟨g4, 0, none⟩)⟩, ⟨92, none, .bool (((decide (v6 < (w64 ((x0.length : Int) - 1)))) && (decide ((((x0.getD v6.toNat TBlock.z).Text).length : Int) < 112))) || (((v6 == (w64 ((x0.length : Int) - 1))) && (decide (0 < (w64 ((x0.length : Int) - 1))))) && ((((x0.getD v6.toNat TBlock.z).Text).length : Int) == 0)))⟩] [.box g1 27 (cTBlock TBlock.z (gu none 0)), rw 5 elB v5.length v5 s2, .box g4 27 (cTBlock (x0.getD v6.toNat TBlock.z) (gx0.g v6.toNat))]) (fun K => by kernel_rfl) hF hH ?_
            refine ⟨⟨rfl, rfl⟩, ?_⟩
            refine ⟨⟨rfl, rfl⟩, ?_⟩
            clear hF hH; intro a w hF hH
            refine wl_end (by kernel_rfl) ?_
            refine then_n ?_
            refine wp_condE (b := ((decide (v6 < (w64 ((x0.length : Int) - 1)))) && (decide ((((x0.getD v6.toNat TBlock.z).Text).length : Int) < 112))) || (((v6 == (w64 ((x0.length : Int) - 1))) && (decide (0 < (w64 ((x0.length : Int) - 1))))) && ((((x0.getD v6.toNat TBlock.z).Text).length : Int) == 0))) (by kernel_rfl) (by kernel_rfl) hF (fun hb8 => ?_) (fun hb8 => ?_)
            · have hm := condT hb8 hm
              refine wp_seqE (by kernel_rfl) ?_
              refine wp_regE (by kernel_rfl) ?_
              refine seg [.p, .st 0, .p, .p] [2, 3, 4] (fun K => ((g1 : Nat) = g1 ∧ (none : Option Nat) = none) ∧ K [⟨2, none, .pointer (some ⟨g1, 0, none⟩)⟩, ⟨3, none, sl 0 (gu none 0)⟩, ⟨4, none, .int .i64 4⟩] [.box g1 27 (cTBlock TBlock.z (gu none 0)), rw 5 elB v5.length v5 s2, .box g4 27 (cTBlock (x0.getD v6.toNat TBlock.z) (gx0.g v6.toNat))]) (fun K => by kernel_rfl) hF hH ?_
              refine ⟨⟨rfl, rfl⟩, ?_⟩
              clear hF hH; intro a w hF hH
              refine wl_end (by kernel_rfl) ?_
              refine then_n ?_
              refine wp_retE (by kernel_rfl) ?_
              refine then_ret ?_
              refine block_ret ?_
              refine then_ret ?_
              refine then_ret ?_
              refine block_ret ?_
              refine then_ret ?_
              refine then_ret ?_
              have hH := hH.nilRw 5 elB (gu none 0) rfl rfl
              have hH := hH.freeze (k := 3) rfl (imp_rv (by simp)) rfl
              have hH := hH.nilRw 5 elB (gu none 0) rfl rfl
              refine retE (vs := [ag (cTBlock TBlock.z (gu none 0)), sl 0 (gu none 0), .int .i64 4]) (p := (((g1 : Nat) = g1 ∧ (none : Option Nat) = none)) ∧ True) (v := .tuple #[ag (cTBlock TBlock.z (gu none 0)), sl 0 (gu none 0), .int .i64 4]) [0] (by kernel_rfl) ⟨⟨rfl, rfl⟩, trivial⟩ (by kernel_rfl) hF hH ?_
              obtain rfl := Option.some.inj hm
              exact ⟨((gu none 0), (gu none 0)), by kernel_rfl, hH.below, trivial, newK hH [3, 4] [] (by kernel_rfl) (by kernel_rfl) (by kernel_rfl) (by kernel_rfl)⟩
            · have hm := condF hb8 hm
              refine wp_skipE (by kernel_rfl) ?_
              refine then_n ?_
              refine wp_regE (by kernel_rfl) ?_
              refine seg [.p, .p, .ld (.r 2)] [0, 2, 8, 12, 62, 63, 64, 94, 96] (fun K => (((g4 : Nat) = g4) ∧ ((none : Option Nat) = none)) ∧ K [⟨0, none, sl x0.length gx0⟩, ⟨2, none, .pointer (some ⟨g1, 0, none⟩)⟩, ⟨8, none, .int .i64 (w64 ((x0.length : Int) - 1))⟩, ⟨12, none, sl v5.length s2⟩, ⟨62, none, sl x0.length gx0⟩, ⟨63, none, .int .i64 (x0.length : Int)⟩, ⟨64, none, .int .i64 v6⟩, ⟨94, none, sl v5.length s2⟩, ⟨96, none, sl (((x0.getD v6.toNat TBlock.z).Text).length) (gx0.g v6.toNat)⟩] [.box g1 27 (cTBlock TBlock.z (gu none 0)), rw 5 elB v5.length v5 s2, .box g4 27 (cTBlock (x0.getD v6.toNat TBlock.z) (gx0.g v6.toNat))]) (fun K => by kernel_rfl) hF hH ?_
              refine ⟨⟨rfl, rfl⟩, ?_⟩
              clear hF hH; intro a w hF hH
              have hH := hH.lookN (k := 1) rfl (imp_elem (i := v6.toNat) (by omega) (fun _ _ => rfl))
              obtain ⟨hp5, hm⟩ := grd_some hm
              refine seg [.ap 1 (.n 2) (rowC elB ((x0.getD v6.toNat TBlock.z).Text) (fun _ => ())) ((v5 ++ ((x0.getD v6.toNat TBlock.z).Text)).length) (rowC elB (v5 ++ ((x0.getD v6.toNat TBlock.z).Text)) (fun _ => ())), .p] [0, 2, 8, 62, 63, 64, 12] (fun K => (((s2.a : Option Addr) = s2.a) ∧ ((s2.c : Nat) = s2.c) ∧ ((v5.length : Nat) = v5.length) ∧ srcP (vw elB (((x0.getD v6.toNat TBlock.z).Text).length) ((x0.getD v6.toNat TBlock.z).Text) (gx0.g v6.toNat)) (gx0.g v6.toNat).a (((x0.getD v6.toNat TBlock.z).Text).length) 1 (rowC elB ((x0.getD v6.toNat TBlock.z).Text) (fun _ => ())) ∧ (∀ u ∈ (rowC elB ((x0.getD v6.toNat TBlock.z).Text) (fun _ => ()) : List Value), u.oneCell' = true) ∧ (v5.length + ((x0.getD v6.toNat TBlock.z).Text).length ≤ maxLen) ∧ ((v5.length + ((x0.getD v6.toNat TBlock.z).Text).length) * 1 ≤ 140737488355328) ∧ (v5.length + ((x0.getD v6.toNat TBlock.z).Text).length = (v5 ++ ((x0.getD v6.toNat TBlock.z).Text)).length) ∧ (rowC elB v5 s2.g ++ rowC elB ((x0.getD v6.toNat TBlock.z).Text) (fun _ => ()) = rowC elB (v5 ++ ((x0.getD v6.toNat TBlock.z).Text)) (fun _ => ()))) ∧ ∀ A2 c2, K [⟨0, none, sl x0.length gx0⟩, ⟨2, none, .pointer (some ⟨g1, 0, none⟩)⟩, ⟨8, none, .int .i64 (w64 ((x0.length : Int) - 1))⟩, ⟨62, none, sl x0.length gx0⟩, ⟨63, none, .int .i64 (x0.length : Int)⟩, ⟨64, none, .int .i64 v6⟩, ⟨12, none, sl ((v5 ++ ((x0.getD v6.toNat TBlock.z).Text)).length) (gu A2 c2)⟩] [.box g1 27 (cTBlock TBlock.z (gu none 0)), rw 5 elB ((v5 ++ ((x0.getD v6.toNat TBlock.z).Text)).length) (v5 ++ ((x0.getD v6.toNat TBlock.z).Text)) (gu A2 c2), .box g4 27 (cTBlock (x0.getD v6.toNat TBlock.z) (gx0.g v6.toNat))]) (fun K => by kernel_rfl) hF hH ?_
              refine ⟨⟨rfl, rfl, rfl, ⟨rfl, rfl, rfl, (rowC_flatN _ _ _ (by first | rfl | simp)).symm⟩, rowC_one _ _ _, by (unfold maxLen; omega), by omega, by first | rfl | omega | (simp only [List.length_append, List.length_cons, List.length_nil] <;> omega), (rowC_appU _ _ _ _ _ _).symm⟩, ?_⟩
              intro A2 c2
              clear hF hH; intro a w hF hH
              refine wl_end (by kernel_rfl) ?_
              refine block_n ?_
              refine then_n ?_
              refine wp_regE (by kernel_rfl) ?_
              refine seg [.p, .p] [0, 2, 8, 62, 63, 12, 64] (fun K => K [⟨0, none, sl x0.length gx0⟩, ⟨2, none, .pointer (some ⟨g1, 0, none⟩)⟩, ⟨8, none, .int .i64 (w64 ((x0.length : Int) - 1))⟩, ⟨62, none, sl x0.length gx0⟩, ⟨63, none, .int .i64 (x0.length : Int)⟩, ⟨12, none, sl ((v5 ++ ((x0.getD v6.toNat TBlock.z).Text)).length) (gu A2 c2)⟩, ⟨64, none, .int .i64 (w64 (v6 + 1))⟩] [.box g1 27 (cTBlock TBlock.z (gu none 0)), rw 5 elB ((v5 ++ ((x0.getD v6.toNat TBlock.z).Text)).length) (v5 ++ ((x0.getD v6.toNat TBlock.z).Text)) (gu A2 c2), .box g4 27 (cTBlock (x0.getD v6.toNat TBlock.z) (gx0.g v6.toNat))]) (fun K => by kernel_rfl) hF hH ?_
              clear hF hH; intro a w hF hH
              refine wl_end (by kernel_rfl) ?_
              refine then_n ?_
              exact ⟨msr, Nat.lt_succ_self _, v5 ++ ((x0.getD v6.toNat TBlock.z).Text), w64 (v6 + 1), (gu A2 c2), hm, frK hF [0, 2, 8, 12, 62, 63, 64] (by kernel_rfl), hpKN hH [0, 1] [0, 1] (by kernel_rfl) (by kernel_rfl) (by kernel_rfl)⟩
          · have hm := condF hb7 hm
            have hb7p := of_decide_eq_false hb7
            refine wp_exitE (id := 4) (by kernel_rfl) ?_
            refine then_exit ?_
            refine then_exit ?_
            refine block_exit ?_
            refine then_n ?_
            exact ⟨v5, s2, hm, frK hF [0, 2, 12] (by kernel_rfl), hpKN hH [0, 1] [0, 1] (by kernel_rfl) (by kernel_rfl) (by kernel_rfl)⟩
        · clear hF hH hm; rintro a w ⟨v4, s1, hm, hF, hH⟩
          rw [hjk4] at hm
          refine then_n ?_
          refine wp_seqE (by kernel_rfl) ?_
          refine wp_regE (by kernel_rfl) ?_
          obtain ⟨hp6, hm⟩ := grd_some hm
          refine seg [.p, .ia (.n 0) 0, .lv (.n 0) 0 0, .al, .st 2] [2, 12, 15] (fun K => (((gx0.a : Option Addr) = gx0.a) ∧ ((x0.length : Nat) = x0.length) ∧ ((18 : Nat) = 18) ∧ ((0 : Int) = ((0 : Nat) : Int)) ∧ (0 < x0.length)) ∧ (((gx0.a.getD nilA).add (0 * 18) = ((gx0.a.getD nilA).add (0 * 18)).add 0) ∧ (0 < x0.length)) ∧ ∀ g5, ((g5 : Nat) = g5 ∧ (none : Option Nat) = none) ∧ K [⟨2, none, .pointer (some ⟨g1, 0, none⟩)⟩, ⟨12, none, sl v4.length s1⟩, ⟨15, none, .pointer (some ⟨g5, 0, none⟩)⟩] [.box g1 27 (cTBlock TBlock.z (gu none 0)), rw 5 elB v4.length v4 s1, .box g5 27 (cTBlock (x0.getD 0 TBlock.z) (gx0.g 0))]) (fun K => by kernel_rfl) hF hH ?_
          refine ⟨⟨rfl, rfl, rfl, by omega, by omega⟩, ?_⟩
          refine ⟨⟨rfl, by omega⟩, ?_⟩
          intro g5
          refine ⟨⟨rfl, rfl⟩, ?_⟩
          clear hF hH; intro a w hF hH
          refine wl_end (by kernel_rfl) ?_
          refine then_n ?_
          refine wp_seqE (by kernel_rfl) ?_
          refine wp_regE (by kernel_rfl) ?_
          refine seg [.p, .st 2, .p, .st 2] [2, 12, 15] (fun K => ((g5 : Nat) = g5 ∧ (none : Option Nat) = none) ∧ ((g5 : Nat) = g5 ∧ (none : Option Nat) = none) ∧ K [⟨2, none, .pointer (some ⟨g1, 0, none⟩)⟩, ⟨12, none, sl v4.length s1⟩, ⟨15, none, .pointer (some ⟨g5, 0, none⟩)⟩] [.box g1 27 (cTBlock TBlock.z (gu none 0)), rw 5 elB v4.length v4 s1, .box g5 27 (cTBlock ({ (x0.getD 0 TBlock.z) with Extension := 255, Text := [] }) (gu none 0))]) (fun K => by kernel_rfl) hF hH ?_
          refine ⟨⟨rfl, rfl⟩, ?_⟩
          refine ⟨⟨rfl, rfl⟩, ?_⟩
          clear hF hH; intro a w hF hH
          refine wl_end (by kernel_rfl) ?_
          refine then_n ?_
          refine wp_seqE (by kernel_rfl) ?_
          refine wp_regE (by kernel_rfl) ?_
          refine seg [.ld (.r 2), .p, .st 0, .p, .p] [2, 3, 4] (fun K => (((g5 : Nat) = g5) ∧ ((none : Option Nat) = none)) ∧ ((g1 : Nat) = g1 ∧ (none : Option Nat) = none) ∧ K [⟨2, none, .pointer (some ⟨g1, 0, none⟩)⟩, ⟨3, none, sl v4.length s1⟩, ⟨4, none, .int .i64 0⟩] [.box g1 27 (cTBlock ({ (x0.getD 0 TBlock.z) with Extension := 255, Text := [] }) (gu none 0)), rw 5 elB v4.length v4 s1, .box g5 27 (cTBlock ({ (x0.getD 0 TBlock.z) with Extension := 255, Text := [] }) (gu none 0))]) (fun K => by kernel_rfl) hF hH ?_
          refine ⟨⟨rfl, rfl⟩, ?_⟩
          refine ⟨⟨rfl, rfl⟩, ?_⟩
          clear hF hH; intro a w hF hH
          refine wl_end (by kernel_rfl) ?_
          refine then_n ?_
          refine wp_retE (by kernel_rfl) ?_
          have hH := hH.nilRw 5 elB (gu none 0) rfl rfl
          have hH := hH.freeze (k := 3) rfl (imp_rv (by simp)) rfl
          refine retE (vs := [ag (cTBlock ({ (x0.getD 0 TBlock.z) with Extension := 255, Text := [] }) (gu none 0)), sl v4.length s1, .int .i64 0]) (p := (((g1 : Nat) = g1 ∧ (none : Option Nat) = none)) ∧ True) (v := .tuple #[ag (cTBlock ({ (x0.getD 0 TBlock.z) with Extension := 255, Text := [] }) (gu none 0)), sl v4.length s1, .int .i64 0]) [0] (by kernel_rfl) ⟨⟨rfl, rfl⟩, trivial⟩ (by kernel_rfl) hF hH ?_
          obtain rfl := Option.some.inj hm
          exact ⟨((gu none 0), s1), by kernel_rfl, hH.below, trivial, newK hH [3, 1] [] (by kernel_rfl) (by kernel_rfl) (by kernel_rfl) (by kernel_rfl)⟩

theorem c_slices_EqualFunc_LBlock_l23_same (N : Nat) (x0 : List TBlock) (gx0 : Gs (Gs Unit)) (x1 : List TBlock) (gx1 : Gs (Gs Unit)) (r : Bool) (hm : slices_EqualFunc_LBlock_l23_same N x0 x1 = some r) : CallOk Try.prog 12 [sl x0.length gx0, sl x1.length gx1, .func (.func 13) #[] #[]] [vw eTBlock x0.length x0 gx0, fm eTBlock x0.length x0 gx0 nTBlock_0, vw eTBlock x1.length x1 gx1, fm eTBlock x1.length x1 gx1 nTBlock_0] [] (U := Unit) (fun _ => .bool r) (fun _ => []) (fun _ => []) (fun _ => True) := by
  unfold slices_EqualFunc_LBlock_l23_same at hm
  refine callI (N := 32) Try.func12 (by kernel_rfl) (by kernel_rfl) (by kernel_rfl) ?_
  intro w0 B M a hF hH
  refine wp_seqE (by kernel_rfl) ?_
  refine wp_regE (by kernel_rfl) ?_
  refine seg [.p] [0, 1, 2] (fun K => K [⟨0, none, sl x0.length gx0⟩, ⟨1, none, sl x1.length gx1⟩, ⟨2, none, .func (.func 13) #[] #[]⟩] []) (fun K => by kernel_rfl) hF hH ?_
  clear hF hH; intro a w hF hH
  refine wl_end (by kernel_rfl) ?_
  refine then_n ?_
  refine wp_seqE (by kernel_rfl) ?_
  refine wp_seqE (by kernel_rfl) ?_
  refine wp_regE (by kernel_rfl) ?_
  refine seg [.p, .p, .p, .p, .p] [0, 1, 2, 14] (fun K => K [⟨0, none, sl x0.length gx0⟩, ⟨1, none, sl x1.length gx1⟩, ⟨2, none, .func (.func 13) #[] #[]⟩, ⟨14, none, .bool ((x0.length : Int) != (x1.length : Int))⟩] []) (fun K => by kernel_rfl) hF hH ?_
  clear hF hH; intro a w hF hH
  refine wl_end (by kernel_rfl) ?_
  refine then_n ?_
  refine wp_condE (b := (x0.length : Int) != (x1.length : Int)) (by kernel_rfl) (by kernel_rfl) hF (fun hb1 => ?_) (fun hb1 => ?_)
  · have hm := condT hb1 hm
    have hb1p := ne_of_bne hb1
    refine wp_seqE (by kernel_rfl) ?_
    refine wp_regE (by kernel_rfl) ?_
    refine seg [.p] [6] (fun K => K [⟨6, none, .bool false⟩] []) (fun K => by kernel_rfl) hF hH ?_
    clear hF hH; intro a w hF hH
    refine wl_end (by kernel_rfl) ?_
    refine then_n ?_
    refine wp_retE (by kernel_rfl) ?_
    refine then_ret ?_
    refine retE (vs := [.bool false]) (p := True) (v := .bool false) [] (by kernel_rfl) trivial (by kernel_rfl) hF hH ?_
    obtain rfl := Option.some.inj hm
    exact ⟨(), by kernel_rfl, hH.below, trivial, newK hH [] [] (by kernel_rfl) (by kernel_rfl) (by kernel_rfl) (by kernel_rfl)⟩
  · have hm := condF hb1 hm
    have hb1p := eq_of_bne_false hb1
    refine wp_skipE (by kernel_rfl) ?_
    refine then_n ?_
    refine wp_seqE (by kernel_rfl) ?_
    refine wp_seqE (by kernel_rfl) ?_
    refine wp_regE (by kernel_rfl) ?_
    refine seg [.p, .p, .p] [1, 2, 15, 16, 17] (fun K => K [⟨1, none, sl x1.length gx1⟩, ⟨2, none, .func (.func 13) #[] #[]⟩, ⟨15, none, sl x0.length gx0⟩, ⟨16, none, .int .i64 (x0.length : Int)⟩, ⟨17, none, .int .i64 0⟩] []) (fun K => by kernel_rfl) hF hH ?_
    clear hF hH; intro a w hF hH
    refine wl_end (by kernel_rfl) ?_
    refine then_n ?_
    obtain ⟨jk1, hjk1, hm⟩ := jn_some hm
    refine wp_blockJ (id := 0) (by kernel_rfl) (fun a w => jk1 = some r ∧ Fr 32 [] a ∧ Hp w0 B M [vw eTBlock x0.length x0 gx0, fm eTBlock x0.length x0 gx0 nTBlock_0, vw eTBlock x1.length x1 gx1, fm eTBlock x1.length x1 gx1 nTBlock_0] [] w) ?_ ?_
    · skip
      refine wp_loopE (by kernel_rfl) (fun msr a w => ∃ (v1 : Int), slices_EqualFunc_LBlock_l23_same_L4 N x0 x1 jk1 msr v1 = some r ∧ Fr 32 [⟨1, none, sl x1.length gx1⟩, ⟨2, none, .func (.func 13) #[] #[]⟩, ⟨15, none, sl x0.length gx0⟩, ⟨16, none, .int .i64 (x0.length : Int)⟩, ⟨17, none, .int .i64 v1⟩] a ∧ Hp w0 B M [vw eTBlock x0.length x0 gx0, fm eTBlock x0.length x0 gx0 nTBlock_0, vw eTBlock x1.length x1 gx1, fm eTBlock x1.length x1 gx1 nTBlock_0] [] w) N ⟨0, hm, frK hF [1, 2, 15, 16, 17] (by kernel_rfl), hpKN hH [0, 1, 2, 3] [] (by kernel_rfl) (by kernel_rfl) (by kernel_rfl)⟩ ?_
      clear hF hH hm; rintro msr a w ⟨v1, hm, hF, hH⟩
      rcases msr with _ | msr
      · exact absurd hm (by simp [slices_EqualFunc_LBlock_l23_same_L4])
      rw [slices_EqualFunc_LBlock_l23_same_L4] at hm
      refine wp_seqE (by kernel_rfl) ?_
      refine wp_regE (by kernel_rfl) ?_
      refine seg [.p] [1, 2, 15, 16, 17, 18] (fun K => K [⟨1, none, sl x1.length gx1⟩, ⟨2, none, .func (.func 13) #[] #[]⟩, ⟨15, none, sl x0.length gx0⟩, ⟨16, none, .int .i64 (x0.length : Int)⟩, ⟨17, none, .int .i64 v1⟩, ⟨18, none, .bool (decide (v1 < (x0.length : Int)))⟩] []) (fun K => by kernel_rfl) hF hH ?_
      clear hF hH; intro a w hF hH
      refine wl_end (by kernel_rfl) ?_
      refine then_n ?_
      refine wp_seqE (by kernel_rfl) ?_
      refine wp_condE (b := decide (v1 < (x0.length : Int))) (by kernel_rfl) (by kernel_rfl) hF (fun hb2 => ?_) (fun hb2 => ?_)
      · have hm := condT hb2 hm
        have hb2p := of_decide_eq_true hb2
        refine wp_skipE (by kernel_rfl) ?_
        refine then_n ?_
        refine wp_seqE (by kernel_rfl) ?_
        refine wp_blockE (id := 1) (by kernel_rfl) ?_
        refine wp_seqE (by kernel_rfl) ?_
        refine wp_regE (by kernel_rfl) ?_
        obtain ⟨hp1, hm⟩ := grd_some hm
        refine seg [.p, .ia (.n 0) v1.toNat, .lv (.n 0) v1.toNat 0, .al, .p, .st 0] [1, 2, 15, 16, 17, 8, 7] (fun K => (((gx0.a : Option Addr) = gx0.a) ∧ ((x0.length : Nat) = x0.length) ∧ ((18 : Nat) = 18) ∧ ((v1 : Int) = ((v1.toNat : Nat) : Int)) ∧ (v1.toNat < x0.length)) ∧ (((gx0.a.getD nilA).add (v1.toNat * 18) = ((gx0.a.getD nilA).add (v1.toNat * 18)).add 0) ∧ (v1.toNat < x0.length)) ∧ ∀ g1, ((g1 : Nat) = g1 ∧ (none : Option Nat) = none) ∧ K [⟨1, none, sl x1.length gx1⟩, ⟨2, none, .func (.func 13) #[] #[]⟩, ⟨15, none, sl x0.length gx0⟩, ⟨16, none, .int .i64 (x0.length : Int)⟩, ⟨17, none, .int .i64 v1⟩, ⟨8, none, .pointer (some ⟨g1, 0, none⟩)⟩, ⟨7, none, .int .i64 v1⟩] [.box g1 27 (cTBlock (x0.getD v1.toNat TBlock.z) (gx0.g v1.toNat))]) (fun K => by kernel_rfl) hF hH ?_
        refine ⟨⟨rfl, rfl, rfl, by omega, by omega⟩, ?_⟩
        refine ⟨⟨rfl, by omega⟩, ?_⟩
        intro g1
        refine ⟨⟨rfl, rfl⟩, ?_⟩
        clear hF hH; intro a w hF hH
        refine wl_end (by kernel_rfl) ?_
        refine then_n ?_
        refine wp_seqE (by kernel_rfl) ?_
        refine wp_regE (by kernel_rfl) ?_
        obtain ⟨hp2, hm⟩ := grd_some hm
        refine seg [.p, .p, .ia (.n 2) v1.toNat, .lv (.n 2) v1.toNat 0, .al, .st 1] [1, 2, 15, 16, 17, 8, 9] (fun K => (((gx1.a : Option Addr) = gx1.a) ∧ ((x1.length : Nat) = x1.length) ∧ ((18 : Nat) = 18) ∧ ((v1 : Int) = ((v1.toNat : Nat) : Int)) ∧ (v1.toNat < x1.length)) ∧ (((gx1.a.getD nilA).add (v1.toNat * 18) = ((gx1.a.getD nilA).add (v1.toNat * 18)).add 0) ∧ (v1.toNat < x1.length)) ∧ ∀ g2, ((g2 : Nat) = g2 ∧ (none : Option Nat) = none) ∧ K [⟨1, none, sl x1.length gx1⟩, ⟨2, none, .func (.func 13) #[] #[]⟩, ⟨15, none, sl x0.length gx0⟩, ⟨16, none, .int .i64 (x0.length : Int)⟩, ⟨17, none, .int .i64 v1⟩, ⟨8, none, .pointer (some ⟨g1, 0, none⟩)⟩, ⟨9, none, .pointer (some ⟨g2, 0, none⟩)⟩] [.box g1 27 (cTBlock (x0.getD v1.toNat TBlock.z) (gx0.g v1.toNat)), .box g2 27 (cTBlock (x1.getD v1.toNat TBlock.z) (gx1.g v1.toNat))]) (fun K => by kernel_rfl) hF hH ?_
        refine ⟨⟨rfl, rfl, rfl, by omega, by omega⟩, ?_⟩
        refine ⟨⟨rfl, by omega⟩, ?_⟩
        intro g2
        refine ⟨⟨rfl, rfl⟩, ?_⟩
        clear hF hH; intro a w hF hH
        refine wl_end (by kernel_rfl) ?_
        refine then_n ?_
        refine wp_seqE (by kernel_rfl) ?_
        refine wp_regE (by kernel_rfl) ?_
        refine seg [.p, .ld (.r 0), .ld (.r 1)] [1, 2, 15, 16, 17, 26, 27, 28] (fun K => (((g1 : Nat) = g1) ∧ ((none : Option Nat) = none)) ∧ (((g2 : Nat) = g2) ∧ ((none : Option Nat) = none)) ∧ K [⟨1, none, sl x1.length gx1⟩, ⟨2, none, .func (.func 13) #[] #[]⟩, ⟨15, none, sl x0.length gx0⟩, ⟨16, none, .int .i64 (x0.length : Int)⟩, ⟨17, none, .int .i64 v1⟩, ⟨26, none, .func (.func 13) #[] #[]⟩, ⟨27, none, ag (cTBlock (x0.getD v1.toNat TBlock.z) (gx0.g v1.toNat))⟩, ⟨28, none, ag (cTBlock (x1.getD v1.toNat TBlock.z) (gx1.g v1.toNat))⟩] [.box g1 27 (cTBlock (x0.getD v1.toNat TBlock.z) (gx0.g v1.toNat)), .box g2 27 (cTBlock (x1.getD v1.toNat TBlock.z) (gx1.g v1.toNat))]) (fun K => by kernel_rfl) hF hH ?_
        refine ⟨⟨rfl, rfl⟩, ?_⟩
        refine ⟨⟨rfl, rfl⟩, ?_⟩
        clear hF hH; intro a w hF hH
        have hH := hH.lookN (k := 1) rfl (imp_elem (i := v1.toNat) (by omega) (fun _ _ => rfl))
        have hH := hH.lookN (k := 3) rfl (imp_elem (i := v1.toNat) (by omega) (fun _ _ => rfl))
        obtain ⟨r1, hx1, hm⟩ := bnd_some hm
        refine callE (d := 29) (c_l23_same N (x0.getD v1.toNat TBlock.z) (gx0.g v1.toNat) (x1.getD v1.toNat TBlock.z) (gx1.g v1.toNat) r1 hx1) [.v (.n 4), .v (.n 5)] [] (by kernel_rfl) trivial (.inl rfl) (by kernel_rfl) (by kernel_rfl) (by kernel_rfl) (by kernel_rfl) hF hH ?_
        clear hF hH; rintro ⟨⟩ - a w hF hH
        refine seg [.p] [1, 2, 15, 16, 17, 30] (fun K => K [⟨1, none, sl x1.length gx1⟩, ⟨2, none, .func (.func 13) #[] #[]⟩, ⟨15, none, sl x0.length gx0⟩, ⟨16, none, .int .i64 (x0.length : Int)⟩, ⟨17, none, .int .i64 v1⟩, ⟨30, none, .bool (!r1)⟩] [.box g1 27 (cTBlock (x0.getD v1.toNat TBlock.z) (gx0.g v1.toNat)), .box g2 27 (cTBlock (x1.getD v1.toNat TBlock.z) (gx1.g v1.toNat))]) (fun K => by kernel_rfl) hF hH ?_
        clear hF hH; intro a w hF hH
        refine wl_end (by kernel_rfl) ?_
        refine then_n ?_
        refine wp_condE (b := !r1) (by kernel_rfl) (by kernel_rfl) hF (fun hb3 => ?_) (fun hb3 => ?_)
        · have hm := condT hb3 hm
          refine wp_seqE (by kernel_rfl) ?_
          refine wp_regE (by kernel_rfl) ?_
          refine seg [.p] [6] (fun K => K [⟨6, none, .bool false⟩] [.box g1 27 (cTBlock (x0.getD v1.toNat TBlock.z) (gx0.g v1.toNat)), .box g2 27 (cTBlock (x1.getD v1.toNat TBlock.z) (gx1.g v1.toNat))]) (fun K => by kernel_rfl) hF hH ?_
          clear hF hH; intro a w hF hH
          refine wl_end (by kernel_rfl) ?_
          refine then_n ?_
          refine wp_retE (by kernel_rfl) ?_
          refine block_ret ?_
          refine then_ret ?_
          refine then_ret ?_
          refine block_ret ?_
          refine then_ret ?_
          refine then_ret ?_
          refine retE (vs := [.bool false]) (p := True) (v := .bool false) [] (by kernel_rfl) trivial (by kernel_rfl) hF hH ?_
          obtain rfl := Option.some.inj hm
          exact ⟨(), by kernel_rfl, hH.below, trivial, newK hH [] [] (by kernel_rfl) (by kernel_rfl) (by kernel_rfl) (by kernel_rfl)⟩
        · have hm := condF hb3 hm
          refine wp_skipE (by kernel_rfl) ?_
          refine block_n ?_
          refine then_n ?_
          refine wp_regE (by kernel_rfl) ?_
          refine seg [.p, .p] [1, 2, 15, 16, 17] (fun K => K [⟨1, none, sl x1.length gx1⟩, ⟨2, none, .func (.func 13) #[] #[]⟩, ⟨15, none, sl x0.length gx0⟩, ⟨16, none, .int .i64 (x0.length : Int)⟩, ⟨17, none, .int .i64 (w64 (v1 + 1))⟩] [.box g1 27 (cTBlock (x0.getD v1.toNat TBlock.z) (gx0.g v1.toNat)), .box g2 27 (cTBlock (x1.getD v1.toNat TBlock.z) (gx1.g v1.toNat))]) (fun K => by kernel_rfl) hF hH ?_
          clear hF hH; intro a w hF hH
          refine wl_end (by kernel_rfl) ?_
          refine then_n ?_
          exact ⟨msr, Nat.lt_succ_self _, w64 (v1 + 1), hm, frK hF [1, 2, 15, 16, 17] (by kernel_rfl), hpKN hH [0, 1, 2, 3] [] (by kernel_rfl) (by kernel_rfl) (by kernel_rfl)⟩
      · have hm := condF hb2 hm
        have hb2p := of_decide_eq_false hb2
        refine wp_exitE (id := 0) (by kernel_rfl) ?_
        refine then_exit ?_
        refine then_exit ?_
        refine block_exit ?_
        refine then_n ?_
        exact ⟨hm, frK hF [] (by kernel_rfl), hpKN hH [0, 1, 2, 3] [] (by kernel_rfl) (by kernel_rfl) (by kernel_rfl)⟩
    · clear hF hH hm; rintro a w ⟨hm, hF, hH⟩
      rw [hjk1] at hm
      refine then_n ?_
      refine wp_seqE (by kernel_rfl) ?_
      refine wp_regE (by kernel_rfl) ?_
      refine seg [.p] [6] (fun K => K [⟨6, none, .bool true⟩] []) (fun K => by kernel_rfl) hF hH ?_
      clear hF hH; intro a w hF hH
      refine wl_end (by kernel_rfl) ?_
      refine then_n ?_
      refine wp_retE (by kernel_rfl) ?_
      refine retE (vs := [.bool true]) (p := True) (v := .bool true) [] (by kernel_rfl) trivial (by kernel_rfl) hF hH ?_
      obtain rfl := Option.some.inj hm
      exact ⟨(), by kernel_rfl, hH.below, trivial, newK hH [] [] (by kernel_rfl) (by kernel_rfl) (by kernel_rfl) (by kernel_rfl)⟩

theorem c_l23_few (N : Nat) (x0 : List TBlock) (gx0 : Gs (Gs Unit)) (r : List TBlock) (hm : l23_few N x0 = some r) : CallOk Try.prog 16 [sl x0.length gx0] [vw eTBlock x0.length x0 gx0, fm eTBlock x0.length x0 gx0 nTBlock_0] [] (U := Gs (Gs Unit)) (fun u => sl r.length u) (fun _ => []) (fun u => [vw eTBlock r.length r u, fm eTBlock r.length r u nTBlock_0]) (fun _ => True) := by
  unfold l23_few at hm
  refine callI (N := 8) Try.func16 (by kernel_rfl) (by kernel_rfl) (by kernel_rfl) ?_
  intro w0 B M a hF hH
  refine wp_seqE (by kernel_rfl) ?_
  refine wp_regE (by kernel_rfl) ?_
  refine seg [.p] [0] (fun K => K [⟨0, none, sl x0.length gx0⟩] []) (fun K => by kernel_rfl) hF hH ?_
  clear hF hH; intro a w hF hH
  refine wl_end (by kernel_rfl) ?_
  refine then_n ?_
  refine wp_seqE (by kernel_rfl) ?_
  refine wp_regE (by kernel_rfl) ?_
  obtain ⟨hp1, hm⟩ := grd_some hm
  refine seg [.p, .p, .p, .pv (.int .i64 (min (x0.length : Int) 5)), .as (.sh ((min (x0.length : Int) 5).toNat)) (sl ((x0.take ((min (x0.length : Int) 5).toNat)).length) gx0), .p] [2] (fun K => (Value.int .i64 (if 5 < (x0.length : Int) then 5 else (x0.length : Int)) = .int .i64 (min (x0.length : Int) 5)) ∧ ((((min (x0.length : Int) 5 : Int) = (((min (x0.length : Int) 5).toNat : Nat) : Int)) ∧ ((min (x0.length : Int) 5).toNat ≤ gx0.c)) ∧ (Value.slice gx0.a ((min (x0.length : Int) 5).toNat) gx0.c = sl ((x0.take ((min (x0.length : Int) 5).toNat)).length) gx0)) ∧ K [⟨2, none, sl ((x0.take ((min (x0.length : Int) 5).toNat)).length) gx0⟩] []) (fun K => by kernel_rfl) hF hH ?_
  refine ⟨minE _ _, ?_⟩
  refine ⟨⟨⟨by omega, by have := vw_cap hH (.n 0) rfl; omega⟩, sl_head (by simp only [List.length_take]; omega)⟩, ?_⟩
  clear hF hH; intro a w hF hH
  refine wl_end (by kernel_rfl) ?_
  refine then_n ?_
  refine wp_retE (by kernel_rfl) ?_
  have hH := hH.lookN (k := 0) rfl (imp_headL (hi := ((min (x0.length : Int) 5).toNat)) (by first | rfl | simp) (by omega))
  have hH := hH.lookN (k := 1) rfl (imp_fmHeadL (hi := ((min (x0.length : Int) 5).toNat)) (by first | rfl | simp) (by omega))
  refine retE (vs := [sl ((x0.take ((min (x0.length : Int) 5).toNat)).length) gx0]) (p := True) (v := sl ((x0.take ((min (x0.length : Int) 5).toNat)).length) gx0) [] (by kernel_rfl) trivial (by kernel_rfl) hF hH ?_
  obtain rfl := Option.some.inj hm
  exact ⟨gx0, by kernel_rfl, hH.below, trivial, newK hH [] [2, 3] (by kernel_rfl) (by kernel_rfl) (by kernel_rfl) (by kernel_rfl)⟩

theorem c_r23_alike (N : Nat) (x0 : TBlock) (gx0 : Gs Unit) (x1 : TBlock) (gx1 : Gs Unit) (r : Bool) (hm : r23_alike N x0 x1 = some r) : CallOk Try.prog 29 [ag (cTBlock x0 gx0), ag (cTBlock x1 gx1)] [vw elB x0.Text.length x0.Text gx0, vw elB x1.Text.length x1.Text gx1] [] (U := Unit) (fun _ => .bool r) (fun _ => []) (fun _ => []) (fun _ => True) := by
  unfold r23_alike at hm
  refine callI (N := 59) Try.func29 (by kernel_rfl) (by kernel_rfl) (by kernel_rfl) ?_
  intro w0 B M a hF hH
  refine wp_seqE (by kernel_rfl) ?_
  refine wp_regE (by kernel_rfl) ?_
  refine seg [.bx, .bx, .p] [2, 3] (fun K => ∀ g1, ∀ g2, K [⟨2, none, .pointer (some ⟨g1, 0, none⟩)⟩, ⟨3, none, .pointer (some ⟨g2, 0, none⟩)⟩] [.box g1 27 (cTBlock x0 gx0), .box g2 27 (cTBlock x1 gx1)]) (fun K => by kernel_rfl) hF hH ?_
  intro g1
  intro g2
  clear hF hH; intro a w hF hH
  refine wl_end (by kernel_rfl) ?_
  refine then_n ?_
  refine wp_seqE (by kernel_rfl) ?_
  refine wp_regE (by kernel_rfl) ?_
  refine seg [.p, .ld (.r 0), .p, .ld (.r 1), .p, .p, .p, .ld (.r 0), .p, .ld (.r 1), .p, .pk, .p, .p, .ld (.r 0), .p, .ld (.r 1), .p, .pk, .p, .p, .ld (.r 0), .p, .ld (.r 1), .ae, .pk, .p, .p, .ld (.r 0), .p, .ld (.r 1), .ae, .pk, .p, .p, .ld (.r 0), .p, .ld (.r 1), .p, .pk, .p, .p, .ld (.r 0), .p, .ld (.r 1), .p, .pk, .p, .p, .ld (.r 0), .p, .ld (.r 1), .p, .pk, .p] [4] (fun K => (((g1 : Nat) = g1) ∧ ((none : Option Nat) = none)) ∧ (((g2 : Nat) = g2) ∧ ((none : Option Nat) = none)) ∧ (((g1 : Nat) = g1) ∧ ((none : Option Nat) = none)) ∧ (((g2 : Nat) = g2) ∧ ((none : Option Nat) = none)) ∧ (((g1 : Nat) = g1) ∧ ((none : Option Nat) = none)) ∧ (((g2 : Nat) = g2) ∧ ((none : Option Nat) = none)) ∧ (((g1 : Nat) = g1) ∧ ((none : Option Nat) = none)) ∧ (((g2 : Nat) = g2) ∧ ((none : Option Nat) = none)) ∧ (((g1 : Nat) = g1) ∧ ((none : Option Nat) = none)) ∧ (((g2 : Nat) = g2) ∧ ((none : Option Nat) = none)) ∧ (((g1 : Nat) = g1) ∧ ((none : Option Nat) = none)) ∧ (((g2 : Nat) = g2) ∧ ((none : Option Nat) = none)) ∧ (((g1 : Nat) = g1) ∧ ((none : Option Nat) = none)) ∧ (((g2 : Nat) = g2) ∧ ((none : Option Nat) = none)) ∧ (((g1 : Nat) = g1) ∧ ((none : Option Nat) = none)) ∧ (((g2 : Nat) = g2) ∧ ((none : Option Nat) = none)) ∧ K [⟨4, none, .bool ((((((((x0.Group == x1.Group) && (x0.Number == x1.Number)) && ((x0.Status.toNat : Int) == (x1.Status.toNat : Int))) && ((x0.In.H == x1.In.H) && ((x0.In.M == x1.In.M) && ((x0.In.S == x1.In.S) && ((x0.In.F == x1.In.F) && ((x0.In.Drop == x1.In.Drop) && true)))))) && ((x0.Out.H == x1.Out.H) && ((x0.Out.M == x1.Out.M) && ((x0.Out.S == x1.Out.S) && ((x0.Out.F == x1.Out.F) && ((x0.Out.Drop == x1.Out.Drop) && true)))))) && (x0.Row == x1.Row)) && ((x0.Align.toNat : Int) == (x1.Align.toNat : Int))) && (x0.Comment == x1.Comment))⟩] [.box g1 27 (cTBlock x0 gx0), .box g2 27 (cTBlock x1 gx1)]) (fun K => by kernel_rfl) hF hH ?_
  refine ⟨⟨rfl, rfl⟩, ?_⟩
  refine ⟨⟨rfl, rfl⟩, ?_⟩
  refine ⟨⟨rfl, rfl⟩, ?_⟩
  refine ⟨⟨rfl, rfl⟩, ?_⟩
  refine ⟨⟨rfl, rfl⟩, ?_⟩
  refine ⟨⟨rfl, rfl⟩, ?_⟩
  refine ⟨⟨rfl, rfl⟩, ?_⟩
  refine ⟨⟨rfl, rfl⟩, ?_⟩
  refine ⟨⟨rfl, rfl⟩, ?_⟩
  refine ⟨⟨rfl, rfl⟩, ?_⟩
  refine ⟨⟨rfl, rfl⟩, ?_⟩
  refine ⟨⟨rfl, rfl⟩, ?_⟩
  refine ⟨⟨rfl, rfl⟩, ?_⟩
  refine ⟨⟨rfl, rfl⟩, ?_⟩
  refine ⟨⟨rfl, rfl⟩, ?_⟩
  refine ⟨⟨rfl, rfl⟩, ?_⟩
  clear hF hH; intro a w hF hH
  refine wl_end (by kernel_rfl) ?_
  refine then_n ?_
  refine wp_retE (by kernel_rfl) ?_
  refine retE (vs := [.bool ((((((((x0.Group == x1.Group) && (x0.Number == x1.Number)) && ((x0.Status.toNat : Int) == (x1.Status.toNat : Int))) && ((x0.In.H == x1.In.H) && ((x0.In.M == x1.In.M) && ((x0.In.S == x1.In.S) && ((x0.In.F == x1.In.F) && ((x0.In.Drop == x1.In.Drop) && true)))))) && ((x0.Out.H == x1.Out.H) && ((x0.Out.M == x1.Out.M) && ((x0.Out.S == x1.Out.S) && ((x0.Out.F == x1.Out.F) && ((x0.Out.Drop == x1.Out.Drop) && true)))))) && (x0.Row == x1.Row)) && ((x0.Align.toNat : Int) == (x1.Align.toNat : Int))) && (x0.Comment == x1.Comment))]) (p := True) (v := .bool ((((((((x0.Group == x1.Group) && (x0.Number == x1.Number)) && ((x0.Status.toNat : Int) == (x1.Status.toNat : Int))) && ((x0.In.H == x1.In.H) && ((x0.In.M == x1.In.M) && ((x0.In.S == x1.In.S) && ((x0.In.F == x1.In.F) && ((x0.In.Drop == x1.In.Drop) && true)))))) && ((x0.Out.H == x1.Out.H) && ((x0.Out.M == x1.Out.M) && ((x0.Out.S == x1.Out.S) && ((x0.Out.F == x1.Out.F) && ((x0.Out.Drop == x1.Out.Drop) && true)))))) && (x0.Row == x1.Row)) && ((x0.Align.toNat : Int) == (x1.Align.toNat : Int))) && (x0.Comment == x1.Comment))) [] (by kernel_rfl) trivial (by kernel_rfl) hF hH ?_
  obtain rfl := Option.some.inj hm
  exact ⟨(), by kernel_rfl, hH.below, trivial, newK hH [] [] (by kernel_rfl) (by kernel_rfl) (by kernel_rfl) (by kernel_rfl)⟩

theorem c_r23_Join (N : Nat) (x0 : List TBlock) (gx0 : Gs (Gs Unit)) (r : TBlock × (List UInt8) × Int) (hm : r23_Join N x0 = some r) : CallOk Try.prog 17 [sl x0.length gx0] [vw eTBlock x0.length x0 gx0, fm eTBlock x0.length x0 gx0 nTBlock_0] [] (U := Gs Unit × Gs Unit) (fun u => .tuple #[ag (cTBlock r.1 u.1), sl r.2.1.length u.2, .int .i64 r.2.2]) (fun u => [vw elB r.1.Text.length r.1.Text u.1]) (fun u => [vw elB r.2.1.length r.2.1 u.2]) (fun _ => True) := by
  unfold r23_Join at hm
  refine callI (N := 117) Try.func17 (by kernel_rfl) (by kernel_rfl) (by kernel_rfl) ?_
  intro w0 B M a hF hH
  refine wp_seqE (by kernel_rfl) ?_
  refine wp_regE (by kernel_rfl) ?_
  refine seg [.al, .p, .p] [0, 2] (fun K => ∀ g1, K [⟨0, none, sl x0.length gx0⟩, ⟨2, none, .pointer (some ⟨g1, 0, none⟩)⟩] [.box g1 27 (cTBlock TBlock.z (gu none 0))]) (fun K => by kernel_rfl) hF hH ?_
  intro g1
  clear hF hH; intro a w hF hH
  refine wl_end (by kernel_rfl) ?_
  refine then_n ?_
  refine wp_seqE (by kernel_rfl) ?_
  refine wp_seqE (by kernel_rfl) ?_
  refine wp_regE (by kernel_rfl) ?_
  refine seg [.p, .p, .p] [0, 2, 17] (fun K => K [⟨0, none, sl x0.length gx0⟩, ⟨2, none, .pointer (some ⟨g1, 0, none⟩)⟩, ⟨17, none, .bool ((x0.length : Int) == 0)⟩] [.box g1 27 (cTBlock TBlock.z (gu none 0))]) (fun K => by kernel_rfl) hF hH ?_
  clear hF hH; intro a w hF hH
  refine wl_end (by kernel_rfl) ?_
  refine then_n ?_
  refine wp_condE (b := (x0.length : Int) == 0) (by kernel_rfl) (by kernel_rfl) hF (fun hb1 => ?_) (fun hb1 => ?_)
  · have hm := condT hb1 hm
    have hb1p := eq_of_beq hb1
    refine wp_seqE (by kernel_rfl) ?_
    refine wp_regE (by kernel_rfl) ?_
    refine seg [.p, .st 0, .p, .p] [2, 3, 4] (fun K => ((g1 : Nat) = g1 ∧ (none : Option Nat) = none) ∧ K [⟨2, none, .pointer (some ⟨g1, 0, none⟩)⟩, ⟨3, none, sl 0 (gu none 0)⟩, ⟨4, none, .int .i64 6⟩] [.box g1 27 (cTBlock TBlock.z (gu none 0))]) (fun K => by kernel_rfl) hF hH ?_
    refine ⟨⟨rfl, rfl⟩, ?_⟩
    clear hF hH; intro a w hF hH
    refine wl_end (by kernel_rfl) ?_
    refine then_n ?_
    refine wp_retE (by kernel_rfl) ?_
    refine then_ret ?_
    have hH := hH.nilRw 5 elB (gu none 0) rfl rfl
    have hH := hH.freeze (k := 1) rfl (imp_rv (by simp)) rfl
    have hH := hH.nilVw elB (gu none 0) rfl
    refine retE (vs := [ag (cTBlock TBlock.z (gu none 0)), sl 0 (gu none 0), .int .i64 6]) (p := (((g1 : Nat) = g1 ∧ (none : Option Nat) = none)) ∧ True) (v := .tuple #[ag (cTBlock TBlock.z (gu none 0)), sl 0 (gu none 0), .int .i64 6]) [0] (by kernel_rfl) ⟨⟨rfl, rfl⟩, trivial⟩ (by kernel_rfl) hF hH ?_
    obtain rfl := Option.some.inj hm
    exact ⟨((gu none 0), (gu none 0)), by kernel_rfl, hH.below, trivial, newK hH [1] [2] (by kernel_rfl) (by kernel_rfl) (by kernel_rfl) (by kernel_rfl)⟩
  · have hm := condF hb1 hm
    have hb1p := ne_of_beq_false hb1
    refine wp_skipE (by kernel_rfl) ?_
    refine then_n ?_
    refine wp_seqE (by kernel_rfl) ?_
    refine wp_seqE (by kernel_rfl) ?_
    refine wp_regE (by kernel_rfl) ?_
    refine seg [.p, .p, .p] [0, 2, 19, 20, 21] (fun K => K [⟨0, none, sl x0.length gx0⟩, ⟨2, none, .pointer (some ⟨g1, 0, none⟩)⟩, ⟨19, none, sl x0.length gx0⟩, ⟨20, none, .int .i64 (x0.length : Int)⟩, ⟨21, none, .int .i64 0⟩] [.box g1 27 (cTBlock TBlock.z (gu none 0))]) (fun K => by kernel_rfl) hF hH ?_
    clear hF hH; intro a w hF hH
    refine wl_end (by kernel_rfl) ?_
    refine then_n ?_
    obtain ⟨jk1, hjk1, hm⟩ := jn_some hm
    refine wp_blockJ (id := 0) (by kernel_rfl) (fun a w => jk1 = some r ∧ Fr 117 [⟨0, none, sl x0.length gx0⟩, ⟨2, none, .pointer (some ⟨g1, 0, none⟩)⟩] a ∧ Hp w0 B M [vw eTBlock x0.length x0 gx0, fm eTBlock x0.length x0 gx0 nTBlock_0] [.box g1 27 (cTBlock TBlock.z (gu none 0))] w) ?_ ?_
    · skip
      refine wp_loopE (by kernel_rfl) (fun msr a w => ∃ (v1 : Int), r23_Join_L4 N x0 jk1 msr v1 = some r ∧ Fr 117 [⟨0, none, sl x0.length gx0⟩, ⟨2, none, .pointer (some ⟨g1, 0, none⟩)⟩, ⟨19, none, sl x0.length gx0⟩, ⟨20, none, .int .i64 (x0.length : Int)⟩, ⟨21, none, .int .i64 v1⟩] a ∧ Hp w0 B M [vw eTBlock x0.length x0 gx0, fm eTBlock x0.length x0 gx0 nTBlock_0] [.box g1 27 (cTBlock TBlock.z (gu none 0))] w) N ⟨0, hm, frK hF [0, 2, 19, 20, 21] (by kernel_rfl), hpKN hH [0, 1] [0] (by kernel_rfl) (by kernel_rfl) (by kernel_rfl)⟩ ?_
      clear hF hH hm; rintro msr a w ⟨v1, hm, hF, hH⟩
      rcases msr with _ | msr
      · exact absurd hm (by simp [r23_Join_L4])
      rw [r23_Join_L4] at hm
      refine wp_seqE (by kernel_rfl) ?_
      refine wp_regE (by kernel_rfl) ?_
      refine seg [.p] [0, 2, 19, 20, 21, 22] (fun K => K [⟨0, none, sl x0.length gx0⟩, ⟨2, none, .pointer (some ⟨g1, 0, none⟩)⟩, ⟨19, none, sl x0.length gx0⟩, ⟨20, none, .int .i64 (x0.length : Int)⟩, ⟨21, none, .int .i64 v1⟩, ⟨22, none, .bool (decide (v1 < (x0.length : Int)))⟩] [.box g1 27 (cTBlock TBlock.z (gu none 0))]) (fun K => by kernel_rfl) hF hH ?_
      clear hF hH; intro a w hF hH
      refine wl_end (by kernel_rfl) ?_
      refine then_n ?_
      refine wp_seqE (by kernel_rfl) ?_
      refine wp_condE (b := decide (v1 < (x0.length : Int))) (by kernel_rfl) (by kernel_rfl) hF (fun hb2 => ?_) (fun hb2 => ?_)
      · have hm := condT hb2 hm
        have hb2p := of_decide_eq_true hb2
        refine wp_skipE (by kernel_rfl) ?_
        refine then_n ?_
        refine wp_seqE (by kernel_rfl) ?_
        refine wp_blockE (id := 1) (by kernel_rfl) ?_
        refine wp_seqE (by kernel_rfl) ?_
        refine wp_regE (by kernel_rfl) ?_
        obtain ⟨hp1, hm⟩ := grd_some hm
        refine seg [.ia (.n 0) v1.toNat, .lv (.n 0) v1.toNat 0, .al, .st 1] [0, 2, 19, 20, 21, 6] (fun K => (((gx0.a : Option Addr) = gx0.a) ∧ ((x0.length : Nat) = x0.length) ∧ ((18 : Nat) = 18) ∧ ((v1 : Int) = ((v1.toNat : Nat) : Int)) ∧ (v1.toNat < x0.length)) ∧ (((gx0.a.getD nilA).add (v1.toNat * 18) = ((gx0.a.getD nilA).add (v1.toNat * 18)).add 0) ∧ (v1.toNat < x0.length)) ∧ ∀ g2, ((g2 : Nat) = g2 ∧ (none : Option Nat) = none) ∧ K [⟨0, none, sl x0.length gx0⟩, ⟨2, none, .pointer (some ⟨g1, 0, none⟩)⟩, ⟨19, none, sl x0.length gx0⟩, ⟨20, none, .int .i64 (x0.length : Int)⟩, ⟨21, none, .int .i64 v1⟩, ⟨6, none, .pointer (some ⟨g2, 0, none⟩)⟩] [.box g1 27 (cTBlock TBlock.z (gu none 0)), .box g2 27 (cTBlock (x0.getD v1.toNat TBlock.z) (gx0.g v1.toNat))]) (fun K => by kernel_rfl) hF hH ?_
        refine ⟨⟨rfl, rfl, rfl, by omega, by omega⟩, ?_⟩
        refine ⟨⟨rfl, by omega⟩, ?_⟩
        intro g2
        refine ⟨⟨rfl, rfl⟩, ?_⟩
        clear hF hH; intro a w hF hH
        refine wl_end (by kernel_rfl) ?_
        refine then_n ?_
        refine wp_seqE (by kernel_rfl) ?_
        refine wp_regE (by kernel_rfl) ?_
        refine seg [.ld (.r 1)] [0, 2, 19, 20, 21, 25] (fun K => (((g2 : Nat) = g2) ∧ ((none : Option Nat) = none)) ∧ K [⟨0, none, sl x0.length gx0⟩, ⟨2, none, .pointer (some ⟨g1, 0, none⟩)⟩, ⟨19, none, sl x0.length gx0⟩, ⟨20, none, .int .i64 (x0.length : Int)⟩, ⟨21, none, .int .i64 v1⟩, ⟨25, none, ag (cTBlock (x0.getD v1.toNat TBlock.z) (gx0.g v1.toNat))⟩] [.box g1 27 (cTBlock TBlock.z (gu none 0)), .box g2 27 (cTBlock (x0.getD v1.toNat TBlock.z) (gx0.g v1.toNat))]) (fun K => by kernel_rfl) hF hH ?_
        refine ⟨⟨rfl, rfl⟩, ?_⟩
        clear hF hH; intro a w hF hH
        have hH := hH.lookN (k := 1) rfl (imp_elem (i := v1.toNat) (by omega) (fun _ _ => rfl))
        obtain ⟨r1, hx1, hm⟩ := bnd_some hm
        refine callE (d := 26) (c_r23_Check N (x0.getD v1.toNat TBlock.z) (gx0.g v1.toNat) r1 hx1) [.v (.n 2)] [] (by kernel_rfl) trivial (.inl rfl) (by kernel_rfl) (by kernel_rfl) (by kernel_rfl) (by kernel_rfl) hF hH ?_
        clear hF hH; rintro ⟨⟩ - a w hF hH
        refine seg [.p] [0, 2, 19, 20, 21, 7] (fun K => K [⟨0, none, sl x0.length gx0⟩, ⟨2, none, .pointer (some ⟨g1, 0, none⟩)⟩, ⟨19, none, sl x0.length gx0⟩, ⟨20, none, .int .i64 (x0.length : Int)⟩, ⟨21, none, .int .i64 v1⟩, ⟨7, none, .int .i64 r1⟩] [.box g1 27 (cTBlock TBlock.z (gu none 0)), .box g2 27 (cTBlock (x0.getD v1.toNat TBlock.z) (gx0.g v1.toNat))]) (fun K => by kernel_rfl) hF hH ?_
        clear hF hH; intro a w hF hH
        refine wl_end (by kernel_rfl) ?_
        refine then_n ?_
        refine wp_seqE (by kernel_rfl) ?_
        refine wp_regE (by kernel_rfl) ?_
        refine seg [.p, .p] [0, 2, 19, 20, 21, 7, 28] (fun K => K [⟨0, none, sl x0.length gx0⟩, ⟨2, none, .pointer (some ⟨g1, 0, none⟩)⟩, ⟨19, none, sl x0.length gx0⟩, ⟨20, none, .int .i64 (x0.length : Int)⟩, ⟨21, none, .int .i64 v1⟩, ⟨7, none, .int .i64 r1⟩, ⟨28, none, .bool (r1 != 0)⟩] [.box g1 27 (cTBlock TBlock.z (gu none 0)), .box g2 27 (cTBlock (x0.getD v1.toNat TBlock.z) (gx0.g v1.toNat))]) (fun K => by kernel_rfl) hF hH ?_
        clear hF hH; intro a w hF hH
        refine wl_end (by kernel_rfl) ?_
        refine then_n ?_
        refine wp_condE (b := r1 != 0) (by kernel_rfl) (by kernel_rfl) hF (fun hb3 => ?_) (fun hb3 => ?_)
        · have hm := condT hb3 hm
          have hb3p := ne_of_bne hb3
          refine wp_seqE (by kernel_rfl) ?_
          refine wp_regE (by kernel_rfl) ?_
          refine seg [.p, .p, .st 0, .p, .p] [2, 3, 4] (fun K => ((g1 : Nat) = g1 ∧ (none : Option Nat) = none) ∧ K [⟨2, none, .pointer (some ⟨g1, 0, none⟩)⟩, ⟨3, none, sl 0 (gu none 0)⟩, ⟨4, none, .int .i64 r1⟩] [.box g1 27 (cTBlock TBlock.z (gu none 0)), .box g2 27 (cTBlock (x0.getD v1.toNat TBlock.z) (gx0.g v1.toNat))]) (fun K => by kernel_rfl) hF hH ?_
          refine ⟨⟨rfl, rfl⟩, ?_⟩
          clear hF hH; intro a w hF hH
          refine wl_end (by kernel_rfl) ?_
          refine then_n ?_
          refine wp_retE (by kernel_rfl) ?_
          refine block_ret ?_
          refine then_ret ?_
          refine then_ret ?_
          refine block_ret ?_
          refine then_ret ?_
          refine then_ret ?_
          have hH := hH.nilRw 5 elB (gu none 0) rfl rfl
          have hH := hH.freeze (k := 2) rfl (imp_rv (by simp)) rfl
          have hH := hH.nilVw elB (gu none 0) rfl
          refine retE (vs := [ag (cTBlock TBlock.z (gu none 0)), sl 0 (gu none 0), .int .i64 r1]) (p := (((g1 : Nat) = g1 ∧ (none : Option Nat) = none)) ∧ True) (v := .tuple #[ag (cTBlock TBlock.z (gu none 0)), sl 0 (gu none 0), .int .i64 r1]) [0] (by kernel_rfl) ⟨⟨rfl, rfl⟩, trivial⟩ (by kernel_rfl) hF hH ?_
          obtain rfl := Option.some.inj hm
          exact ⟨((gu none 0), (gu none 0)), by kernel_rfl, hH.below, trivial, newK hH [2] [3] (by kernel_rfl) (by kernel_rfl) (by kernel_rfl) (by kernel_rfl)⟩
        · have hm := condF hb3 hm
          have hb3p := eq_of_bne_false hb3
          refine wp_skipE (by kernel_rfl) ?_
          refine block_n ?_
          refine then_n ?_
          refine wp_regE (by kernel_rfl) ?_
          refine seg [.p, .p] [0, 2, 19, 20, 21] (fun K => K [⟨0, none, sl x0.length gx0⟩, ⟨2, none, .pointer (some ⟨g1, 0, none⟩)⟩, ⟨19, none, sl x0.length gx0⟩, ⟨20, none, .int .i64 (x0.length : Int)⟩, ⟨21, none, .int .i64 (w64 (v1 + 1))⟩] [.box g1 27 (cTBlock TBlock.z (gu none 0)), .box g2 27 (cTBlock (x0.getD v1.toNat TBlock.z) (gx0.g v1.toNat))]) (fun K => by kernel_rfl) hF hH ?_
          clear hF hH; intro a w hF hH
          refine wl_end (by kernel_rfl) ?_
          refine then_n ?_
          exact ⟨msr, Nat.lt_succ_self _, w64 (v1 + 1), hm, frK hF [0, 2, 19, 20, 21] (by kernel_rfl), hpKN hH [0, 1] [0] (by kernel_rfl) (by kernel_rfl) (by kernel_rfl)⟩
      · have hm := condF hb2 hm
        have hb2p := of_decide_eq_false hb2
        refine wp_exitE (id := 0) (by kernel_rfl) ?_
        refine then_exit ?_
        refine then_exit ?_
        refine block_exit ?_
        refine then_n ?_
        exact ⟨hm, frK hF [0, 2] (by kernel_rfl), hpKN hH [0, 1] [0] (by kernel_rfl) (by kernel_rfl) (by kernel_rfl)⟩
    · clear hF hH hm; rintro a w ⟨hm, hF, hH⟩
      rw [hjk1] at hm
      refine then_n ?_
      refine wp_seqE (by kernel_rfl) ?_
      refine wp_regE (by kernel_rfl) ?_
      refine seg [.p, .p, .p, .p] [0, 2, 8] (fun K => K [⟨0, none, sl x0.length gx0⟩, ⟨2, none, .pointer (some ⟨g1, 0, none⟩)⟩, ⟨8, none, .int .i64 (w64 ((x0.length : Int) - 1))⟩] [.box g1 27 (cTBlock TBlock.z (gu none 0))]) (fun K => by kernel_rfl) hF hH ?_
      clear hF hH; intro a w hF hH
      refine wl_end (by kernel_rfl) ?_
      refine then_n ?_
      refine wp_seqE (by kernel_rfl) ?_
      refine wp_seqE (by kernel_rfl) ?_
      refine wp_regE (by kernel_rfl) ?_
      refine seg [.p, .p, .p] [0, 2, 8, 35, 36, 37] (fun K => K [⟨0, none, sl x0.length gx0⟩, ⟨2, none, .pointer (some ⟨g1, 0, none⟩)⟩, ⟨8, none, .int .i64 (w64 ((x0.length : Int) - 1))⟩, ⟨35, none, sl x0.length gx0⟩, ⟨36, none, .int .i64 (x0.length : Int)⟩, ⟨37, none, .int .i64 0⟩] [.box g1 27 (cTBlock TBlock.z (gu none 0))]) (fun K => by kernel_rfl) hF hH ?_
      clear hF hH; intro a w hF hH
      refine wl_end (by kernel_rfl) ?_
      refine then_n ?_
      obtain ⟨jk2, hjk2, hm⟩ := jn_some hm
      refine wp_blockJ (id := 2) (by kernel_rfl) (fun a w => jk2 = some r ∧ Fr 117 [⟨0, none, sl x0.length gx0⟩, ⟨2, none, .pointer (some ⟨g1, 0, none⟩)⟩, ⟨8, none, .int .i64 (w64 ((x0.length : Int) - 1))⟩] a ∧ Hp w0 B M [vw eTBlock x0.length x0 gx0, fm eTBlock x0.length x0 gx0 nTBlock_0] [.box g1 27 (cTBlock TBlock.z (gu none 0))] w) ?_ ?_
      · skip
        refine wp_loopE (by kernel_rfl) (fun msr a w => ∃ (v2 : Int), r23_Join_L12 N x0 jk2 msr v2 = some r ∧ Fr 117 [⟨0, none, sl x0.length gx0⟩, ⟨2, none, .pointer (some ⟨g1, 0, none⟩)⟩, ⟨8, none, .int .i64 (w64 ((x0.length : Int) - 1))⟩, ⟨35, none, sl x0.length gx0⟩, ⟨36, none, .int .i64 (x0.length : Int)⟩, ⟨37, none, .int .i64 v2⟩] a ∧ Hp w0 B M [vw eTBlock x0.length x0 gx0, fm eTBlock x0.length x0 gx0 nTBlock_0] [.box g1 27 (cTBlock TBlock.z (gu none 0))] w) N ⟨0, hm, frK hF [0, 2, 8, 35, 36, 37] (by kernel_rfl), hpKN hH [0, 1] [0] (by kernel_rfl) (by kernel_rfl) (by kernel_rfl)⟩ ?_
        clear hF hH hm; rintro msr a w ⟨v2, hm, hF, hH⟩
        rcases msr with _ | msr
        · exact absurd hm (by simp [r23_Join_L12])
        rw [r23_Join_L12] at hm
        refine wp_seqE (by kernel_rfl) ?_
        refine wp_regE (by kernel_rfl) ?_
        refine seg [.p] [0, 2, 8, 35, 36, 37, 38] (fun K => K [⟨0, none, sl x0.length gx0⟩, ⟨2, none, .pointer (some ⟨g1, 0, none⟩)⟩, ⟨8, none, .int .i64 (w64 ((x0.length : Int) - 1))⟩, ⟨35, none, sl x0.length gx0⟩, ⟨36, none, .int .i64 (x0.length : Int)⟩, ⟨37, none, .int .i64 v2⟩, ⟨38, none, .bool (decide (v2 < (x0.length : Int)))⟩] [.box g1 27 (cTBlock TBlock.z (gu none 0))]) (fun K => by kernel_rfl) hF hH ?_
        clear hF hH; intro a w hF hH
        refine wl_end (by kernel_rfl) ?_
        refine then_n ?_
        refine wp_seqE (by kernel_rfl) ?_
        refine wp_condE (b := decide (v2 < (x0.length : Int))) (by kernel_rfl) (by kernel_rfl) hF (fun hb4 => ?_) (fun hb4 => ?_)
        · have hm := condT hb4 hm
          have hb4p := of_decide_eq_true hb4
          refine wp_skipE (by kernel_rfl) ?_
          refine then_n ?_
          refine wp_seqE (by kernel_rfl) ?_
          refine wp_blockE (id := 3) (by kernel_rfl) ?_
          refine wp_seqE (by kernel_rfl) ?_
          refine wp_regE (by kernel_rfl) ?_
          obtain ⟨hp2, hm⟩ := grd_some hm
          refine seg [.p, .ia (.n 0) v2.toNat, .lv (.n 0) v2.toNat 0, .al, .p, .st 1] [0, 2, 8, 35, 36, 37, 10, 9] (fun K => (((gx0.a : Option Addr) = gx0.a) ∧ ((x0.length : Nat) = x0.length) ∧ ((18 : Nat) = 18) ∧ ((v2 : Int) = ((v2.toNat : Nat) : Int)) ∧ (v2.toNat < x0.length)) ∧ (((gx0.a.getD nilA).add (v2.toNat * 18) = ((gx0.a.getD nilA).add (v2.toNat * 18)).add 0) ∧ (v2.toNat < x0.length)) ∧ ∀ g3, ((g3 : Nat) = g3 ∧ (none : Option Nat) = none) ∧ K [⟨0, none, sl x0.length gx0⟩, ⟨2, none, .pointer (some ⟨g1, 0, none⟩)⟩, ⟨8, none, .int .i64 (w64 ((x0.length : Int) - 1))⟩, ⟨35, none, sl x0.length gx0⟩, ⟨36, none, .int .i64 (x0.length : Int)⟩, ⟨37, none, .int .i64 v2⟩, ⟨10, none, .pointer (some ⟨g3, 0, none⟩)⟩, ⟨9, none, .int .i64 v2⟩] [.box g1 27 (cTBlock TBlock.z (gu none 0)), .box g3 27 (cTBlock (x0.getD v2.toNat TBlock.z) (gx0.g v2.toNat))]) (fun K => by kernel_rfl) hF hH ?_
          refine ⟨⟨rfl, rfl, rfl, by omega, by omega⟩, ?_⟩
          refine ⟨⟨rfl, by omega⟩, ?_⟩
          intro g3
          refine ⟨⟨rfl, rfl⟩, ?_⟩
          clear hF hH; intro a w hF hH
          refine wl_end (by kernel_rfl) ?_
          refine then_n ?_
          refine wp_seqE (by kernel_rfl) ?_
          obtain ⟨hp3, hm⟩ := grd_some hm
          rcases Bool.eq_false_or_eq_true (((decide (v2 < (w64 ((x0.length : Int) - 1)))) && ((((x0.getD v2.toNat TBlock.z).Extension).toNat : Int) != v2)) || ((v2 == (w64 ((x0.length : Int) - 1))) && ((((x0.getD v2.toNat TBlock.z).Extension).toNat : Int) != 255))) with hy1 | hy1
          · have hm := condT hy1 hm
            refine drawE (n := 28) (by kernel_rfl) (by kernel_rfl) (by kernel_rfl) (by kernel_rfl) [0, 1] [0, 2, 8, 35, 36, 37, 63, 64, 65, 66, 67, 68, 69] (.take 0 (.p) (.take 1 (.p) (.take 2 (.p) (.take 3 (.p) (.take 4 (.p) (.take 5 (.ld (.r 1)) (.take 6 (.pv (.int .i64 (((x0.getD v2.toNat TBlock.z).Extension).toNat : Int))) (.take 7 (.p) (.take 8 (.p) (.take 9 (.pk) (.take 10 (.p) (.take 11 (.p) (.take 12 (.p) (.take 13 (.p) (.take 14 (.p) (.take 15 (.p) (.take 16 (.ld (.r 1)) (.take 17 (.p) (.take 18 (.pk) (.take 19 (.pk) (.take 20 (.p) (.eff [(21, .sk), (22, .sk)] (fun i => (bif Nat.beq i 21 then .eff [(22, .sk)] (fun _ => .eff [(23, .sk)] (fun _ => .eff [(24, .sk)] (fun _ => .eff [(25, .sk)] (fun _ => .eff [(26, .sk)] (fun _ => .take 27 (.pt true) ((.done [0, 1]))))))) else .eff [(21, .sk), (23, .sk)] (fun i => (bif Nat.beq i 21 then .eff [(23, .sk)] (fun _ => .eff [(24, .sk)] (fun _ => .eff [(25, .sk)] (fun _ => .eff [(26, .sk)] (fun _ => .take 27 (.pt true) ((.done [0, 1])))))) else .eff [(21, .sk), (24, .sk)] (fun i => (bif Nat.beq i 21 then .eff [(24, .sk)] (fun _ => .eff [(25, .sk)] (fun _ => .eff [(26, .sk)] (fun _ => .take 27 (.pt true) ((.done [0, 1]))))) else .eff [(21, .sk)] (fun _ => .eff [(25, .sk)] (fun _ => .eff [(26, .sk)] (fun _ => .take 27 (.pt true) ((.done [0, 1]))))))))))))))))))))))))))))))))) (fun l rs => l = [⟨0, none, sl x0.length gx0⟩, ⟨2, none, .pointer (some ⟨g1, 0, none⟩)⟩, ⟨8, none, .int .i64 (w64 ((x0.length : Int) - 1))⟩, ⟨35, none, sl x0.length gx0⟩, ⟨36, none, .int .i64 (x0.length : Int)⟩, ⟨37, none, .int .i64 v2⟩, ⟨63, none, undef⟩, ⟨64, none, undef⟩, ⟨65, none, undef⟩, ⟨66, none, undef⟩, ⟨67, none, undef⟩, ⟨68, none, undef⟩, ⟨69, none, .bool true⟩] ∧ rs = [.box g1 27 (cTBlock TBlock.z (gu none 0)), .box g3 27 (cTBlock (x0.getD v2.toNat TBlock.z) (gx0.g v2.toNat))]) (fun K => (((g3 : Nat) = g3) ∧ ((none : Option Nat) = none)) ∧ ((decide (v2 < (w64 ((x0.length : Int) - 1)))) = true → (Value.int .i64 (IntKind.wrap .i64 (((x0.getD v2.toNat TBlock.z).Extension).toNat : Int)) = .int .i64 (((x0.getD v2.toNat TBlock.z).Extension).toNat : Int))) ∧ (((g3 : Nat) = g3) ∧ ((none : Option Nat) = none)) ∧ (((((decide (v2 < (w64 ((x0.length : Int) - 1)))) && ((((x0.getD v2.toNat TBlock.z).Extension).toNat : Int) != v2)) || ((v2 == (w64 ((x0.length : Int) - 1))) && ((((x0.getD v2.toNat TBlock.z).Extension).toNat : Int) != 255))) = !false) ∧ (([.box g1 27 (cTBlock TBlock.z (gu none 0)), .box g3 27 (cTBlock (x0.getD v2.toNat TBlock.z) (gx0.g v2.toNat))] : List Res) = [.box g1 27 (cTBlock TBlock.z (gu none 0)), .box g3 27 (cTBlock (x0.getD v2.toNat TBlock.z) (gx0.g v2.toNat))]) ∧ (((((decide (v2 < (w64 ((x0.length : Int) - 1)))) && ((((x0.getD v2.toNat TBlock.z).Extension).toNat : Int) != v2)) || ((v2 == (w64 ((x0.length : Int) - 1))) && ((((x0.getD v2.toNat TBlock.z).Extension).toNat : Int) != 255))) = !false) ∧ (([.box g1 27 (cTBlock TBlock.z (gu none 0)), .box g3 27 (cTBlock (x0.getD v2.toNat TBlock.z) (gx0.g v2.toNat))] : List Res) = [.box g1 27 (cTBlock TBlock.z (gu none 0)), .box g3 27 (cTBlock (x0.getD v2.toNat TBlock.z) (gx0.g v2.toNat))]) ∧ (((((decide (v2 < (w64 ((x0.length : Int) - 1)))) && ((((x0.getD v2.toNat TBlock.z).Extension).toNat : Int) != v2)) || ((v2 == (w64 ((x0.length : Int) - 1))) && ((((x0.getD v2.toNat TBlock.z).Extension).toNat : Int) != 255))) = !false) ∧ (([.box g1 27 (cTBlock TBlock.z (gu none 0)), .box g3 27 (cTBlock (x0.getD v2.toNat TBlock.z) (gx0.g v2.toNat))] : List Res) = [.box g1 27 (cTBlock TBlock.z (gu none 0)), .box g3 27 (cTBlock (x0.getD v2.toNat TBlock.z) (gx0.g v2.toNat))]) ∧ (((((decide (v2 < (w64 ((x0.length : Int) - 1)))) && ((((x0.getD v2.toNat TBlock.z).Extension).toNat : Int) != v2)) || ((v2 == (w64 ((x0.length : Int) - 1))) && ((((x0.getD v2.toNat TBlock.z).Extension).toNat : Int) != 255))) = !false) ∧ (([.box g1 27 (cTBlock TBlock.z (gu none 0)), .box g3 27 (cTBlock (x0.getD v2.toNat TBlock.z) (gx0.g v2.toNat))] : List Res) = [.box g1 27 (cTBlock TBlock.z (gu none 0)), .box g3 27 (cTBlock (x0.getD v2.toNat TBlock.z) (gx0.g v2.toNat))]) ∧ (((((decide (v2 < (w64 ((x0.length : Int) - 1)))) && ((((x0.getD v2.toNat TBlock.z).Extension).toNat : Int) != v2)) || ((v2 == (w64 ((x0.length : Int) - 1))) && ((((x0.getD v2.toNat TBlock.z).Extension).toNat : Int) != 255))) = !false) ∧ (([.box g1 27 (cTBlock TBlock.z (gu none 0)), .box g3 27 (cTBlock (x0.getD v2.toNat TBlock.z) (gx0.g v2.toNat))] : List Res) = [.box g1 27 (cTBlock TBlock.z (gu none 0)), .box g3 27 (cTBlock (x0.getD v2.toNat TBlock.z) (gx0.g v2.toNat))]) ∧ (((((decide (v2 < (w64 ((x0.length : Int) - 1)))) && ((((x0.getD v2.toNat TBlock.z).Extension).toNat : Int) != v2)) || ((v2 == (w64 ((x0.length : Int) - 1))) && ((((x0.getD v2.toNat TBlock.z).Extension).toNat : Int) != 255))) = !false) ∧ (([.box g1 27 (cTBlock TBlock.z (gu none 0)), .box g3 27 (cTBlock (x0.getD v2.toNat TBlock.z) (gx0.g v2.toNat))] : List Res) = [.box g1 27 (cTBlock TBlock.z (gu none 0)), .box g3 27 (cTBlock (x0.getD v2.toNat TBlock.z) (gx0.g v2.toNat))]) ∧ ((((decide (v2 < (w64 ((x0.length : Int) - 1)))) && ((((x0.getD v2.toNat TBlock.z).Extension).toNat : Int) != v2)) || ((v2 == (w64 ((x0.length : Int) - 1))) && ((((x0.getD v2.toNat TBlock.z).Extension).toNat : Int) != 255))) = true) ∧ K [⟨0, none, sl x0.length gx0⟩, ⟨2, none, .pointer (some ⟨g1, 0, none⟩)⟩, ⟨8, none, .int .i64 (w64 ((x0.length : Int) - 1))⟩, ⟨35, none, sl x0.length gx0⟩, ⟨36, none, .int .i64 (x0.length : Int)⟩, ⟨37, none, .int .i64 v2⟩, ⟨63, none, undef⟩, ⟨64, none, undef⟩, ⟨65, none, undef⟩, ⟨66, none, undef⟩, ⟨67, none, undef⟩, ⟨68, none, undef⟩, ⟨69, none, .bool true⟩] [.box g1 27 (cTBlock TBlock.z (gu none 0)), .box g3 27 (cTBlock (x0.getD v2.toNat TBlock.z) (gx0.g v2.toNat))])))))) ∧ (((((decide (v2 < (w64 ((x0.length : Int) - 1)))) && ((((x0.getD v2.toNat TBlock.z).Extension).toNat : Int) != v2)) || ((v2 == (w64 ((x0.length : Int) - 1))) && ((((x0.getD v2.toNat TBlock.z).Extension).toNat : Int) != 255))) = !false) ∧ (([.box g1 27 (cTBlock TBlock.z (gu none 0)), .box g3 27 (cTBlock (x0.getD v2.toNat TBlock.z) (gx0.g v2.toNat))] : List Res) = [.box g1 27 (cTBlock TBlock.z (gu none 0)), .box g3 27 (cTBlock (x0.getD v2.toNat TBlock.z) (gx0.g v2.toNat))]) ∧ (((((decide (v2 < (w64 ((x0.length : Int) - 1)))) && ((((x0.getD v2.toNat TBlock.z).Extension).toNat : Int) != v2)) || ((v2 == (w64 ((x0.length : Int) - 1))) && ((((x0.getD v2.toNat TBlock.z).Extension).toNat : Int) != 255))) = !false) ∧ (([.box g1 27 (cTBlock TBlock.z (gu none 0)), .box g3 27 (cTBlock (x0.getD v2.toNat TBlock.z) (gx0.g v2.toNat))] : List Res) = [.box g1 27 (cTBlock TBlock.z (gu none 0)), .box g3 27 (cTBlock (x0.getD v2.toNat TBlock.z) (gx0.g v2.toNat))]) ∧ (((((decide (v2 < (w64 ((x0.length : Int) - 1)))) && ((((x0.getD v2.toNat TBlock.z).Extension).toNat : Int) != v2)) || ((v2 == (w64 ((x0.length : Int) - 1))) && ((((x0.getD v2.toNat TBlock.z).Extension).toNat : Int) != 255))) = !false) ∧ (([.box g1 27 (cTBlock TBlock.z (gu none 0)), .box g3 27 (cTBlock (x0.getD v2.toNat TBlock.z) (gx0.g v2.toNat))] : List Res) = [.box g1 27 (cTBlock TBlock.z (gu none 0)), .box g3 27 (cTBlock (x0.getD v2.toNat TBlock.z) (gx0.g v2.toNat))]) ∧ (((((decide (v2 < (w64 ((x0.length : Int) - 1)))) && ((((x0.getD v2.toNat TBlock.z).Extension).toNat : Int) != v2)) || ((v2 == (w64 ((x0.length : Int) - 1))) && ((((x0.getD v2.toNat TBlock.z).Extension).toNat : Int) != 255))) = !false) ∧ (([.box g1 27 (cTBlock TBlock.z (gu none 0)), .box g3 27 (cTBlock (x0.getD v2.toNat TBlock.z) (gx0.g v2.toNat))] : List Res) = [.box g1 27 (cTBlock TBlock.z (gu none 0)), .box g3 27 (cTBlock (x0.getD v2.toNat TBlock.z) (gx0.g v2.toNat))]) ∧ (((((decide (v2 < (w64 ((x0.length : Int) - 1)))) && ((((x0.getD v2.toNat TBlock.z).Extension).toNat : Int) != v2)) || ((v2 == (w64 ((x0.length : Int) - 1))) && ((((x0.getD v2.toNat TBlock.z).Extension).toNat : Int) != 255))) = !false) ∧ (([.box g1 27 (cTBlock TBlock.z (gu none 0)), .box g3 27 (cTBlock (x0.getD v2.toNat TBlock.z) (gx0.g v2.toNat))] : List Res) = [.box g1 27 (cTBlock TBlock.z (gu none 0)), .box g3 27 (cTBlock (x0.getD v2.toNat TBlock.z) (gx0.g v2.toNat))]) ∧ (((((decide (v2 < (w64 ((x0.length : Int) - 1)))) && ((((x0.getD v2.toNat TBlock.z).Extension).toNat : Int) != v2)) || ((v2 == (w64 ((x0.length : Int) - 1))) && ((((x0.getD v2.toNat TBlock.z).Extension).toNat : Int) != 255))) = !false) ∧ (([.box g1 27 (cTBlock TBlock.z (gu none 0)), .box g3 27 (cTBlock (x0.getD v2.toNat TBlock.z) (gx0.g v2.toNat))] : List Res) = [.box g1 27 (cTBlock TBlock.z (gu none 0)), .box g3 27 (cTBlock (x0.getD v2.toNat TBlock.z) (gx0.g v2.toNat))]) ∧ ((((decide (v2 < (w64 ((x0.length : Int) - 1)))) && ((((x0.getD v2.toNat TBlock.z).Extension).toNat : Int) != v2)) || ((v2 == (w64 ((x0.length : Int) - 1))) && ((((x0.getD v2.toNat TBlock.z).Extension).toNat : Int) != 255))) = true) ∧ K [⟨0, none, sl x0.length gx0⟩, ⟨2, none, .pointer (some ⟨g1, 0, none⟩)⟩, ⟨8, none, .int .i64 (w64 ((x0.length : Int) - 1))⟩, ⟨35, none, sl x0.length gx0⟩, ⟨36, none, .int .i64 (x0.length : Int)⟩, ⟨37, none, .int .i64 v2⟩, ⟨63, none, undef⟩, ⟨64, none, undef⟩, ⟨65, none, undef⟩, ⟨66, none, undef⟩, ⟨67, none, undef⟩, ⟨68, none, undef⟩, ⟨69, none, .bool true⟩] [.box g1 27 (cTBlock TBlock.z (gu none 0)), .box g3 27 (cTBlock (x0.getD v2.toNat TBlock.z) (gx0.g v2.toNat))]))))) ∧ (((((decide (v2 < (w64 ((x0.length : Int) - 1)))) && ((((x0.getD v2.toNat TBlock.z).Extension).toNat : Int) != v2)) || ((v2 == (w64 ((x0.length : Int) - 1))) && ((((x0.getD v2.toNat TBlock.z).Extension).toNat : Int) != 255))) = !false) ∧ (([.box g1 27 (cTBlock TBlock.z (gu none 0)), .box g3 27 (cTBlock (x0.getD v2.toNat TBlock.z) (gx0.g v2.toNat))] : List Res) = [.box g1 27 (cTBlock TBlock.z (gu none 0)), .box g3 27 (cTBlock (x0.getD v2.toNat TBlock.z) (gx0.g v2.toNat))]) ∧ (((((decide (v2 < (w64 ((x0.length : Int) - 1)))) && ((((x0.getD v2.toNat TBlock.z).Extension).toNat : Int) != v2)) || ((v2 == (w64 ((x0.length : Int) - 1))) && ((((x0.getD v2.toNat TBlock.z).Extension).toNat : Int) != 255))) = !false) ∧ (([.box g1 27 (cTBlock TBlock.z (gu none 0)), .box g3 27 (cTBlock (x0.getD v2.toNat TBlock.z) (gx0.g v2.toNat))] : List Res) = [.box g1 27 (cTBlock TBlock.z (gu none 0)), .box g3 27 (cTBlock (x0.getD v2.toNat TBlock.z) (gx0.g v2.toNat))]) ∧ (((((decide (v2 < (w64 ((x0.length : Int) - 1)))) && ((((x0.getD v2.toNat TBlock.z).Extension).toNat : Int) != v2)) || ((v2 == (w64 ((x0.length : Int) - 1))) && ((((x0.getD v2.toNat TBlock.z).Extension).toNat : Int) != 255))) = !false) ∧ (([.box g1 27 (cTBlock TBlock.z (gu none 0)), .box g3 27 (cTBlock (x0.getD v2.toNat TBlock.z) (gx0.g v2.toNat))] : List Res) = [.box g1 27 (cTBlock TBlock.z (gu none 0)), .box g3 27 (cTBlock (x0.getD v2.toNat TBlock.z) (gx0.g v2.toNat))]) ∧ (((((decide (v2 < (w64 ((x0.length : Int) - 1)))) && ((((x0.getD v2.toNat TBlock.z).Extension).toNat : Int) != v2)) || ((v2 == (w64 ((x0.length : Int) - 1))) && ((((x0.getD v2.toNat TBlock.z).Extension).toNat : Int) != 255))) = !false) ∧ (([.box g1 27 (cTBlock TBlock.z (gu none 0)), .box g3 27 (cTBlock (x0.getD v2.toNat TBlock.z) (gx0.g v2.toNat))] : List Res) = [.box g1 27 (cTBlock TBlock.z (gu none 0)), .box g3 27 (cTBlock (x0.getD v2.toNat TBlock.z) (gx0.g v2.toNat))]) ∧ (((((decide (v2 < (w64 ((x0.length : Int) - 1)))) && ((((x0.getD v2.toNat TBlock.z).Extension).toNat : Int) != v2)) || ((v2 == (w64 ((x0.length : Int) - 1))) && ((((x0.getD v2.toNat TBlock.z).Extension).toNat : Int) != 255))) = !false) ∧ (([.box g1 27 (cTBlock TBlock.z (gu none 0)), .box g3 27 (cTBlock (x0.getD v2.toNat TBlock.z) (gx0.g v2.toNat))] : List Res) = [.box g1 27 (cTBlock TBlock.z (gu none 0)), .box g3 27 (cTBlock (x0.getD v2.toNat TBlock.z) (gx0.g v2.toNat))]) ∧ ((((decide (v2 < (w64 ((x0.length : Int) - 1)))) && ((((x0.getD v2.toNat TBlock.z).Extension).toNat : Int) != v2)) || ((v2 == (w64 ((x0.length : Int) - 1))) && ((((x0.getD v2.toNat TBlock.z).Extension).toNat : Int) != 255))) = true) ∧ K [⟨0, none, sl x0.length gx0⟩, ⟨2, none, .pointer (some ⟨g1, 0, none⟩)⟩, ⟨8, none, .int .i64 (w64 ((x0.length : Int) - 1))⟩, ⟨35, none, sl x0.length gx0⟩, ⟨36, none, .int .i64 (x0.length : Int)⟩, ⟨37, none, .int .i64 v2⟩, ⟨63, none, undef⟩, ⟨64, none, undef⟩, ⟨65, none, undef⟩, ⟨66, none, undef⟩, ⟨67, none, undef⟩, ⟨68, none, undef⟩, ⟨69, none, .bool true⟩] [.box g1 27 (cTBlock TBlock.z (gu none 0)), .box g3 27 (cTBlock (x0.getD v2.toNat TBlock.z) (gx0.g v2.toNat))])))) ∧ (((((decide (v2 < (w64 ((x0.length : Int) - 1)))) && ((((x0.getD v2.toNat TBlock.z).Extension).toNat : Int) != v2)) || ((v2 == (w64 ((x0.length : Int) - 1))) && ((((x0.getD v2.toNat TBlock.z).Extension).toNat : Int) != 255))) = !false) ∧ (([.box g1 27 (cTBlock TBlock.z (gu none 0)), .box g3 27 (cTBlock (x0.getD v2.toNat TBlock.z) (gx0.g v2.toNat))] : List Res) = [.box g1 27 (cTBlock TBlock.z (gu none 0)), .box g3 27 (cTBlock (x0.getD v2.toNat TBlock.z) (gx0.g v2.toNat))]) ∧ (((((decide (v2 < (w64 ((x0.length : Int) - 1)))) && ((((x0.getD v2.toNat TBlock.z).Extension).toNat : Int) != v2)) || ((v2 == (w64 ((x0.length : Int) - 1))) && ((((x0.getD v2.toNat TBlock.z).Extension).toNat : Int) != 255))) = !false) ∧ (([.box g1 27 (cTBlock TBlock.z (gu none 0)), .box g3 27 (cTBlock (x0.getD v2.toNat TBlock.z) (gx0.g v2.toNat))] : List Res) = [.box g1 27 (cTBlock TBlock.z (gu none 0)), .box g3 27 (cTBlock (x0.getD v2.toNat TBlock.z) (gx0.g v2.toNat))]) ∧ (((((decide (v2 < (w64 ((x0.length : Int) - 1)))) && ((((x0.getD v2.toNat TBlock.z).Extension).toNat : Int) != v2)) || ((v2 == (w64 ((x0.length : Int) - 1))) && ((((x0.getD v2.toNat TBlock.z).Extension).toNat : Int) != 255))) = !false) ∧ (([.box g1 27 (cTBlock TBlock.z (gu none 0)), .box g3 27 (cTBlock (x0.getD v2.toNat TBlock.z) (gx0.g v2.toNat))] : List Res) = [.box g1 27 (cTBlock TBlock.z (gu none 0)), .box g3 27 (cTBlock (x0.getD v2.toNat TBlock.z) (gx0.g v2.toNat))]) ∧ (((((decide (v2 < (w64 ((x0.length : Int) - 1)))) && ((((x0.getD v2.toNat TBlock.z).Extension).toNat : Int) != v2)) || ((v2 == (w64 ((x0.length : Int) - 1))) && ((((x0.getD v2.toNat TBlock.z).Extension).toNat : Int) != 255))) = !false) ∧ (([.box g1 27 (cTBlock TBlock.z (gu none 0)), .box g3 27 (cTBlock (x0.getD v2.toNat TBlock.z) (gx0.g v2.toNat))] : List Res) = [.box g1 27 (cTBlock TBlock.z (gu none 0)), .box g3 27 (cTBlock (x0.getD v2.toNat TBlock.z) (gx0.g v2.toNat))]) ∧ ((((decide (v2 < (w64 ((x0.length : Int) - 1)))) && ((((x0.getD v2.toNat TBlock.z).Extension).toNat : Int) != v2)) || ((v2 == (w64 ((x0.length : Int) - 1))) && ((((x0.getD v2.toNat TBlock.z).Extension).toNat : Int) != 255))) = true) ∧ K [⟨0, none, sl x0.length gx0⟩, ⟨2, none, .pointer (some ⟨g1, 0, none⟩)⟩, ⟨8, none, .int .i64 (w64 ((x0.length : Int) - 1))⟩, ⟨35, none, sl x0.length gx0⟩, ⟨36, none, .int .i64 (x0.length : Int)⟩, ⟨37, none, .int .i64 v2⟩, ⟨63, none, undef⟩, ⟨64, none, undef⟩, ⟨65, none, undef⟩, ⟨66, none, undef⟩, ⟨67, none, undef⟩, ⟨68, none, undef⟩, ⟨69, none, .bool true⟩] [.box g1 27 (cTBlock TBlock.z (gu none 0)), .box g3 27 (cTBlock (x0.getD v2.toNat TBlock.z) (gx0.g v2.toNat))]))))))) (fun K => by kernel_rfl) hF hH (⟨⟨rfl, rfl⟩, ⟨(fun q0 => by exact u8_wr_i64 _), ⟨⟨rfl, rfl⟩, ⟨⟨hy1, rfl, ⟨hy1, rfl, ⟨hy1, rfl, ⟨hy1, rfl, ⟨hy1, rfl, ⟨hy1, rfl, ⟨hy1, ⟨rfl, rfl⟩⟩⟩⟩⟩⟩⟩⟩, ⟨hy1, rfl, ⟨⟨hy1, rfl, ⟨hy1, rfl, ⟨hy1, rfl, ⟨hy1, rfl, ⟨hy1, rfl, ⟨hy1, ⟨rfl, rfl⟩⟩⟩⟩⟩⟩⟩, ⟨hy1, rfl, ⟨⟨hy1, rfl, ⟨hy1, rfl, ⟨hy1, rfl, ⟨hy1, rfl, ⟨hy1, ⟨rfl, rfl⟩⟩⟩⟩⟩⟩, ⟨hy1, rfl, ⟨hy1, rfl, ⟨hy1, rfl, ⟨hy1, rfl, ⟨hy1, ⟨rfl, rfl⟩⟩⟩⟩⟩⟩⟩⟩⟩⟩⟩⟩⟩⟩) ?_
            clear hF hH; rintro l rs a w ⟨rfl, rfl⟩ hF hH
            refine then_n ?_
            refine wp_condE (b := true) (by kernel_rfl) (by kernel_rfl) hF (fun _ => ?_) (fun h => by cases h)
            refine wp_seqE (by kernel_rfl) ?_
            refine wp_regE (by kernel_rfl) ?_
            refine seg [.p, .st 0, .p, .p] [2, 3, 4] (fun K => ((g1 : Nat) = g1 ∧ (none : Option Nat) = none) ∧ K [⟨2, none, .pointer (some ⟨g1, 0, none⟩)⟩, ⟨3, none, sl 0 (gu none 0)⟩, ⟨4, none, .int .i64 8⟩] [.box g1 27 (cTBlock TBlock.z (gu none 0)), .box g3 27 (cTBlock (x0.getD v2.toNat TBlock.z) (gx0.g v2.toNat))]) (fun K => by kernel_rfl) hF hH ?_
            refine ⟨⟨rfl, rfl⟩, ?_⟩
            clear hF hH; intro a w hF hH
            refine wl_end (by kernel_rfl) ?_
            refine then_n ?_
            refine wp_retE (by kernel_rfl) ?_
            refine block_ret ?_
            refine then_ret ?_
            refine then_ret ?_
            refine block_ret ?_
            refine then_ret ?_
            refine then_ret ?_
            have hH := hH.nilRw 5 elB (gu none 0) rfl rfl
            have hH := hH.freeze (k := 2) rfl (imp_rv (by simp)) rfl
            have hH := hH.nilVw elB (gu none 0) rfl
            refine retE (vs := [ag (cTBlock TBlock.z (gu none 0)), sl 0 (gu none 0), .int .i64 8]) (p := (((g1 : Nat) = g1 ∧ (none : Option Nat) = none)) ∧ True) (v := .tuple #[ag (cTBlock TBlock.z (gu none 0)), sl 0 (gu none 0), .int .i64 8]) [0] (by kernel_rfl) ⟨⟨rfl, rfl⟩, trivial⟩ (by kernel_rfl) hF hH ?_
            obtain rfl := Option.some.inj hm
            exact ⟨((gu none 0), (gu none 0)), by kernel_rfl, hH.below, trivial, newK hH [2] [2] (by kernel_rfl) (by kernel_rfl) (by kernel_rfl) (by kernel_rfl)⟩
          · have hm := condF hy1 hm
            have hH := hH.lookN (k := 1) rfl (imp_elem (i := v2.toNat) (by omega) (fun _ _ => rfl))
            have hH := hH.lookN (k := 1) rfl (imp_elem (i := 0) (by omega) (fun _ _ => rfl))
            obtain ⟨r2, hx2, hm⟩ := bnd_some hm
            refine drawE (n := 28) (by kernel_rfl) (by kernel_rfl) (by kernel_rfl) (by kernel_rfl) [0, 1] [0, 2, 8, 35, 36, 37, 63, 64, 65, 66, 67, 68, 69] (.take 0 (.p) (.take 1 (.p) (.take 2 (.p) (.take 3 (.p) (.take 4 (.p) (.take 5 (.ld (.r 1)) (.take 6 (.pv (.int .i64 (((x0.getD v2.toNat TBlock.z).Extension).toNat : Int))) (.take 7 (.p) (.take 8 (.p) (.take 9 (.pk) (.take 10 (.p) (.take 11 (.p) (.take 12 (.p) (.take 13 (.p) (.take 14 (.p) (.take 15 (.p) (.take 16 (.ld (.r 1)) (.take 17 (.p) (.take 18 (.pk) (.take 19 (.pk) (.take 20 (.p) (.take 21 (.ld (.r 1)) (.up 62 false (.take 22 (.p) (.up 62 false (.take 23 (.ia (.n 0) 0) (.up 62 false (.take 24 (.lv (.n 0) 0 0) (.up 62 false (.eff [(25, .ge (.cl (U := Unit) [.v (.n 2), .v (.n 3)] (fun _ => .bool r2) (fun _ => []) (fun _ => []) (fun _ => True)))] (fun _ => .take 26 (.p) (.up 62 false (.take 27 (.pt false) ((.done [0, 1]))))))))))))))))))))))))))))))))))) (fun l rs => ∃ (u1 : Unit), l = [⟨0, none, sl x0.length gx0⟩, ⟨2, none, .pointer (some ⟨g1, 0, none⟩)⟩, ⟨8, none, .int .i64 (w64 ((x0.length : Int) - 1))⟩, ⟨35, none, sl x0.length gx0⟩, ⟨36, none, .int .i64 (x0.length : Int)⟩, ⟨37, none, .int .i64 v2⟩, ⟨63, none, ag (cTBlock (x0.getD v2.toNat TBlock.z) (gx0.g v2.toNat))⟩, ⟨64, none, sl x0.length gx0⟩, ⟨65, none, .pointer (some ((gx0.a.getD nilA).add (0 * 18)))⟩, ⟨66, none, ag (cTBlock (x0.getD 0 TBlock.z) (gx0.g 0))⟩, ⟨67, none, .bool r2⟩, ⟨68, none, .bool (!r2)⟩, ⟨69, none, .bool (!r2)⟩] ∧ rs = [.box g1 27 (cTBlock TBlock.z (gu none 0)), .box g3 27 (cTBlock (x0.getD v2.toNat TBlock.z) (gx0.g v2.toNat))]) (fun K => (((g3 : Nat) = g3) ∧ ((none : Option Nat) = none)) ∧ ((decide (v2 < (w64 ((x0.length : Int) - 1)))) = true → (Value.int .i64 (IntKind.wrap .i64 (((x0.getD v2.toNat TBlock.z).Extension).toNat : Int)) = .int .i64 (((x0.getD v2.toNat TBlock.z).Extension).toNat : Int))) ∧ (((g3 : Nat) = g3) ∧ ((none : Option Nat) = none)) ∧ (((g3 : Nat) = g3) ∧ ((none : Option Nat) = none)) ∧ ((((decide (v2 < (w64 ((x0.length : Int) - 1)))) && ((((x0.getD v2.toNat TBlock.z).Extension).toNat : Int) != v2)) || ((v2 == (w64 ((x0.length : Int) - 1))) && ((((x0.getD v2.toNat TBlock.z).Extension).toNat : Int) != 255))) = false) ∧ ((((decide (v2 < (w64 ((x0.length : Int) - 1)))) && ((((x0.getD v2.toNat TBlock.z).Extension).toNat : Int) != v2)) || ((v2 == (w64 ((x0.length : Int) - 1))) && ((((x0.getD v2.toNat TBlock.z).Extension).toNat : Int) != 255))) = false) ∧ ((((decide (v2 < (w64 ((x0.length : Int) - 1)))) && ((((x0.getD v2.toNat TBlock.z).Extension).toNat : Int) != v2)) || ((v2 == (w64 ((x0.length : Int) - 1))) && ((((x0.getD v2.toNat TBlock.z).Extension).toNat : Int) != 255))) = false → (((gx0.a : Option Addr) = gx0.a) ∧ ((x0.length : Nat) = x0.length) ∧ ((18 : Nat) = 18) ∧ ((0 : Int) = ((0 : Nat) : Int)) ∧ (0 < x0.length))) ∧ ((((decide (v2 < (w64 ((x0.length : Int) - 1)))) && ((((x0.getD v2.toNat TBlock.z).Extension).toNat : Int) != v2)) || ((v2 == (w64 ((x0.length : Int) - 1))) && ((((x0.getD v2.toNat TBlock.z).Extension).toNat : Int) != 255))) = false) ∧ ((((decide (v2 < (w64 ((x0.length : Int) - 1)))) && ((((x0.getD v2.toNat TBlock.z).Extension).toNat : Int) != v2)) || ((v2 == (w64 ((x0.length : Int) - 1))) && ((((x0.getD v2.toNat TBlock.z).Extension).toNat : Int) != 255))) = false → (((gx0.a.getD nilA).add (0 * 18) = ((gx0.a.getD nilA).add (0 * 18)).add 0) ∧ (0 < x0.length))) ∧ ((((decide (v2 < (w64 ((x0.length : Int) - 1)))) && ((((x0.getD v2.toNat TBlock.z).Extension).toNat : Int) != v2)) || ((v2 == (w64 ((x0.length : Int) - 1))) && ((((x0.getD v2.toNat TBlock.z).Extension).toNat : Int) != 255))) = false) ∧ (((((decide (v2 < (w64 ((x0.length : Int) - 1)))) && ((((x0.getD v2.toNat TBlock.z).Extension).toNat : Int) != v2)) || ((v2 == (w64 ((x0.length : Int) - 1))) && ((((x0.getD v2.toNat TBlock.z).Extension).toNat : Int) != 255))) = false) ∧ (True ∧ ((false : Bool) = false ∨ ∀ u, (fun _ => [] : Unit → List Res) u = []) ∧ CallOk Try.prog 29 [ag (cTBlock (x0.getD v2.toNat TBlock.z) (gx0.g v2.toNat)), ag (cTBlock (x0.getD 0 TBlock.z) (gx0.g 0))] [vw elB (((x0.getD v2.toNat TBlock.z).Text).length) ((x0.getD v2.toNat TBlock.z).Text) (gx0.g v2.toNat), vw elB (((x0.getD 0 TBlock.z).Text).length) ((x0.getD 0 TBlock.z).Text) (gx0.g 0)] [] (U := Unit) (fun _ => .bool r2) (fun _ => []) (fun _ => []) (fun _ => True)) ∧ ∀ u1 : Unit, (fun (_ : Unit) => True) u1 → (([.box g1 27 (cTBlock TBlock.z (gu none 0)), .box g3 27 (cTBlock (x0.getD v2.toNat TBlock.z) (gx0.g v2.toNat))] : List Res) = [.box g1 27 (cTBlock TBlock.z (gu none 0)), .box g3 27 (cTBlock (x0.getD v2.toNat TBlock.z) (gx0.g v2.toNat))]) ∧ ((((decide (v2 < (w64 ((x0.length : Int) - 1)))) && ((((x0.getD v2.toNat TBlock.z).Extension).toNat : Int) != v2)) || ((v2 == (w64 ((x0.length : Int) - 1))) && ((((x0.getD v2.toNat TBlock.z).Extension).toNat : Int) != 255))) = false) ∧ ((((decide (v2 < (w64 ((x0.length : Int) - 1)))) && ((((x0.getD v2.toNat TBlock.z).Extension).toNat : Int) != v2)) || ((v2 == (w64 ((x0.length : Int) - 1))) && ((((x0.getD v2.toNat TBlock.z).Extension).toNat : Int) != 255))) = false) ∧ K [⟨0, none, sl x0.length gx0⟩, ⟨2, none, .pointer (some ⟨g1, 0, none⟩)⟩, ⟨8, none, .int .i64 (w64 ((x0.length : Int) - 1))⟩, ⟨35, none, sl x0.length gx0⟩, ⟨36, none, .int .i64 (x0.length : Int)⟩, ⟨37, none, .int .i64 v2⟩, ⟨63, none, ag (cTBlock (x0.getD v2.toNat TBlock.z) (gx0.g v2.toNat))⟩, ⟨64, none, sl x0.length gx0⟩, ⟨65, none, .pointer (some ((gx0.a.getD nilA).add (0 * 18)))⟩, ⟨66, none, ag (cTBlock (x0.getD 0 TBlock.z) (gx0.g 0))⟩, ⟨67, none, .bool r2⟩, ⟨68, none, .bool (!r2)⟩, ⟨69, none, .bool (!r2)⟩] [.box g1 27 (cTBlock TBlock.z (gu none 0)), .box g3 27 (cTBlock (x0.getD v2.toNat TBlock.z) (gx0.g v2.toNat))])) (fun K => by kernel_rfl) hF hH (⟨⟨rfl, rfl⟩, ⟨(fun q0 => by exact u8_wr_i64 _), ⟨⟨rfl, rfl⟩, ⟨⟨rfl, rfl⟩, hy1, ⟨hy1, ⟨(fun q0 => by have := hp3 q0; have := hp3 q0; have := hp3 q0; have := hp3 q0; have := hp3 q0; have := hp3 q0; have := hp3 q0; have := hp3 q0; have := hp3 q0; have := hp3 q0; have := hp3 q0; have := hp3 q0; have := hp3 q0; have := hp3 q0; have := hp3 q0; have := hp3 q0; exact ⟨rfl, rfl, rfl, by omega, by omega⟩), hy1, ⟨(fun q0 => by have := hp3 q0; have := hp3 q0; have := hp3 q0; have := hp3 q0; have := hp3 q0; have := hp3 q0; have := hp3 q0; have := hp3 q0; have := hp3 q0; have := hp3 q0; have := hp3 q0; have := hp3 q0; have := hp3 q0; have := hp3 q0; have := hp3 q0; have := hp3 q0; exact ⟨rfl, by omega⟩), hy1, (⟨hy1, ⟨⟨trivial, .inl rfl, c_r23_alike N (x0.getD v2.toNat TBlock.z) (gx0.g v2.toNat) (x0.getD 0 TBlock.z) (gx0.g 0) r2 hx2⟩, (by rintro u1 -; exact ⟨rfl, ⟨hy1, ⟨hy1, ⟨u1, rfl, rfl⟩⟩⟩⟩)⟩⟩)⟩⟩⟩⟩⟩⟩⟩) ?_
            clear hF hH; rintro l rs a w ⟨u1, rfl, rfl⟩ hF hH
            refine then_n ?_
            refine wp_condE (b := !r2) (by kernel_rfl) (by kernel_rfl) hF (fun hb5 => ?_) (fun hb5 => ?_)
            · have hm := condT hb5 hm
              refine wp_seqE (by kernel_rfl) ?_
              refine wp_regE (by kernel_rfl) ?_
              refine seg [.p, .st 0, .p, .p] [2, 3, 4] (fun K => ((g1 : Nat) = g1 ∧ (none : Option Nat) = none) ∧ K [⟨2, none, .pointer (some ⟨g1, 0, none⟩)⟩, ⟨3, none, sl 0 (gu none 0)⟩, ⟨4, none, .int .i64 8⟩] [.box g1 27 (cTBlock TBlock.z (gu none 0)), .box g3 27 (cTBlock (x0.getD v2.toNat TBlock.z) (gx0.g v2.toNat))]) (fun K => by kernel_rfl) hF hH ?_
              refine ⟨⟨rfl, rfl⟩, ?_⟩
              clear hF hH; intro a w hF hH
              refine wl_end (by kernel_rfl) ?_
              refine then_n ?_
              refine wp_retE (by kernel_rfl) ?_
              refine block_ret ?_
              refine then_ret ?_
              refine then_ret ?_
              refine block_ret ?_
              refine then_ret ?_
              refine then_ret ?_
              have hH := hH.nilRw 5 elB (gu none 0) rfl rfl
              have hH := hH.freeze (k := 2) rfl (imp_rv (by simp)) rfl
              have hH := hH.nilVw elB (gu none 0) rfl
              refine retE (vs := [ag (cTBlock TBlock.z (gu none 0)), sl 0 (gu none 0), .int .i64 8]) (p := (((g1 : Nat) = g1 ∧ (none : Option Nat) = none)) ∧ True) (v := .tuple #[ag (cTBlock TBlock.z (gu none 0)), sl 0 (gu none 0), .int .i64 8]) [0] (by kernel_rfl) ⟨⟨rfl, rfl⟩, trivial⟩ (by kernel_rfl) hF hH ?_
              obtain rfl := Option.some.inj hm
              exact ⟨((gu none 0), (gu none 0)), by kernel_rfl, hH.below, trivial, newK hH [2] [4] (by kernel_rfl) (by kernel_rfl) (by kernel_rfl) (by kernel_rfl)⟩
            · have hm := condF hb5 hm
              refine wp_skipE (by kernel_rfl) ?_
              refine block_n ?_
              refine then_n ?_
              refine wp_regE (by kernel_rfl) ?_
              refine seg [.p, .p] [0, 2, 8, 35, 36, 63, 64, 65, 66, 67, 68, 37] (fun K => K [⟨0, none, sl x0.length gx0⟩, ⟨2, none, .pointer (some ⟨g1, 0, none⟩)⟩, ⟨8, none, .int .i64 (w64 ((x0.length : Int) - 1))⟩, ⟨35, none, sl x0.length gx0⟩, ⟨36, none, .int .i64 (x0.length : Int)⟩, ⟨63, none, ag (cTBlock (x0.getD v2.toNat TBlock.z) (gx0.g v2.toNat))⟩, ⟨64, none, sl x0.length gx0⟩, ⟨65, none, .pointer (some ((gx0.a.getD nilA).add (0 * 18)))⟩, ⟨66, none, ag (cTBlock (x0.getD 0 TBlock.z) (gx0.g 0))⟩, ⟨67, none, .bool r2⟩, ⟨68, none, .bool (!r2)⟩, ⟨37, none, .int .i64 (w64 (v2 + 1))⟩] [.box g1 27 (cTBlock TBlock.z (gu none 0)), .box g3 27 (cTBlock (x0.getD v2.toNat TBlock.z) (gx0.g v2.toNat))]) (fun K => by kernel_rfl) hF hH ?_
              clear hF hH; intro a w hF hH
              refine wl_end (by kernel_rfl) ?_
              refine then_n ?_
              exact ⟨msr, Nat.lt_succ_self _, w64 (v2 + 1), hm, frK hF [0, 2, 8, 35, 36, 37] (by kernel_rfl), hpKN hH [0, 1] [0] (by kernel_rfl) (by kernel_rfl) (by kernel_rfl)⟩
        · have hm := condF hb4 hm
          have hb4p := of_decide_eq_false hb4
          refine wp_exitE (id := 2) (by kernel_rfl) ?_
          refine then_exit ?_
          refine then_exit ?_
          refine block_exit ?_
          refine then_n ?_
          exact ⟨hm, frK hF [0, 2, 8] (by kernel_rfl), hpKN hH [0, 1] [0] (by kernel_rfl) (by kernel_rfl) (by kernel_rfl)⟩
      · clear hF hH hm; rintro a w ⟨hm, hF, hH⟩
        rw [hjk2] at hm
        refine then_n ?_
        refine wp_seqE (by kernel_rfl) ?_
        refine wp_regE (by kernel_rfl) ?_
        refine seg [.bs, .p] [0, 2, 8, 11] (fun K => ∀ g4, K [⟨0, none, sl x0.length gx0⟩, ⟨2, none, .pointer (some ⟨g1, 0, none⟩)⟩, ⟨8, none, .int .i64 (w64 ((x0.length : Int) - 1))⟩, ⟨11, none, sl 0 (gu (some ⟨g4, 0, none⟩) 0)⟩] [.box g1 27 (cTBlock TBlock.z (gu none 0)), .box g4 5 []]) (fun K => by kernel_rfl) hF hH ?_
        intro g4
        clear hF hH; intro a w hF hH
        refine wl_end (by kernel_rfl) ?_
        refine then_n ?_
        refine wp_seqE (by kernel_rfl) ?_
        refine wp_seqE (by kernel_rfl) ?_
        refine wp_regE (by kernel_rfl) ?_
        refine seg [.p, .p, .p] [0, 2, 8, 11, 73, 74, 75] (fun K => K [⟨0, none, sl x0.length gx0⟩, ⟨2, none, .pointer (some ⟨g1, 0, none⟩)⟩, ⟨8, none, .int .i64 (w64 ((x0.length : Int) - 1))⟩, ⟨11, none, sl 0 (gu (some ⟨g4, 0, none⟩) 0)⟩, ⟨73, none, sl x0.length gx0⟩, ⟨74, none, .int .i64 (x0.length : Int)⟩, ⟨75, none, .int .i64 0⟩] [.box g1 27 (cTBlock TBlock.z (gu none 0)), .box g4 5 []]) (fun K => by kernel_rfl) hF hH ?_
        clear hF hH; intro a w hF hH
        refine wl_end (by kernel_rfl) ?_
        refine then_n ?_
        obtain ⟨jk3, hjk3, hm⟩ := jn_some hm
        refine wp_blockJ (id := 4) (by kernel_rfl) (fun a w => ∃ (v3 : List UInt8), ∃ (s1 : Gs Unit), jk3 v3 = some r ∧ Fr 117 [⟨0, none, sl x0.length gx0⟩, ⟨2, none, .pointer (some ⟨g1, 0, none⟩)⟩, ⟨11, none, sl v3.length s1⟩] a ∧ Hp w0 B M [vw eTBlock x0.length x0 gx0, fm eTBlock x0.length x0 gx0 nTBlock_0] [.box g1 27 (cTBlock TBlock.z (gu none 0)), rw 5 elB v3.length v3 s1] w) ?_ ?_
        · skip
          have hH := hH.boxRw (n := 0) (k := 1) (e := elB) (xs := []) (s := (gu (some ⟨g4, 0, none⟩) 0)) rfl (by kernel_rfl) rfl rfl rfl (by unfold maxLen; omega)
          refine wp_loopE (by kernel_rfl) (fun msr a w => ∃ (v4 : List UInt8), ∃ (v5 : Int), ∃ (s2 : Gs Unit), r23_Join_L19 N x0 jk3 msr v4 v5 = some r ∧ Fr 117 [⟨0, none, sl x0.length gx0⟩, ⟨2, none, .pointer (some ⟨g1, 0, none⟩)⟩, ⟨8, none, .int .i64 (w64 ((x0.length : Int) - 1))⟩, ⟨11, none, sl v4.length s2⟩, ⟨73, none, sl x0.length gx0⟩, ⟨74, none, .int .i64 (x0.length : Int)⟩, ⟨75, none, .int .i64 v5⟩] a ∧ Hp w0 B M [vw eTBlock x0.length x0 gx0, fm eTBlock x0.length x0 gx0 nTBlock_0] [.box g1 27 (cTBlock TBlock.z (gu none 0)), rw 5 elB v4.length v4 s2] w) N ⟨[], 0, (gu (some ⟨g4, 0, none⟩) 0), hm, frK hF [0, 2, 8, 11, 73, 74, 75] (by kernel_rfl), hpKN hH [0, 1] [0, 1] (by kernel_rfl) (by kernel_rfl) (by kernel_rfl)⟩ ?_
          clear hF hH hm; rintro msr a w ⟨v4, v5, s2, hm, hF, hH⟩
          rcases msr with _ | msr
          · exact absurd hm (by simp [r23_Join_L19])
          rw [r23_Join_L19] at hm
          refine wp_seqE (by kernel_rfl) ?_
          refine wp_regE (by kernel_rfl) ?_
          refine seg [.p] [0, 2, 8, 11, 73, 74, 75, 76] (fun K => K [⟨0, none, sl x0.length gx0⟩, ⟨2, none, .pointer (some ⟨g1, 0, none⟩)⟩, ⟨8, none, .int .i64 (w64 ((x0.length : Int) - 1))⟩, ⟨11, none, sl v4.length s2⟩, ⟨73, none, sl x0.length gx0⟩, ⟨74, none, .int .i64 (x0.length : Int)⟩, ⟨75, none, .int .i64 v5⟩, ⟨76, none, .bool (decide (v5 < (x0.length : Int)))⟩] [.box g1 27 (cTBlock TBlock.z (gu none 0)), rw 5 elB v4.length v4 s2]) (fun K => by kernel_rfl) hF hH ?_
          clear hF hH; intro a w hF hH
          refine wl_end (by kernel_rfl) ?_
          refine then_n ?_
          refine wp_seqE (by kernel_rfl) ?_
          refine wp_condE (b := decide (v5 < (x0.length : Int))) (by kernel_rfl) (by kernel_rfl) hF (fun hb6 => ?_) (fun hb6 => ?_)
          · have hm := condT hb6 hm
            have hb6p := of_decide_eq_true hb6
            refine wp_skipE (by kernel_rfl) ?_
            refine then_n ?_
            refine wp_seqE (by kernel_rfl) ?_
            refine wp_blockE (id := 5) (by kernel_rfl) ?_
            refine wp_seqE (by kernel_rfl) ?_
            refine wp_regE (by kernel_rfl) ?_
            obtain ⟨hp4, hm⟩ := grd_some hm
            refine seg [.p, .ia (.n 0) v5.toNat, .lv (.n 0) v5.toNat 0, .al, .p, .st 2] [0, 2, 8, 11, 73, 74, 75, 13, 12] (fun K => (((gx0.a : Option Addr) = gx0.a) ∧ ((x0.length : Nat) = x0.length) ∧ ((18 : Nat) = 18) ∧ ((v5 : Int) = ((v5.toNat : Nat) : Int)) ∧ (v5.toNat < x0.length)) ∧ (((gx0.a.getD nilA).add (v5.toNat * 18) = ((gx0.a.getD nilA).add (v5.toNat * 18)).add 0) ∧ (v5.toNat < x0.length)) ∧ ∀ g5, ((g5 : Nat) = g5 ∧ (none : Option Nat) = none) ∧ K [⟨0, none, sl x0.length gx0⟩, ⟨2, none, .pointer (some ⟨g1, 0, none⟩)⟩, ⟨8, none, .int .i64 (w64 ((x0.length : Int) - 1))⟩, ⟨11, none, sl v4.length s2⟩, ⟨73, none, sl x0.length gx0⟩, ⟨74, none, .int .i64 (x0.length : Int)⟩, ⟨75, none, .int .i64 v5⟩, ⟨13, none, .pointer (some ⟨g5, 0, none⟩)⟩, ⟨12, none, .int .i64 v5⟩] [.box g1 27 (cTBlock TBlock.z (gu none 0)), rw 5 elB v4.length v4 s2, .box g5 27 (cTBlock (x0.getD v5.toNat TBlock.z) (gx0.g v5.toNat))]) (fun K => by kernel_rfl) hF hH ?_
            refine ⟨⟨rfl, rfl, rfl, by omega, by omega⟩, ?_⟩
            refine ⟨⟨rfl, by omega⟩, ?_⟩
            intro g5
            refine ⟨⟨rfl, rfl⟩, ?_⟩
            clear hF hH; intro a w hF hH
            refine wl_end (by kernel_rfl) ?_
            refine then_n ?_
            refine wp_seqE (by kernel_rfl) ?_
            refine wp_seqE (by kernel_rfl) ?_
            refine wp_regE (by kernel_rfl) ?_
            refine seg [.p, .p, .p, .p, .p, .ld (.r 2), .p, .p, .pk, .p, .p, .p, .p, .p, .p, .p, .pk, .p, .p, .ld (.r 2), .p, .p, .pk, .pk] [0, 2, 8, 11, 73, 74, 75, 13, 103] (fun K => (((g5 : Nat) = g5) ∧ ((none : Option Nat) = none)) ∧ (((g5 : Nat) = g5) ∧ ((none : Option Nat) = none)) ∧ K [⟨0, none, sl x0.length gx0⟩, ⟨2, none, .pointer (some ⟨g1, 0, none⟩)⟩, ⟨8, none, .int .i64 (w64 ((x0.length : Int) - 1))⟩, ⟨11, none, sl v4.length s2⟩, ⟨73, none, sl x0.length gx0⟩, ⟨74, none, .int .i64 (x0.length : Int)⟩, ⟨75, none, .int .i64 v5⟩, ⟨13, none, .pointer (some ⟨g5, 0, none⟩)⟩, ⟨103, none, .bool (((decide (v5 < (w64 ((x0.length : Int) - 1)))) && (decide ((((x0.getD v5.toNat TBlock.z).Text).length : Int) < 112))) || (((v5 == (w64 ((x0.length : Int) - 1))) && (decide (0 < v5))) && ((((x0.getD v5.toNat TBlock.z).Text).length : Int) == 0)))⟩] [.box g1 27 (cTBlock TBlock.z (gu none 0)), rw 5 elB v4.length v4 s2, .box g5 27 (cTBlock (x0.getD v5.toNat TBlock.z) (gx0.g v5.toNat))]) (fun K => by kernel_rfl) hF hH ?_
            refine ⟨⟨rfl, rfl⟩, ?_⟩
            refine ⟨⟨rfl, rfl⟩, ?_⟩
            clear hF hH; intro a w hF hH
            refine wl_end (by kernel_rfl) ?_
            refine then_n ?_
            refine wp_condE (b := ((decide (v5 < (w64 ((x0.length : Int) - 1)))) && (decide ((((x0.getD v5.toNat TBlock.z).Text).length : Int) < 112))) || (((v5 == (w64 ((x0.length : Int) - 1))) && (decide (0 < v5))) && ((((x0.getD v5.toNat TBlock.z).Text).length : Int) == 0))) (by kernel_rfl) (by kernel_rfl) hF (fun hb7 => ?_) (fun hb7 => ?_)
            · have hm := condT hb7 hm
              refine wp_seqE (by kernel_rfl) ?_
              refine wp_regE (by kernel_rfl) ?_
              refine seg [.p, .st 0, .p, .p] [2, 3, 4] (fun K => ((g1 : Nat) = g1 ∧ (none : Option Nat) = none) ∧ K [⟨2, none, .pointer (some ⟨g1, 0, none⟩)⟩, ⟨3, none, sl 0 (gu none 0)⟩, ⟨4, none, .int .i64 4⟩] [.box g1 27 (cTBlock TBlock.z (gu none 0)), rw 5 elB v4.length v4 s2, .box g5 27 (cTBlock (x0.getD v5.toNat TBlock.z) (gx0.g v5.toNat))]) (fun K => by kernel_rfl) hF hH ?_
              refine ⟨⟨rfl, rfl⟩, ?_⟩
              clear hF hH; intro a w hF hH
              refine wl_end (by kernel_rfl) ?_
              refine then_n ?_
              refine wp_retE (by kernel_rfl) ?_
              refine then_ret ?_
              refine block_ret ?_
              refine then_ret ?_
              refine then_ret ?_
              refine block_ret ?_
              refine then_ret ?_
              refine then_ret ?_
              have hH := hH.nilRw 5 elB (gu none 0) rfl rfl
              have hH := hH.freeze (k := 3) rfl (imp_rv (by simp)) rfl
              have hH := hH.nilVw elB (gu none 0) rfl
              refine retE (vs := [ag (cTBlock TBlock.z (gu none 0)), sl 0 (gu none 0), .int .i64 4]) (p := (((g1 : Nat) = g1 ∧ (none : Option Nat) = none)) ∧ True) (v := .tuple #[ag (cTBlock TBlock.z (gu none 0)), sl 0 (gu none 0), .int .i64 4]) [0] (by kernel_rfl) ⟨⟨rfl, rfl⟩, trivial⟩ (by kernel_rfl) hF hH ?_
              obtain rfl := Option.some.inj hm
              exact ⟨((gu none 0), (gu none 0)), by kernel_rfl, hH.below, trivial, newK hH [3] [2] (by kernel_rfl) (by kernel_rfl) (by kernel_rfl) (by kernel_rfl)⟩
            · have hm := condF hb7 hm
              refine wp_skipE (by kernel_rfl) ?_
              refine then_n ?_
              refine wp_regE (by kernel_rfl) ?_
              refine seg [.p, .p, .ld (.r 2)] [0, 2, 8, 11, 73, 74, 75, 105, 107] (fun K => (((g5 : Nat) = g5) ∧ ((none : Option Nat) = none)) ∧ K [⟨0, none, sl x0.length gx0⟩, ⟨2, none, .pointer (some ⟨g1, 0, none⟩)⟩, ⟨8, none, .int .i64 (w64 ((x0.length : Int) - 1))⟩, ⟨11, none, sl v4.length s2⟩, ⟨73, none, sl x0.length gx0⟩, ⟨74, none, .int .i64 (x0.length : Int)⟩, ⟨75, none, .int .i64 v5⟩, ⟨105, none, sl v4.length s2⟩, ⟨107, none, sl (((x0.getD v5.toNat TBlock.z).Text).length) (gx0.g v5.toNat)⟩] [.box g1 27 (cTBlock TBlock.z (gu none 0)), rw 5 elB v4.length v4 s2, .box g5 27 (cTBlock (x0.getD v5.toNat TBlock.z) (gx0.g v5.toNat))]) (fun K => by kernel_rfl) hF hH ?_
              refine ⟨⟨rfl, rfl⟩, ?_⟩
              clear hF hH; intro a w hF hH
              have hH := hH.lookN (k := 1) rfl (imp_elem (i := v5.toNat) (by omega) (fun _ _ => rfl))
              obtain ⟨hp5, hm⟩ := grd_some hm
              refine seg [.ap 1 (.n 2) (rowC elB ((x0.getD v5.toNat TBlock.z).Text) (fun _ => ())) ((v4 ++ ((x0.getD v5.toNat TBlock.z).Text)).length) (rowC elB (v4 ++ ((x0.getD v5.toNat TBlock.z).Text)) (fun _ => ())), .p] [0, 2, 8, 73, 74, 75, 11] (fun K => (((s2.a : Option Addr) = s2.a) ∧ ((s2.c : Nat) = s2.c) ∧ ((v4.length : Nat) = v4.length) ∧ srcP (vw elB (((x0.getD v5.toNat TBlock.z).Text).length) ((x0.getD v5.toNat TBlock.z).Text) (gx0.g v5.toNat)) (gx0.g v5.toNat).a (((x0.getD v5.toNat TBlock.z).Text).length) 1 (rowC elB ((x0.getD v5.toNat TBlock.z).Text) (fun _ => ())) ∧ (∀ u ∈ (rowC elB ((x0.getD v5.toNat TBlock.z).Text) (fun _ => ()) : List Value), u.oneCell' = true) ∧ (v4.length + ((x0.getD v5.toNat TBlock.z).Text).length ≤ maxLen) ∧ ((v4.length + ((x0.getD v5.toNat TBlock.z).Text).length) * 1 ≤ 140737488355328) ∧ (v4.length + ((x0.getD v5.toNat TBlock.z).Text).length = (v4 ++ ((x0.getD v5.toNat TBlock.z).Text)).length) ∧ (rowC elB v4 s2.g ++ rowC elB ((x0.getD v5.toNat TBlock.z).Text) (fun _ => ()) = rowC elB (v4 ++ ((x0.getD v5.toNat TBlock.z).Text)) (fun _ => ()))) ∧ ∀ A2 c2, K [⟨0, none, sl x0.length gx0⟩, ⟨2, none, .pointer (some ⟨g1, 0, none⟩)⟩, ⟨8, none, .int .i64 (w64 ((x0.length : Int) - 1))⟩, ⟨73, none, sl x0.length gx0⟩, ⟨74, none, .int .i64 (x0.length : Int)⟩, ⟨75, none, .int .i64 v5⟩, ⟨11, none, sl ((v4 ++ ((x0.getD v5.toNat TBlock.z).Text)).length) (gu A2 c2)⟩] [.box g1 27 (cTBlock TBlock.z (gu none 0)), rw 5 elB ((v4 ++ ((x0.getD v5.toNat TBlock.z).Text)).length) (v4 ++ ((x0.getD v5.toNat TBlock.z).Text)) (gu A2 c2), .box g5 27 (cTBlock (x0.getD v5.toNat TBlock.z) (gx0.g v5.toNat))]) (fun K => by kernel_rfl) hF hH ?_
              refine ⟨⟨rfl, rfl, rfl, ⟨rfl, rfl, rfl, (rowC_flatN _ _ _ (by first | rfl | simp)).symm⟩, rowC_one _ _ _, by (unfold maxLen; omega), by omega, by first | rfl | omega | (simp only [List.length_append, List.length_cons, List.length_nil] <;> omega), (rowC_appU _ _ _ _ _ _).symm⟩, ?_⟩
              intro A2 c2
              clear hF hH; intro a w hF hH
              refine wl_end (by kernel_rfl) ?_
              refine block_n ?_
              refine then_n ?_
              refine wp_regE (by kernel_rfl) ?_
              refine seg [.p, .p] [0, 2, 8, 73, 74, 11, 75] (fun K => K [⟨0, none, sl x0.length gx0⟩, ⟨2, none, .pointer (some ⟨g1, 0, none⟩)⟩, ⟨8, none, .int .i64 (w64 ((x0.length : Int) - 1))⟩, ⟨73, none, sl x0.length gx0⟩, ⟨74, none, .int .i64 (x0.length : Int)⟩, ⟨11, none, sl ((v4 ++ ((x0.getD v5.toNat TBlock.z).Text)).length) (gu A2 c2)⟩, ⟨75, none, .int .i64 (w64 (v5 + 1))⟩] [.box g1 27 (cTBlock TBlock.z (gu none 0)), rw 5 elB ((v4 ++ ((x0.getD v5.toNat TBlock.z).Text)).length) (v4 ++ ((x0.getD v5.toNat TBlock.z).Text)) (gu A2 c2), .box g5 27 (cTBlock (x0.getD v5.toNat TBlock.z) (gx0.g v5.toNat))]) (fun K => by kernel_rfl) hF hH ?_
              clear hF hH; intro a w hF hH
              refine wl_end (by kernel_rfl) ?_
              refine then_n ?_
              exact ⟨msr, Nat.lt_succ_self _, v4 ++ ((x0.getD v5.toNat TBlock.z).Text), w64 (v5 + 1), (gu A2 c2), hm, frK hF [0, 2, 8, 11, 73, 74, 75] (by kernel_rfl), hpKN hH [0, 1] [0, 1] (by kernel_rfl) (by kernel_rfl) (by kernel_rfl)⟩
          · have hm := condF hb6 hm
            have hb6p := of_decide_eq_false hb6
            refine wp_exitE (id := 4) (by kernel_rfl) ?_
            refine then_exit ?_
            refine then_exit ?_
            refine block_exit ?_
            refine then_n ?_
            exact ⟨v4, s2, hm, frK hF [0, 2, 11] (by kernel_rfl), hpKN hH [0, 1] [0, 1] (by kernel_rfl) (by kernel_rfl) (by kernel_rfl)⟩
        · clear hF hH hm; rintro a w ⟨v3, s1, hm, hF, hH⟩
          rw [hjk3] at hm
          refine then_n ?_
          refine wp_seqE (by kernel_rfl) ?_
          refine wp_regE (by kernel_rfl) ?_
          obtain ⟨hp6, hm⟩ := grd_some hm
          refine seg [.p, .ia (.n 0) 0, .lv (.n 0) 0 0, .al, .st 2] [2, 11, 14] (fun K => (((gx0.a : Option Addr) = gx0.a) ∧ ((x0.length : Nat) = x0.length) ∧ ((18 : Nat) = 18) ∧ ((0 : Int) = ((0 : Nat) : Int)) ∧ (0 < x0.length)) ∧ (((gx0.a.getD nilA).add (0 * 18) = ((gx0.a.getD nilA).add (0 * 18)).add 0) ∧ (0 < x0.length)) ∧ ∀ g6, ((g6 : Nat) = g6 ∧ (none : Option Nat) = none) ∧ K [⟨2, none, .pointer (some ⟨g1, 0, none⟩)⟩, ⟨11, none, sl v3.length s1⟩, ⟨14, none, .pointer (some ⟨g6, 0, none⟩)⟩] [.box g1 27 (cTBlock TBlock.z (gu none 0)), rw 5 elB v3.length v3 s1, .box g6 27 (cTBlock (x0.getD 0 TBlock.z) (gx0.g 0))]) (fun K => by kernel_rfl) hF hH ?_
          refine ⟨⟨rfl, rfl, rfl, by omega, by omega⟩, ?_⟩
          refine ⟨⟨rfl, by omega⟩, ?_⟩
          intro g6
          refine ⟨⟨rfl, rfl⟩, ?_⟩
          clear hF hH; intro a w hF hH
          refine wl_end (by kernel_rfl) ?_
          refine then_n ?_
          refine wp_seqE (by kernel_rfl) ?_
          refine wp_regE (by kernel_rfl) ?_
          refine seg [.p, .st 2, .p, .st 2] [2, 11, 14] (fun K => ((g6 : Nat) = g6 ∧ (none : Option Nat) = none) ∧ ((g6 : Nat) = g6 ∧ (none : Option Nat) = none) ∧ K [⟨2, none, .pointer (some ⟨g1, 0, none⟩)⟩, ⟨11, none, sl v3.length s1⟩, ⟨14, none, .pointer (some ⟨g6, 0, none⟩)⟩] [.box g1 27 (cTBlock TBlock.z (gu none 0)), rw 5 elB v3.length v3 s1, .box g6 27 (cTBlock ({ (x0.getD 0 TBlock.z) with Extension := 255, Text := [] }) (gu none 0))]) (fun K => by kernel_rfl) hF hH ?_
          refine ⟨⟨rfl, rfl⟩, ?_⟩
          refine ⟨⟨rfl, rfl⟩, ?_⟩
          clear hF hH; intro a w hF hH
          refine wl_end (by kernel_rfl) ?_
          refine then_n ?_
          refine wp_seqE (by kernel_rfl) ?_
          refine wp_regE (by kernel_rfl) ?_
          refine seg [.ld (.r 2), .p, .st 0, .p, .p] [2, 3, 4] (fun K => (((g6 : Nat) = g6) ∧ ((none : Option Nat) = none)) ∧ ((g1 : Nat) = g1 ∧ (none : Option Nat) = none) ∧ K [⟨2, none, .pointer (some ⟨g1, 0, none⟩)⟩, ⟨3, none, sl v3.length s1⟩, ⟨4, none, .int .i64 0⟩] [.box g1 27 (cTBlock ({ (x0.getD 0 TBlock.z) with Extension := 255, Text := [] }) (gu none 0)), rw 5 elB v3.length v3 s1, .box g6 27 (cTBlock ({ (x0.getD 0 TBlock.z) with Extension := 255, Text := [] }) (gu none 0))]) (fun K => by kernel_rfl) hF hH ?_
          refine ⟨⟨rfl, rfl⟩, ?_⟩
          refine ⟨⟨rfl, rfl⟩, ?_⟩
          clear hF hH; intro a w hF hH
          refine wl_end (by kernel_rfl) ?_
          refine then_n ?_
          refine wp_retE (by kernel_rfl) ?_
          have hH := hH.nilRw 5 elB (gu none 0) rfl rfl
          have hH := hH.freeze (k := 3) rfl (imp_rv (by simp)) rfl
          have hH := hH.toN (k := 1) rfl (imp_rv (rfl))
          refine retE (vs := [ag (cTBlock ({ (x0.getD 0 TBlock.z) with Extension := 255, Text := [] }) (gu none 0)), sl v3.length s1, .int .i64 0]) (p := (((g1 : Nat) = g1 ∧ (none : Option Nat) = none)) ∧ True) (v := .tuple #[ag (cTBlock ({ (x0.getD 0 TBlock.z) with Extension := 255, Text := [] }) (gu none 0)), sl v3.length s1, .int .i64 0]) [0] (by kernel_rfl) ⟨⟨rfl, rfl⟩, trivial⟩ (by kernel_rfl) hF hH ?_
          obtain rfl := Option.some.inj hm
          exact ⟨((gu none 0), s1), by kernel_rfl, hH.below, trivial, newK hH [2] [2] (by kernel_rfl) (by kernel_rfl) (by kernel_rfl) (by kernel_rfl)⟩

theorem c_l23_TapeJoins (N : Nat) (x0 : List TBlock) (gx0 : Gs (Gs Unit)) (r : Bool) (hm : l23_TapeJoins N x0 = some r) : CallOk Try.prog 5 [sl x0.length gx0] [vw eTBlock x0.length x0 gx0, fm eTBlock x0.length x0 gx0 nTBlock_0] [] (U := Unit) (fun _ => .bool r) (fun _ => []) (fun _ => []) (fun _ => True) := by
  unfold l23_TapeJoins at hm
  refine callI (N := 73) Try.func5 (by kernel_rfl) (by kernel_rfl) (by kernel_rfl) ?_
  intro w0 B M a hF hH
  refine wp_seqE (by kernel_rfl) ?_
  refine wp_regE (by kernel_rfl) ?_
  refine seg [.p] [0] (fun K => K [⟨0, none, sl x0.length gx0⟩] []) (fun K => by kernel_rfl) hF hH ?_
  clear hF hH; intro a w hF hH
  refine wl_end (by kernel_rfl) ?_
  refine then_n ?_
  refine wp_seqE (by kernel_rfl) ?_
  refine wp_seqE (by kernel_rfl) ?_
  refine wp_regE (by kernel_rfl) ?_
  obtain ⟨r1, hx1, hm⟩ := bnd_some hm
  refine callE (d := 12) (c_l23_awake N r1 hx1) [] [] (by kernel_rfl) trivial (.inl rfl) (by kernel_rfl) (by kernel_rfl) (by kernel_rfl) (by kernel_rfl) hF hH ?_
  clear hF hH; rintro ⟨⟩ - a w hF hH
  refine seg [.p] [0, 13] (fun K => K [⟨0, none, sl x0.length gx0⟩, ⟨13, none, .bool (!r1)⟩] []) (fun K => by kernel_rfl) hF hH ?_
  clear hF hH; intro a w hF hH
  refine wl_end (by kernel_rfl) ?_
  refine then_n ?_
  refine wp_condE (b := !r1) (by kernel_rfl) (by kernel_rfl) hF (fun hb1 => ?_) (fun hb1 => ?_)
  · have hm := condT hb1 hm
    refine wp_seqE (by kernel_rfl) ?_
    refine wp_regE (by kernel_rfl) ?_
    refine seg [.p] [2] (fun K => K [⟨2, none, .bool false⟩] []) (fun K => by kernel_rfl) hF hH ?_
    clear hF hH; intro a w hF hH
    refine wl_end (by kernel_rfl) ?_
    refine then_n ?_
    refine wp_retE (by kernel_rfl) ?_
    refine then_ret ?_
    refine retE (vs := [.bool false]) (p := True) (v := .bool false) [] (by kernel_rfl) trivial (by kernel_rfl) hF hH ?_
    obtain rfl := Option.some.inj hm
    exact ⟨(), by kernel_rfl, hH.below, trivial, newK hH [] [] (by kernel_rfl) (by kernel_rfl) (by kernel_rfl) (by kernel_rfl)⟩
  · have hm := condF hb1 hm
    refine wp_skipE (by kernel_rfl) ?_
    refine then_n ?_
    refine wp_seqE (by kernel_rfl) ?_
    refine wp_regE (by kernel_rfl) ?_
    refine seg [.p] [0, 14] (fun K => K [⟨0, none, sl x0.length gx0⟩, ⟨14, none, sl x0.length gx0⟩] []) (fun K => by kernel_rfl) hF hH ?_
    clear hF hH; intro a w hF hH
    obtain ⟨r2, hx2, hm⟩ := bnd_some hm
    refine callE (d := 15) (c_l23_few N x0 gx0 r2 hx2) [.v (.n 0), .v (.n 1)] [] (by kernel_rfl) trivial (.inl rfl) (by kernel_rfl) (by kernel_rfl) (by kernel_rfl) (by kernel_rfl) hF hH ?_
    clear hF hH; rintro s1 - a w hF hH
    refine seg [.p] [0] (fun K => K [⟨0, none, sl r2.length s1⟩] []) (fun K => by kernel_rfl) hF hH ?_
    clear hF hH; intro a w hF hH
    refine wl_end (by kernel_rfl) ?_
    refine then_n ?_
    refine wp_seqE (by kernel_rfl) ?_
    refine wp_seqE (by kernel_rfl) ?_
    refine wp_regE (by kernel_rfl) ?_
    refine seg [.p, .p, .p] [0, 17, 18] (fun K => K [⟨0, none, sl r2.length s1⟩, ⟨17, none, .int .i64 (r2.length : Int)⟩, ⟨18, none, .int .i64 0⟩] []) (fun K => by kernel_rfl) hF hH ?_
    clear hF hH; intro a w hF hH
    refine wl_end (by kernel_rfl) ?_
    refine then_n ?_
    obtain ⟨jk1, hjk1, hm⟩ := jn_some hm
    refine wp_blockJ (id := 0) (by kernel_rfl) (fun a w => jk1 = some r ∧ Fr 73 [⟨0, none, sl r2.length s1⟩] a ∧ Hp w0 B M [vw eTBlock x0.length x0 gx0, fm eTBlock x0.length x0 gx0 nTBlock_0, vw eTBlock r2.length r2 s1, fm eTBlock r2.length r2 s1 nTBlock_0] [] w) ?_ ?_
    · skip
      refine wp_loopE (by kernel_rfl) (fun msr a w => ∃ (v1 : Int), l23_TapeJoins_L5 N r2 jk1 msr v1 = some r ∧ Fr 73 [⟨0, none, sl r2.length s1⟩, ⟨17, none, .int .i64 (r2.length : Int)⟩, ⟨18, none, .int .i64 v1⟩] a ∧ Hp w0 B M [vw eTBlock x0.length x0 gx0, fm eTBlock x0.length x0 gx0 nTBlock_0, vw eTBlock r2.length r2 s1, fm eTBlock r2.length r2 s1 nTBlock_0] [] w) N ⟨0, hm, frK hF [0, 17, 18] (by kernel_rfl), hpKN hH [0, 1, 2, 3] [] (by kernel_rfl) (by kernel_rfl) (by kernel_rfl)⟩ ?_
      clear hF hH hm; rintro msr a w ⟨v1, hm, hF, hH⟩
      rcases msr with _ | msr
      · exact absurd hm (by simp [l23_TapeJoins_L5])
      rw [l23_TapeJoins_L5] at hm
      refine wp_seqE (by kernel_rfl) ?_
      refine wp_regE (by kernel_rfl) ?_
      refine seg [.p] [0, 17, 18, 19] (fun K => K [⟨0, none, sl r2.length s1⟩, ⟨17, none, .int .i64 (r2.length : Int)⟩, ⟨18, none, .int .i64 v1⟩, ⟨19, none, .bool (decide (v1 < (r2.length : Int)))⟩] []) (fun K => by kernel_rfl) hF hH ?_
      clear hF hH; intro a w hF hH
      refine wl_end (by kernel_rfl) ?_
      refine then_n ?_
      refine wp_seqE (by kernel_rfl) ?_
      refine wp_condE (b := decide (v1 < (r2.length : Int))) (by kernel_rfl) (by kernel_rfl) hF (fun hb2 => ?_) (fun hb2 => ?_)
      · have hm := condT hb2 hm
        have hb2p := of_decide_eq_true hb2
        refine wp_skipE (by kernel_rfl) ?_
        refine then_n ?_
        refine wp_seqE (by kernel_rfl) ?_
        refine wp_blockE (id := 1) (by kernel_rfl) ?_
        refine wp_seqE (by kernel_rfl) ?_
        refine wp_regE (by kernel_rfl) ?_
        refine seg [.p, .p] [0, 17, 18, 3] (fun K => K [⟨0, none, sl r2.length s1⟩, ⟨17, none, .int .i64 (r2.length : Int)⟩, ⟨18, none, .int .i64 v1⟩, ⟨3, none, .int .i64 v1⟩] []) (fun K => by kernel_rfl) hF hH ?_
        clear hF hH; intro a w hF hH
        refine wl_end (by kernel_rfl) ?_
        refine then_n ?_
        refine wp_seqE (by kernel_rfl) ?_
        refine wp_regE (by kernel_rfl) ?_
        obtain ⟨hp1, hm⟩ := grd_some hm
        refine seg [.p, .p, .ia (.n 2) v1.toNat, .p, .lv (.n 2) v1.toNat 17, .p, .p] [0, 17, 18, 27] (fun K => (((s1.a : Option Addr) = s1.a) ∧ ((r2.length : Nat) = r2.length) ∧ ((18 : Nat) = 18) ∧ ((v1 : Int) = ((v1.toNat : Nat) : Int)) ∧ (v1.toNat < r2.length)) ∧ ((((s1.a.getD nilA).add (v1.toNat * 18)).add 17 = ((s1.a.getD nilA).add (v1.toNat * 18)).add 17) ∧ (v1.toNat < r2.length)) ∧ K [⟨0, none, sl r2.length s1⟩, ⟨17, none, .int .i64 (r2.length : Int)⟩, ⟨18, none, .int .i64 v1⟩, ⟨27, none, .bool (decide (200 < (((r2.getD v1.toNat TBlock.z).Text).length : Int)))⟩] []) (fun K => by kernel_rfl) hF hH ?_
        refine ⟨⟨rfl, rfl, rfl, by omega, by omega⟩, ?_⟩
        refine ⟨⟨rfl, by omega⟩, ?_⟩
        clear hF hH; intro a w hF hH
        refine wl_end (by kernel_rfl) ?_
        refine then_n ?_
        refine wp_condE (b := decide (200 < (((r2.getD v1.toNat TBlock.z).Text).length : Int))) (by kernel_rfl) (by kernel_rfl) hF (fun hb3 => ?_) (fun hb3 => ?_)
        · have hm := condT hb3 hm
          have hb3p := of_decide_eq_true hb3
          refine wp_seqE (by kernel_rfl) ?_
          refine wp_regE (by kernel_rfl) ?_
          refine seg [.p] [2] (fun K => K [⟨2, none, .bool true⟩] []) (fun K => by kernel_rfl) hF hH ?_
          clear hF hH; intro a w hF hH
          refine wl_end (by kernel_rfl) ?_
          refine then_n ?_
          refine wp_retE (by kernel_rfl) ?_
          refine block_ret ?_
          refine then_ret ?_
          refine then_ret ?_
          refine block_ret ?_
          refine then_ret ?_
          refine then_ret ?_
          refine retE (vs := [.bool true]) (p := True) (v := .bool true) [] (by kernel_rfl) trivial (by kernel_rfl) hF hH ?_
          obtain rfl := Option.some.inj hm
          exact ⟨(), by kernel_rfl, hH.below, trivial, newK hH [] [] (by kernel_rfl) (by kernel_rfl) (by kernel_rfl) (by kernel_rfl)⟩
        · have hm := condF hb3 hm
          have hb3p := of_decide_eq_false hb3
          refine wp_skipE (by kernel_rfl) ?_
          refine block_n ?_
          refine then_n ?_
          refine wp_regE (by kernel_rfl) ?_
          refine seg [.p, .p] [0, 17, 18] (fun K => K [⟨0, none, sl r2.length s1⟩, ⟨17, none, .int .i64 (r2.length : Int)⟩, ⟨18, none, .int .i64 (w64 (v1 + 1))⟩] []) (fun K => by kernel_rfl) hF hH ?_
          clear hF hH; intro a w hF hH
          refine wl_end (by kernel_rfl) ?_
          refine then_n ?_
          exact ⟨msr, Nat.lt_succ_self _, w64 (v1 + 1), hm, frK hF [0, 17, 18] (by kernel_rfl), hpKN hH [0, 1, 2, 3] [] (by kernel_rfl) (by kernel_rfl) (by kernel_rfl)⟩
      · have hm := condF hb2 hm
        have hb2p := of_decide_eq_false hb2
        refine wp_exitE (id := 0) (by kernel_rfl) ?_
        refine then_exit ?_
        refine then_exit ?_
        refine block_exit ?_
        refine then_n ?_
        exact ⟨hm, frK hF [0] (by kernel_rfl), hpKN hH [0, 1, 2, 3] [] (by kernel_rfl) (by kernel_rfl) (by kernel_rfl)⟩
    · clear hF hH hm; rintro a w ⟨hm, hF, hH⟩
      rw [hjk1] at hm
      refine then_n ?_
      refine wp_seqE (by kernel_rfl) ?_
      refine wp_regE (by kernel_rfl) ?_
      refine seg [.p] [0, 30] (fun K => K [⟨0, none, sl r2.length s1⟩, ⟨30, none, sl r2.length s1⟩] []) (fun K => by kernel_rfl) hF hH ?_
      clear hF hH; intro a w hF hH
      obtain ⟨r3, hx3, hm⟩ := bnd_some hm
      refine callE (d := 31) (c_tape_Join N r2 s1 r3 hx3) [.v (.n 2), .v (.n 3)] [] (by kernel_rfl) trivial (.inl rfl) (by kernel_rfl) (by kernel_rfl) (by kernel_rfl) (by kernel_rfl) hF hH ?_
      clear hF hH; rintro ⟨s2, s3⟩ - a w hF hH
      refine seg [.p, .p, .p, .p, .al, .st 2, .p, .p] [0, 4, 5, 6] (fun K => ∀ g1, ((g1 : Nat) = g1 ∧ (none : Option Nat) = none) ∧ K [⟨0, none, sl r2.length s1⟩, ⟨4, none, .pointer (some ⟨g1, 0, none⟩)⟩, ⟨5, none, sl r3.2.1.length s3⟩, ⟨6, none, .int .i64 r3.2.2⟩] [vw elB r3.1.Text.length r3.1.Text s2, rw 5 elB r3.2.1.length r3.2.1 s3, .box g1 27 (cTBlock r3.1 s2)]) (fun K => by kernel_rfl) hF hH ?_
      intro g1
      refine ⟨⟨rfl, rfl⟩, ?_⟩
      clear hF hH; intro a w hF hH
      refine wl_end (by kernel_rfl) ?_
      refine then_n ?_
      refine wp_seqE (by kernel_rfl) ?_
      refine wp_regE (by kernel_rfl) ?_
      refine seg [.p] [0, 4, 5, 6, 36] (fun K => K [⟨0, none, sl r2.length s1⟩, ⟨4, none, .pointer (some ⟨g1, 0, none⟩)⟩, ⟨5, none, sl r3.2.1.length s3⟩, ⟨6, none, .int .i64 r3.2.2⟩, ⟨36, none, sl r2.length s1⟩] [vw elB r3.1.Text.length r3.1.Text s2, rw 5 elB r3.2.1.length r3.2.1 s3, .box g1 27 (cTBlock r3.1 s2)]) (fun K => by kernel_rfl) hF hH ?_
      clear hF hH; intro a w hF hH
      obtain ⟨r4, hx4, hm⟩ := bnd_some hm
      refine callE (d := 37) (c_r23_Join N r2 s1 r4 hx4) [.v (.n 2), .v (.n 3)] [] (by kernel_rfl) trivial (.inl rfl) (by kernel_rfl) (by kernel_rfl) (by kernel_rfl) (by kernel_rfl) hF hH ?_
      clear hF hH; rintro ⟨s4, s5⟩ - a w hF hH
      refine seg [.p, .p, .p, .p, .al, .st 4, .p, .p] [0, 4, 5, 6, 7, 8, 9] (fun K => ∀ g2, ((g2 : Nat) = g2 ∧ (none : Option Nat) = none) ∧ K [⟨0, none, sl r2.length s1⟩, ⟨4, none, .pointer (some ⟨g1, 0, none⟩)⟩, ⟨5, none, sl r3.2.1.length s3⟩, ⟨6, none, .int .i64 r3.2.2⟩, ⟨7, none, .pointer (some ⟨g2, 0, none⟩)⟩, ⟨8, none, sl r4.2.1.length s5⟩, ⟨9, none, .int .i64 r4.2.2⟩] [vw elB r3.1.Text.length r3.1.Text s2, rw 5 elB r3.2.1.length r3.2.1 s3, .box g1 27 (cTBlock r3.1 s2), vw elB r4.1.Text.length r4.1.Text s4, .box g2 27 (cTBlock r4.1 s4)]) (fun K => by kernel_rfl) hF hH ?_
      intro g2
      refine ⟨⟨rfl, rfl⟩, ?_⟩
      clear hF hH; intro a w hF hH
      refine wl_end (by kernel_rfl) ?_
      refine then_n ?_
      refine wp_seqE (by kernel_rfl) ?_
      refine wp_seqE (by kernel_rfl) ?_
      refine wp_regE (by kernel_rfl) ?_
      refine seg [.ld (.r 2), .ld (.r 4)] [0, 4, 5, 6, 8, 9, 41, 42] (fun K => (((g1 : Nat) = g1) ∧ ((none : Option Nat) = none)) ∧ (((g2 : Nat) = g2) ∧ ((none : Option Nat) = none)) ∧ K [⟨0, none, sl r2.length s1⟩, ⟨4, none, .pointer (some ⟨g1, 0, none⟩)⟩, ⟨5, none, sl r3.2.1.length s3⟩, ⟨6, none, .int .i64 r3.2.2⟩, ⟨8, none, sl r4.2.1.length s5⟩, ⟨9, none, .int .i64 r4.2.2⟩, ⟨41, none, ag (cTBlock r3.1 s2)⟩, ⟨42, none, ag (cTBlock r4.1 s4)⟩] [vw elB r3.1.Text.length r3.1.Text s2, rw 5 elB r3.2.1.length r3.2.1 s3, .box g1 27 (cTBlock r3.1 s2), vw elB r4.1.Text.length r4.1.Text s4, .box g2 27 (cTBlock r4.1 s4)]) (fun K => by kernel_rfl) hF hH ?_
      refine ⟨⟨rfl, rfl⟩, ?_⟩
      refine ⟨⟨rfl, rfl⟩, ?_⟩
      clear hF hH; intro a w hF hH
      obtain ⟨r5, hx5, hm⟩ := bnd_some hm
      refine callE (d := 43) (c_l23_same N r3.1 s2 r4.1 s4 r5 hx5) [.v (.r 0), .v (.r 3)] [] (by kernel_rfl) trivial (.inl rfl) (by kernel_rfl) (by kernel_rfl) (by kernel_rfl) (by kernel_rfl) hF hH ?_
      clear hF hH; rintro ⟨⟩ - a w hF hH
      refine seg [.p, .p] [0, 4, 5, 6, 8, 9, 45] (fun K => K [⟨0, none, sl r2.length s1⟩, ⟨4, none, .pointer (some ⟨g1, 0, none⟩)⟩, ⟨5, none, sl r3.2.1.length s3⟩, ⟨6, none, .int .i64 r3.2.2⟩, ⟨8, none, sl r4.2.1.length s5⟩, ⟨9, none, .int .i64 r4.2.2⟩, ⟨45, none, .bool (!r5)⟩] [vw elB r3.1.Text.length r3.1.Text s2, rw 5 elB r3.2.1.length r3.2.1 s3, .box g1 27 (cTBlock r3.1 s2), vw elB r4.1.Text.length r4.1.Text s4, .box g2 27 (cTBlock r4.1 s4)]) (fun K => by kernel_rfl) hF hH ?_
      clear hF hH; intro a w hF hH
      rcases Bool.eq_false_or_eq_true (!r5) with hx6 | hx6
      · have hm := condT hx6 hm
        rw [hx6] at hF
        refine seg [.sk, .sk, .sk, .sk, .p, .p, .sk, .sk, .sk, .p] [0, 4, 5, 6, 55] (fun K => (true = !false) ∧ (true = !false) ∧ (true = !false) ∧ (true = !false) ∧ (true = !false) ∧ (true = !false) ∧ (true = !false) ∧ K [⟨0, none, sl r2.length s1⟩, ⟨4, none, .pointer (some ⟨g1, 0, none⟩)⟩, ⟨5, none, sl r3.2.1.length s3⟩, ⟨6, none, .int .i64 r3.2.2⟩, ⟨55, none, .bool true⟩] [vw elB r3.1.Text.length r3.1.Text s2, rw 5 elB r3.2.1.length r3.2.1 s3, .box g1 27 (cTBlock r3.1 s2), vw elB r4.1.Text.length r4.1.Text s4, .box g2 27 (cTBlock r4.1 s4)]) (fun K => by kernel_rfl) hF hH ?_
        refine ⟨rfl, ?_⟩
        refine ⟨rfl, ?_⟩
        refine ⟨rfl, ?_⟩
        refine ⟨rfl, ?_⟩
        refine ⟨rfl, ?_⟩
        refine ⟨rfl, ?_⟩
        refine ⟨rfl, ?_⟩
        clear hF hH; intro a w hF hH
        refine wl_end (by kernel_rfl) ?_
        refine then_n ?_
        refine wp_condE (b := true) (by kernel_rfl) (by kernel_rfl) hF (fun _ => ?_) (fun h => by cases h)
        refine wp_seqE (by kernel_rfl) ?_
        refine wp_regE (by kernel_rfl) ?_
        refine seg [.p] [2] (fun K => K [⟨2, none, .bool false⟩] [vw elB r3.1.Text.length r3.1.Text s2, rw 5 elB r3.2.1.length r3.2.1 s3, .box g1 27 (cTBlock r3.1 s2), vw elB r4.1.Text.length r4.1.Text s4, .box g2 27 (cTBlock r4.1 s4)]) (fun K => by kernel_rfl) hF hH ?_
        clear hF hH; intro a w hF hH
        refine wl_end (by kernel_rfl) ?_
        refine then_n ?_
        refine wp_retE (by kernel_rfl) ?_
        refine then_ret ?_
        refine retE (vs := [.bool false]) (p := True) (v := .bool false) [] (by kernel_rfl) trivial (by kernel_rfl) hF hH ?_
        obtain rfl := Option.some.inj hm
        exact ⟨(), by kernel_rfl, hH.below, trivial, newK hH [] [] (by kernel_rfl) (by kernel_rfl) (by kernel_rfl) (by kernel_rfl)⟩
      · have hm := condF hx6 hm
        rw [hx6] at hF
        refine seg [.gt (.p), .gt (.p)] [0, 4, 5, 6, 9, 45, 46, 47] (fun K => (false = false) ∧ (false = false) ∧ K [⟨0, none, sl r2.length s1⟩, ⟨4, none, .pointer (some ⟨g1, 0, none⟩)⟩, ⟨5, none, sl r3.2.1.length s3⟩, ⟨6, none, .int .i64 r3.2.2⟩, ⟨9, none, .int .i64 r4.2.2⟩, ⟨45, none, .bool false⟩, ⟨46, none, sl r3.2.1.length s3⟩, ⟨47, none, sl r4.2.1.length s5⟩] [vw elB r3.1.Text.length r3.1.Text s2, rw 5 elB r3.2.1.length r3.2.1 s3, .box g1 27 (cTBlock r3.1 s2), vw elB r4.1.Text.length r4.1.Text s4, .box g2 27 (cTBlock r4.1 s4)]) (fun K => by kernel_rfl) hF hH ?_
        refine ⟨rfl, ?_⟩
        refine ⟨rfl, ?_⟩
        clear hF hH; intro a w hF hH
        obtain ⟨r6, hx7, hm⟩ := bnd_some hm
        refine callE (d := 48) (b := true) (p := (((∀ w, Res.ok w (rw 5 elB r3.2.1.length r3.2.1 s3) → Res.ok w (vw elB r3.2.1.length r3.2.1 s3)) ∧ ∀ b, (vw elB r3.2.1.length r3.2.1 s3).fp b → (rw 5 elB r3.2.1.length r3.2.1 s3).fp b) ∧ True)) (c_slices_Equal_Lbyte N r3.2.1 s3 r4.2.1 s5 r6 hx7) [.b 1 (vw elB r3.2.1.length r3.2.1 s3), .v (.n 4)] [] (by kernel_rfl) ⟨⟨(imp_rv (rfl)).ok, (imp_rv (rfl)).fp⟩, trivial⟩ (.inr fun _ => rfl) (by kernel_rfl) (by kernel_rfl) (by kernel_rfl) (by kernel_rfl) hF hH ?_
        clear hF hH; rintro ⟨⟩ - a w hF hH
        refine seg [.gt (.p), .p, .p, .p, .p, .p, .pk] [0, 4, 5, 6, 55] (fun K => (false = false) ∧ K [⟨0, none, sl r2.length s1⟩, ⟨4, none, .pointer (some ⟨g1, 0, none⟩)⟩, ⟨5, none, sl r3.2.1.length s3⟩, ⟨6, none, .int .i64 r3.2.2⟩, ⟨55, none, .bool ((!r6) || (r3.2.2 != r4.2.2))⟩] [vw elB r3.1.Text.length r3.1.Text s2, rw 5 elB r3.2.1.length r3.2.1 s3, .box g1 27 (cTBlock r3.1 s2), vw elB r4.1.Text.length r4.1.Text s4, .box g2 27 (cTBlock r4.1 s4)]) (fun K => by kernel_rfl) hF hH ?_
        refine ⟨rfl, ?_⟩
        clear hF hH; intro a w hF hH
        refine wl_end (by kernel_rfl) ?_
        refine then_n ?_
        refine wp_condE (b := (!r6) || (r3.2.2 != r4.2.2)) (by kernel_rfl) (by kernel_rfl) hF (fun hb4 => ?_) (fun hb4 => ?_)
        · have hm := condT hb4 hm
          refine wp_seqE (by kernel_rfl) ?_
          refine wp_regE (by kernel_rfl) ?_
          refine seg [.p] [2] (fun K => K [⟨2, none, .bool false⟩] [vw elB r3.1.Text.length r3.1.Text s2, rw 5 elB r3.2.1.length r3.2.1 s3, .box g1 27 (cTBlock r3.1 s2), vw elB r4.1.Text.length r4.1.Text s4, .box g2 27 (cTBlock r4.1 s4)]) (fun K => by kernel_rfl) hF hH ?_
          clear hF hH; intro a w hF hH
          refine wl_end (by kernel_rfl) ?_
          refine then_n ?_
          refine wp_retE (by kernel_rfl) ?_
          refine then_ret ?_
          refine retE (vs := [.bool false]) (p := True) (v := .bool false) [] (by kernel_rfl) trivial (by kernel_rfl) hF hH ?_
          obtain rfl := Option.some.inj hm
          exact ⟨(), by kernel_rfl, hH.below, trivial, newK hH [] [] (by kernel_rfl) (by kernel_rfl) (by kernel_rfl) (by kernel_rfl)⟩
        · have hm := condF hb4 hm
          refine wp_skipE (by kernel_rfl) ?_
          refine then_n ?_
          refine wp_seqE (by kernel_rfl) ?_
          refine wp_regE (by kernel_rfl) ?_
          refine seg [.ld (.r 2), .p] [0, 6, 57, 58] (fun K => (((g1 : Nat) = g1) ∧ ((none : Option Nat) = none)) ∧ K [⟨0, none, sl r2.length s1⟩, ⟨6, none, .int .i64 r3.2.2⟩, ⟨57, none, ag (cTBlock r3.1 s2)⟩, ⟨58, none, sl r3.2.1.length s3⟩] [vw elB r3.1.Text.length r3.1.Text s2, rw 5 elB r3.2.1.length r3.2.1 s3, .box g1 27 (cTBlock r3.1 s2), vw elB r4.1.Text.length r4.1.Text s4, .box g2 27 (cTBlock r4.1 s4)]) (fun K => by kernel_rfl) hF hH ?_
          refine ⟨⟨rfl, rfl⟩, ?_⟩
          clear hF hH; intro a w hF hH
          obtain ⟨r7, hx8, hm⟩ := bnd_some hm
          refine callE (d := 59) (b := true) (p := (((∀ w, Res.ok w (rw 5 elB r3.2.1.length r3.2.1 s3) → Res.ok w (vw elB r3.2.1.length r3.2.1 s3)) ∧ ∀ b, (vw elB r3.2.1.length r3.2.1 s3).fp b → (rw 5 elB r3.2.1.length r3.2.1 s3).fp b) ∧ True)) (c_tape_Split N r3.1 s2 r3.2.1 s3 r7 hx8) [.v (.r 0), .b 1 (vw elB r3.2.1.length r3.2.1 s3)] [] (by kernel_rfl) ⟨⟨(imp_rv (rfl)).ok, (imp_rv (rfl)).fp⟩, trivial⟩ (.inr fun _ => rfl) (by kernel_rfl) (by kernel_rfl) (by kernel_rfl) (by kernel_rfl) hF hH ?_
          clear hF hH; rintro s6 - a w hF hH
          refine seg [.p, .p, .p, .p, .p] [0, 6, 10, 11] (fun K => K [⟨0, none, sl r2.length s1⟩, ⟨6, none, .int .i64 r3.2.2⟩, ⟨10, none, sl r7.1.length s6⟩, ⟨11, none, .int .i64 r7.2⟩] [vw elB r3.1.Text.length r3.1.Text s2, rw 5 elB r3.2.1.length r3.2.1 s3, .box g1 27 (cTBlock r3.1 s2), vw elB r4.1.Text.length r4.1.Text s4, .box g2 27 (cTBlock r4.1 s4), vw eTBlock r7.1.length r7.1 s6, fm eTBlock r7.1.length r7.1 s6 nTBlock_0]) (fun K => by kernel_rfl) hF hH ?_
          clear hF hH; intro a w hF hH
          refine wl_end (by kernel_rfl) ?_
          refine then_n ?_
          refine wp_seqE (by kernel_rfl) ?_
          refine wp_regE (by kernel_rfl) ?_
          refine seg [.p, .p, .p] [0, 10, 11, 64] (fun K => K [⟨0, none, sl r2.length s1⟩, ⟨10, none, sl r7.1.length s6⟩, ⟨11, none, .int .i64 r7.2⟩, ⟨64, none, .bool (r3.2.2 != 0)⟩] [vw elB r3.1.Text.length r3.1.Text s2, rw 5 elB r3.2.1.length r3.2.1 s3, .box g1 27 (cTBlock r3.1 s2), vw elB r4.1.Text.length r4.1.Text s4, .box g2 27 (cTBlock r4.1 s4), vw eTBlock r7.1.length r7.1 s6, fm eTBlock r7.1.length r7.1 s6 nTBlock_0]) (fun K => by kernel_rfl) hF hH ?_
          clear hF hH; intro a w hF hH
          rcases Bool.eq_false_or_eq_true (r3.2.2 != 0) with hx9 | hx9
          · have hm := condT hx9 hm
            rw [hx9] at hF
            have hx9p := ne_of_bne hx9
            refine seg [.sk, .sk, .sk, .sk, .sk, .sk, .sk, .p, .p] [2] (fun K => (true = !false) ∧ (true = !false) ∧ (true = !false) ∧ (true = !false) ∧ K [⟨2, none, .bool true⟩] [vw elB r3.1.Text.length r3.1.Text s2, rw 5 elB r3.2.1.length r3.2.1 s3, .box g1 27 (cTBlock r3.1 s2), vw elB r4.1.Text.length r4.1.Text s4, .box g2 27 (cTBlock r4.1 s4), vw eTBlock r7.1.length r7.1 s6, fm eTBlock r7.1.length r7.1 s6 nTBlock_0]) (fun K => by kernel_rfl) hF hH ?_
            refine ⟨rfl, ?_⟩
            refine ⟨rfl, ?_⟩
            refine ⟨rfl, ?_⟩
            refine ⟨rfl, ?_⟩
            clear hF hH; intro a w hF hH
            refine wl_end (by kernel_rfl) ?_
            refine then_n ?_
            refine wp_retE (by kernel_rfl) ?_
            refine retE (vs := [.bool true]) (p := True) (v := .bool true) [] (by kernel_rfl) trivial (by kernel_rfl) hF hH ?_
            obtain rfl := Option.some.inj hm
            exact ⟨(), by kernel_rfl, hH.below, trivial, newK hH [] [] (by kernel_rfl) (by kernel_rfl) (by kernel_rfl) (by kernel_rfl)⟩
          · have hm := condF hx9 hm
            rw [hx9] at hF
            have hx9p := eq_of_bne_false hx9
            refine seg [.gt (.p), .gt (.p), .gt (.p)] [0, 10, 64, 67] (fun K => (false = false) ∧ (false = false) ∧ (false = false) ∧ K [⟨0, none, sl r2.length s1⟩, ⟨10, none, sl r7.1.length s6⟩, ⟨64, none, .bool false⟩, ⟨67, none, .bool (r7.2 == 0)⟩] [vw elB r3.1.Text.length r3.1.Text s2, rw 5 elB r3.2.1.length r3.2.1 s3, .box g1 27 (cTBlock r3.1 s2), vw elB r4.1.Text.length r4.1.Text s4, .box g2 27 (cTBlock r4.1 s4), vw eTBlock r7.1.length r7.1 s6, fm eTBlock r7.1.length r7.1 s6 nTBlock_0]) (fun K => by kernel_rfl) hF hH ?_
            refine ⟨rfl, ?_⟩
            refine ⟨rfl, ?_⟩
            refine ⟨rfl, ?_⟩
            clear hF hH; intro a w hF hH
            rcases Bool.eq_false_or_eq_true (r7.2 == 0) with hx10 | hx10
            · have hm := condT hx10 hm
              rw [hx10] at hF
              have hx10p := eq_of_beq hx10
              refine seg [.gt (.p), .gt (.p)] [64, 67, 68, 69] (fun K => (true = true) ∧ (true = true) ∧ K [⟨64, none, .bool false⟩, ⟨67, none, .bool true⟩, ⟨68, none, sl r2.length s1⟩, ⟨69, none, sl r7.1.length s6⟩] [vw elB r3.1.Text.length r3.1.Text s2, rw 5 elB r3.2.1.length r3.2.1 s3, .box g1 27 (cTBlock r3.1 s2), vw elB r4.1.Text.length r4.1.Text s4, .box g2 27 (cTBlock r4.1 s4), vw eTBlock r7.1.length r7.1 s6, fm eTBlock r7.1.length r7.1 s6 nTBlock_0]) (fun K => by kernel_rfl) hF hH ?_
              refine ⟨rfl, ?_⟩
              refine ⟨rfl, ?_⟩
              clear hF hH; intro a w hF hH
              obtain ⟨r8, hx11, hm⟩ := bnd_some hm
              refine callE (d := 70) (c_slices_EqualFunc_LBlock_l23_same N r2 s1 r7.1 s6 r8 hx11) [.v (.n 2), .v (.n 3), .v (.r 5), .v (.r 6)] [] (by kernel_rfl) trivial (.inl rfl) (by kernel_rfl) (by kernel_rfl) (by kernel_rfl) (by kernel_rfl) hF hH ?_
              clear hF hH; rintro ⟨⟩ - a w hF hH
              refine seg [.gt (.p), .p, .p] [2] (fun K => (false = false) ∧ K [⟨2, none, .bool r8⟩] [vw elB r3.1.Text.length r3.1.Text s2, rw 5 elB r3.2.1.length r3.2.1 s3, .box g1 27 (cTBlock r3.1 s2), vw elB r4.1.Text.length r4.1.Text s4, .box g2 27 (cTBlock r4.1 s4), vw eTBlock r7.1.length r7.1 s6, fm eTBlock r7.1.length r7.1 s6 nTBlock_0]) (fun K => by kernel_rfl) hF hH ?_
              refine ⟨rfl, ?_⟩
              clear hF hH; intro a w hF hH
              refine wl_end (by kernel_rfl) ?_
              refine then_n ?_
              refine wp_retE (by kernel_rfl) ?_
              refine retE (vs := [.bool r8]) (p := True) (v := .bool r8) [] (by kernel_rfl) trivial (by kernel_rfl) hF hH ?_
              obtain rfl := Option.some.inj hm
              exact ⟨(), by kernel_rfl, hH.below, trivial, newK hH [] [] (by kernel_rfl) (by kernel_rfl) (by kernel_rfl) (by kernel_rfl)⟩
            · have hm := condF hx10 hm
              rw [hx10] at hF
              have hx10p := ne_of_beq_false hx10
              refine seg [.sk, .sk, .sk, .gt (.p), .p, .p] [2] (fun K => (false = !true) ∧ (false = !true) ∧ (false = !true) ∧ (false = false) ∧ K [⟨2, none, .bool false⟩] [vw elB r3.1.Text.length r3.1.Text s2, rw 5 elB r3.2.1.length r3.2.1 s3, .box g1 27 (cTBlock r3.1 s2), vw elB r4.1.Text.length r4.1.Text s4, .box g2 27 (cTBlock r4.1 s4), vw eTBlock r7.1.length r7.1 s6, fm eTBlock r7.1.length r7.1 s6 nTBlock_0]) (fun K => by kernel_rfl) hF hH ?_
              refine ⟨rfl, ?_⟩
              refine ⟨rfl, ?_⟩
              refine ⟨rfl, ?_⟩
              refine ⟨rfl, ?_⟩
              clear hF hH; intro a w hF hH
              refine wl_end (by kernel_rfl) ?_
              refine then_n ?_
              refine wp_retE (by kernel_rfl) ?_
              refine retE (vs := [.bool false]) (p := True) (v := .bool false) [] (by kernel_rfl) trivial (by kernel_rfl) hF hH ?_
              obtain rfl := Option.some.inj hm
              exact ⟨(), by kernel_rfl, hH.below, trivial, newK hH [] [] (by kernel_rfl) (by kernel_rfl) (by kernel_rfl) (by kernel_rfl)⟩

end Go.Proofs.Ytcccboodapgejaa
