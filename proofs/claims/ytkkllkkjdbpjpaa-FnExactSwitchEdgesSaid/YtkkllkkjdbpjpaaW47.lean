/- Walks of functions of the given program: each returns what its Lean function says and leaves the memory that was there as it was. Conditions: those of each theorem. -/
import Derived.Test.YtkkllkkjdbpjpaaSm
import Derived.Test.YtkkllkkjdbpjpaaProg
import Derived.Test.YtkkllkkjdbpjpaaPl
import Derived.Test.YtkkllkkjdbpjpaaPo
import Derived.Test.YtkkllkkjdbpjpaaPd
import Derived.Test.YtkkllkkjdbpjpaaPe
import Derived.Test.YtkkllkkjdbpjpaaPh
import Derived.Test.YtkkllkkjdbpjpaaPm
import Derived.Test.YtkkllkkjdbpjpaaPc
import Derived.Test.YtkkllkkjdbpjpaaPs
import Derived.Test.YtkkllkkjdbpjpaaPt
import Derived.Test.YtkkllkkjdbpjpaaPu
import Derived.Test.YtkkllkkjdbpjpaaPv
import Derived.Test.YtkkllkkjdbpjpaaPw
import Derived.Test.YtkkllkkjdbpjpaaPx
import Derived.Test.YtkkllkkjdbpjpaaPy
import Derived.Test.YtkkllkkjdbpjpaaPz
import Derived.Test.YtkkllkkjdbpjpaaPr
import Derived.Test.YtkkllkkjdbpjpaaPa
import Derived.Test.YtkkllkkjdbpjpaaPn
import Derived.Test.YtkkllkkjdbpjpaaPj
import Derived.Test.YtkkllkkjdbpjpaaPq
import Derived.Test.YtkkllkkjdbpjpaaSp
import Derived.Test.YtkkllkkjdbpjpaaPp
import Derived.Test.YtkkllkkjdbpjpaaSs
import Derived.Test.YtkkllkkjdbpjpaaSr
import Derived.Test.YtkkllkkjdbpjpaaPb
import Derived.Test.YtkkllkkjdbpjpaaSe
import Derived.Test.YtkkllkkjdbpjpaaSf
import Derived.Test.YtkkllkkjdbpjpaaT
import Derived.Test.YtkkllkkjdbpjpaaW5
import Derived.Test.YtkkllkkjdbpjpaaW13
import Derived.Test.YtkkllkkjdbpjpaaW44
import Derived.KernelRfl
namespace Go.Proofs.Ytkkllkkjdbpjpaa.W47
open Go.Sx Go.RowKit Go.Proofs.Ytkkllkkjdbpjpaa.T Go.Proofs.Ytkkllkkjdbpjpaa.W5 Go.Proofs.Ytkkllkkjdbpjpaa.W13 Go.Proofs.Ytkkllkkjdbpjpaa.W44
open Go.Plain
set_option linter.unusedVariables false
set_option maxRecDepth 100000 in
theorem maySwitchX_c (w : World) (m : Nat) (A : Option Addr) (n : Nat) (c : Nat) (es : List (Int × Int)) (s1 : Int) (s2 : Int) (s3 : Int) (s4 : Int) (hA : At w A (cells fE es)) (eA : es.length = n) (lA : n ≤ c) (hg : Gr m es) (hm : m ≤ 7) : Calls Try.prog 64 #[.agg #[.int .i64 (((m : Nat) : Int)), .slice A (n) (c)], .agg #[.int .i64 (s1), .int .i64 (s2), .int .i64 (s3), .int .i64 (s4)]] w (Ret fun rv w' => rv = .bool (decide (MayS es s1 s2 s3 s4)) ∧ New w w' []) := by
  have oA := hA.atB
  subst eA
  have hel := hg.len (by omega)
  have hed := fun u v => has_edg hg (u := u) (v := v)
  refine fn_enter (args := [.agg #[.int .i64 (((m : Nat) : Int)), .slice A (es.length) (c)], .agg #[.int .i64 (s1), .int .i64 (s2), .int .i64 (s3), .int .i64 (s4)]]) Try.func64 rfl Try.ntmps64 rfl (SS.start w) ?_
  refine cw_seq ?_
  refine cw_region ?_
  refine wl_r (or_box rfl rfl) rfl rfl (kt1 rfl (fun g2 => ?_))
  refine wl_r (or_box rfl rfl) rfl rfl (kt1 rfl (fun g3 => ?_))
  refine wl_v (ov_assign rfl) rfl rfl rfl ?_
  refine wl_nil ?_
  refine ce_then ?_
  refine cw_seq ?_
  refine cw_region ?_
  refine wl_v (ov_fieldAddr fI54_0 some_lit rfl) rfl rfl rfl ?_
  refine wl_v (ov_load tI3 (holds_blk (List.Mem.head _)) rfl rfl) rfl rfl rfl ?_
  refine wl_v (ov_fieldAddr fI54_2 some_lit rfl) rfl rfl rfl ?_
  refine wl_v (ov_load tI3 (holds_blk (List.Mem.head _)) rfl rfl) rfl rfl rfl ?_
  refine wl_if (ov_neq rfl rfl) rfl rfl rfl (fun c9 => ?_) (fun c9 => ?_)
  ·
    refine wl_v (ov_move rfl) rfl rfl rfl ?_
    refine wl_go rfl rfl ?_
    refine wl_v (ov_fieldAddr fI54_1 some_lit rfl) rfl rfl rfl ?_
    refine wl_go rfl rfl ?_
    refine wl_v (ov_load tI3 (holds_blk (List.Mem.head _)) rfl rfl) rfl rfl rfl ?_
    refine wl_go rfl rfl ?_
    refine wl_v (ov_fieldAddr fI54_3 some_lit rfl) rfl rfl rfl ?_
    refine wl_go rfl rfl ?_
    refine wl_v (ov_load tI3 (holds_blk (List.Mem.head _)) rfl rfl) rfl rfl rfl ?_
    refine wl_go rfl rfl ?_
    refine wl_if (ov_neq rfl rfl) rfl rfl rfl (fun c15 => ?_) (fun c15 => ?_)
    ·
      refine wl_v (ov_pick_t rfl rfl) rfl rfl rfl ?_
      refine wl_v (ov_move rfl) rfl rfl rfl ?_
      refine wl_go rfl rfl ?_
      refine wl_v (ov_fieldAddr fI54_0 some_lit rfl) rfl rfl rfl ?_
      refine wl_go rfl rfl ?_
      refine wl_v (ov_load tI3 (holds_blk (List.Mem.head _)) rfl rfl) rfl rfl rfl ?_
      refine wl_go rfl rfl ?_
      refine wl_v (ov_fieldAddr fI54_3 some_lit rfl) rfl rfl rfl ?_
      refine wl_go rfl rfl ?_
      refine wl_v (ov_load tI3 (holds_blk (List.Mem.head _)) rfl rfl) rfl rfl rfl ?_
      refine wl_go rfl rfl ?_
      refine wl_if (ov_neq rfl rfl) rfl rfl rfl (fun c22 => ?_) (fun c22 => ?_)
      ·
        refine wl_v (ov_pick_t rfl rfl) rfl rfl rfl ?_
        refine wl_v (ov_move rfl) rfl rfl rfl ?_
        refine wl_go rfl rfl ?_
        refine wl_v (ov_fieldAddr fI54_1 some_lit rfl) rfl rfl rfl ?_
        refine wl_go rfl rfl ?_
        refine wl_v (ov_load tI3 (holds_blk (List.Mem.head _)) rfl rfl) rfl rfl rfl ?_
        refine wl_go rfl rfl ?_
        refine wl_v (ov_fieldAddr fI54_2 some_lit rfl) rfl rfl rfl ?_
        refine wl_go rfl rfl ?_
        refine wl_v (ov_load tI3 (holds_blk (List.Mem.head _)) rfl rfl) rfl rfl rfl ?_
        refine wl_go rfl rfl ?_
        refine wl_if (ov_neq rfl rfl) rfl rfl rfl (fun c29 => ?_) (fun c29 => ?_)
        ·
          refine wl_v (ov_pick_t rfl rfl) rfl rfl rfl ?_
          refine wl_v (ov_move rfl) rfl rfl rfl ?_
          refine wl_go rfl rfl ?_
          refine wl_v (ov_loadAgg (vs := [.int .i64 (((m : Nat) : Int)), .slice A (es.length) (c)]) tI25 (holds_blk (List.Mem.tail _ (List.Mem.head _))) rfl some_lit rfl rfl) rfl rfl rfl ?_
          refine wl_go rfl rfl ?_
          refine wl_v (ov_fieldAddr fI54_0 some_lit rfl) rfl rfl rfl ?_
          refine wl_go rfl rfl ?_
          refine wl_v (ov_load tI3 (holds_blk (List.Mem.head _)) rfl rfl) rfl rfl rfl ?_
          refine wl_go rfl rfl ?_
          refine wl_v (ov_fieldAddr fI54_1 some_lit rfl) rfl rfl rfl ?_
          refine wl_go rfl rfl ?_
          refine wl_v (ov_load tI3 (holds_blk (List.Mem.head _)) rfl rfl) rfl rfl rfl ?_
          refine wl_go rfl rfl ?_
          refine wl_r (or_call (fv := []) (vs := [.agg #[.int .i64 (((m : Nat) : Int)), .slice A (es.length) (c)], .int .i64 (s1), .int .i64 (s2)]) (cs := []) en87 rfl rfl (call_v (fun w hw => hasEdge_c w ((m : Nat) : Int) A es.length c es s1 s2 ((holds_old oA) w hw) rfl lA (by first | assumption | omega | (simp; omega))))) rfl rfl (kt_if rfl (fun c37 => ?_) (fun c37 => ?_))
          ·
            refine wl_v (ov_pick_t rfl rfl) rfl rfl rfl ?_
            refine wl_v (ov_move rfl) rfl rfl rfl ?_
            refine wl_go rfl rfl ?_
            refine wl_v (ov_loadAgg (vs := [.int .i64 (((m : Nat) : Int)), .slice A (es.length) (c)]) tI25 (holds_blk (List.Mem.tail _ (List.Mem.head _))) rfl some_lit rfl rfl) rfl rfl rfl ?_
            refine wl_go rfl rfl ?_
            refine wl_v (ov_fieldAddr fI54_2 some_lit rfl) rfl rfl rfl ?_
            refine wl_go rfl rfl ?_
            refine wl_v (ov_load tI3 (holds_blk (List.Mem.head _)) rfl rfl) rfl rfl rfl ?_
            refine wl_go rfl rfl ?_
            refine wl_v (ov_fieldAddr fI54_3 some_lit rfl) rfl rfl rfl ?_
            refine wl_go rfl rfl ?_
            refine wl_v (ov_load tI3 (holds_blk (List.Mem.head _)) rfl rfl) rfl rfl rfl ?_
            refine wl_go rfl rfl ?_
            refine wl_r (or_call (fv := []) (vs := [.agg #[.int .i64 (((m : Nat) : Int)), .slice A (es.length) (c)], .int .i64 (s3), .int .i64 (s4)]) (cs := []) en87 rfl rfl (call_v (fun w hw => hasEdge_c w ((m : Nat) : Int) A es.length c es s3 s4 ((holds_old oA) w hw) rfl lA (by first | assumption | omega | (simp; omega))))) rfl rfl (kt_if rfl (fun c45 => ?_) (fun c45 => ?_))
            ·
              refine wl_v (ov_pick_t rfl rfl) rfl rfl rfl ?_
              refine wl_v (ov_move rfl) rfl rfl rfl ?_
              refine wl_go rfl rfl ?_
              refine wl_v (ov_loadAgg (vs := [.int .i64 (((m : Nat) : Int)), .slice A (es.length) (c)]) tI25 (holds_blk (List.Mem.tail _ (List.Mem.head _))) rfl some_lit rfl rfl) rfl rfl rfl ?_
              refine wl_go rfl rfl ?_
              refine wl_v (ov_fieldAddr fI54_0 some_lit rfl) rfl rfl rfl ?_
              refine wl_go rfl rfl ?_
              refine wl_v (ov_load tI3 (holds_blk (List.Mem.head _)) rfl rfl) rfl rfl rfl ?_
              refine wl_go rfl rfl ?_
              refine wl_v (ov_fieldAddr fI54_2 some_lit rfl) rfl rfl rfl ?_
              refine wl_go rfl rfl ?_
              refine wl_v (ov_load tI3 (holds_blk (List.Mem.head _)) rfl rfl) rfl rfl rfl ?_
              refine wl_go rfl rfl ?_
              refine wl_r (or_call (fv := []) (vs := [.agg #[.int .i64 (((m : Nat) : Int)), .slice A (es.length) (c)], .int .i64 (s1), .int .i64 (s3)]) (cs := []) en87 rfl rfl (call_v (fun w hw => hasEdge_c w ((m : Nat) : Int) A es.length c es s1 s3 ((holds_old oA) w hw) rfl lA (by first | assumption | omega | (simp; omega))))) rfl rfl (kt_if rfl (fun c53 => ?_) (fun c53 => ?_))
              ·
                refine wl_go rfl rfl ?_
                refine wl_v (ov_not rfl) rfl rfl rfl ?_
                refine wl_v (ov_pick_t rfl rfl) rfl rfl rfl ?_
                refine wl_v (ov_move rfl) rfl rfl rfl ?_
                refine wl_not rfl rfl rfl rfl rfl rfl ?_
                refine wl_not rfl rfl rfl rfl rfl rfl ?_
                refine wl_not rfl rfl rfl rfl rfl rfl ?_
                refine wl_not rfl rfl rfl rfl rfl rfl ?_
                refine wl_not rfl rfl rfl rfl rfl rfl ?_
                refine wl_not rfl rfl rfl rfl rfl rfl ?_
                refine wl_not rfl rfl rfl rfl rfl rfl ?_
                refine wl_v (ov_pick_f rfl rfl) rfl rfl rfl ?_
                refine wl_v (ov_assign rfl) rfl rfl rfl ?_
                refine wl_nil ?_
                refine ce_then ?_
                refine cw_ret ?_
                refine ce_results (v := .bool false) (res1 rfl (rv_t rfl)) (fun w' hw => ?_)
                exact ⟨(bf (fun h => h.2.2.2.2.2.2.1 ((hed _ _).1 c53))), (Keep.nil.ss hw).to_new⟩
              ·
                refine wl_go rfl rfl ?_
                refine wl_v (ov_not rfl) rfl rfl rfl ?_
                refine wl_v (ov_pick_t rfl rfl) rfl rfl rfl ?_
                refine wl_v (ov_move rfl) rfl rfl rfl ?_
                refine wl_go rfl rfl ?_
                refine wl_v (ov_loadAgg (vs := [.int .i64 (((m : Nat) : Int)), .slice A (es.length) (c)]) tI25 (holds_blk (List.Mem.tail _ (List.Mem.head _))) rfl some_lit rfl rfl) rfl rfl rfl ?_
                refine wl_go rfl rfl ?_
                refine wl_v (ov_fieldAddr fI54_1 some_lit rfl) rfl rfl rfl ?_
                refine wl_go rfl rfl ?_
                refine wl_v (ov_load tI3 (holds_blk (List.Mem.head _)) rfl rfl) rfl rfl rfl ?_
                refine wl_go rfl rfl ?_
                refine wl_v (ov_fieldAddr fI54_3 some_lit rfl) rfl rfl rfl ?_
                refine wl_go rfl rfl ?_
                refine wl_v (ov_load tI3 (holds_blk (List.Mem.head _)) rfl rfl) rfl rfl rfl ?_
                refine wl_go rfl rfl ?_
                refine wl_r (or_call (fv := []) (vs := [.agg #[.int .i64 (((m : Nat) : Int)), .slice A (es.length) (c)], .int .i64 (s2), .int .i64 (s4)]) (cs := []) en87 rfl rfl (call_v (fun w hw => hasEdge_c w ((m : Nat) : Int) A es.length c es s2 s4 ((holds_old oA) w hw) rfl lA (by first | assumption | omega | (simp; omega))))) rfl rfl (kt_if rfl (fun c62 => ?_) (fun c62 => ?_))
                ·
                  refine wl_go rfl rfl ?_
                  refine wl_v (ov_not rfl) rfl rfl rfl ?_
                  refine wl_v (ov_pick_t rfl rfl) rfl rfl rfl ?_
                  refine wl_v (ov_assign rfl) rfl rfl rfl ?_
                  refine wl_nil ?_
                  refine ce_then ?_
                  refine cw_ret ?_
                  refine ce_results (v := .bool false) (res1 rfl (rv_t rfl)) (fun w' hw => ?_)
                  exact ⟨(bf (fun h => h.2.2.2.2.2.2.2 ((hed _ _).1 c62))), (Keep.nil.ss hw).to_new⟩
                ·
                  refine wl_go rfl rfl ?_
                  refine wl_v (ov_not rfl) rfl rfl rfl ?_
                  refine wl_v (ov_pick_t rfl rfl) rfl rfl rfl ?_
                  refine wl_v (ov_assign rfl) rfl rfl rfl ?_
                  refine wl_nil ?_
                  refine ce_then ?_
                  refine cw_ret ?_
                  refine ce_results (v := .bool true) (res1 rfl (rv_t rfl)) (fun w' hw => ?_)
                  exact ⟨(bt ⟨by omega, by omega, by omega, by omega, (hed _ _).1 c37, (hed _ _).1 c45, fun h => c53 ((hed _ _).2 h), fun h => c62 ((hed _ _).2 h)⟩), (Keep.nil.ss hw).to_new⟩
            ·
              refine wl_v (ov_pick_t rfl rfl) rfl rfl rfl ?_
              refine wl_v (ov_move rfl) rfl rfl rfl ?_
              refine wl_not rfl rfl rfl rfl rfl rfl ?_
              refine wl_not rfl rfl rfl rfl rfl rfl ?_
              refine wl_not rfl rfl rfl rfl rfl rfl ?_
              refine wl_not rfl rfl rfl rfl rfl rfl ?_
              refine wl_not rfl rfl rfl rfl rfl rfl ?_
              refine wl_not rfl rfl rfl rfl rfl rfl ?_
              refine wl_not rfl rfl rfl rfl rfl rfl ?_
              refine wl_v (ov_pick_f rfl rfl) rfl rfl rfl ?_
              refine wl_v (ov_move rfl) rfl rfl rfl ?_
              refine wl_not rfl rfl rfl rfl rfl rfl ?_
              refine wl_not rfl rfl rfl rfl rfl rfl ?_
              refine wl_not rfl rfl rfl rfl rfl rfl ?_
              refine wl_not rfl rfl rfl rfl rfl rfl ?_
              refine wl_not rfl rfl rfl rfl rfl rfl ?_
              refine wl_not rfl rfl rfl rfl rfl rfl ?_
              refine wl_not rfl rfl rfl rfl rfl rfl ?_
              refine wl_v (ov_pick_f rfl rfl) rfl rfl rfl ?_
              refine wl_v (ov_assign rfl) rfl rfl rfl ?_
              refine wl_nil ?_
              refine ce_then ?_
              refine cw_ret ?_
              refine ce_results (v := .bool false) (res1 rfl (rv_t rfl)) (fun w' hw => ?_)
              exact ⟨(bf (fun h => c45 ((hed _ _).2 h.2.2.2.2.2.1))), (Keep.nil.ss hw).to_new⟩
          ·
            refine wl_v (ov_pick_t rfl rfl) rfl rfl rfl ?_
            refine wl_v (ov_move rfl) rfl rfl rfl ?_
            refine wl_not rfl rfl rfl rfl rfl rfl ?_
            refine wl_not rfl rfl rfl rfl rfl rfl ?_
            refine wl_not rfl rfl rfl rfl rfl rfl ?_
            refine wl_not rfl rfl rfl rfl rfl rfl ?_
            refine wl_not rfl rfl rfl rfl rfl rfl ?_
            refine wl_not rfl rfl rfl rfl rfl rfl ?_
            refine wl_v (ov_pick_f rfl rfl) rfl rfl rfl ?_
            refine wl_v (ov_move rfl) rfl rfl rfl ?_
            refine wl_not rfl rfl rfl rfl rfl rfl ?_
            refine wl_not rfl rfl rfl rfl rfl rfl ?_
            refine wl_not rfl rfl rfl rfl rfl rfl ?_
            refine wl_not rfl rfl rfl rfl rfl rfl ?_
            refine wl_not rfl rfl rfl rfl rfl rfl ?_
            refine wl_not rfl rfl rfl rfl rfl rfl ?_
            refine wl_not rfl rfl rfl rfl rfl rfl ?_
            refine wl_v (ov_pick_f rfl rfl) rfl rfl rfl ?_
            refine wl_v (ov_move rfl) rfl rfl rfl ?_
            refine wl_not rfl rfl rfl rfl rfl rfl ?_
            refine wl_not rfl rfl rfl rfl rfl rfl ?_
            refine wl_not rfl rfl rfl rfl rfl rfl ?_
            refine wl_not rfl rfl rfl rfl rfl rfl ?_
            refine wl_not rfl rfl rfl rfl rfl rfl ?_
            refine wl_not rfl rfl rfl rfl rfl rfl ?_
            refine wl_not rfl rfl rfl rfl rfl rfl ?_
            refine wl_v (ov_pick_f rfl rfl) rfl rfl rfl ?_
            refine wl_v (ov_assign rfl) rfl rfl rfl ?_
            refine wl_nil ?_
            refine ce_then ?_
            refine cw_ret ?_
            refine ce_results (v := .bool false) (res1 rfl (rv_t rfl)) (fun w' hw => ?_)
            exact ⟨(bf (fun h => c37 ((hed _ _).2 h.2.2.2.2.1))), (Keep.nil.ss hw).to_new⟩
        ·
          refine wl_v (ov_pick_t rfl rfl) rfl rfl rfl ?_
          refine wl_v (ov_move rfl) rfl rfl rfl ?_
          refine wl_not rfl rfl rfl rfl rfl rfl ?_
          refine wl_not rfl rfl rfl rfl rfl rfl ?_
          refine wl_not rfl rfl rfl rfl rfl rfl ?_
          refine wl_not rfl rfl rfl rfl rfl rfl ?_
          refine wl_not rfl rfl rfl rfl rfl rfl ?_
          refine wl_not rfl rfl rfl rfl rfl rfl ?_
          refine wl_v (ov_pick_f rfl rfl) rfl rfl rfl ?_
          refine wl_v (ov_move rfl) rfl rfl rfl ?_
          refine wl_not rfl rfl rfl rfl rfl rfl ?_
          refine wl_not rfl rfl rfl rfl rfl rfl ?_
          refine wl_not rfl rfl rfl rfl rfl rfl ?_
          refine wl_not rfl rfl rfl rfl rfl rfl ?_
          refine wl_not rfl rfl rfl rfl rfl rfl ?_
          refine wl_not rfl rfl rfl rfl rfl rfl ?_
          refine wl_v (ov_pick_f rfl rfl) rfl rfl rfl ?_
          refine wl_v (ov_move rfl) rfl rfl rfl ?_
          refine wl_not rfl rfl rfl rfl rfl rfl ?_
          refine wl_not rfl rfl rfl rfl rfl rfl ?_
          refine wl_not rfl rfl rfl rfl rfl rfl ?_
          refine wl_not rfl rfl rfl rfl rfl rfl ?_
          refine wl_not rfl rfl rfl rfl rfl rfl ?_
          refine wl_not rfl rfl rfl rfl rfl rfl ?_
          refine wl_not rfl rfl rfl rfl rfl rfl ?_
          refine wl_v (ov_pick_f rfl rfl) rfl rfl rfl ?_
          refine wl_v (ov_move rfl) rfl rfl rfl ?_
          refine wl_not rfl rfl rfl rfl rfl rfl ?_
          refine wl_not rfl rfl rfl rfl rfl rfl ?_
          refine wl_not rfl rfl rfl rfl rfl rfl ?_
          refine wl_not rfl rfl rfl rfl rfl rfl ?_
          refine wl_not rfl rfl rfl rfl rfl rfl ?_
          refine wl_not rfl rfl rfl rfl rfl rfl ?_
          refine wl_not rfl rfl rfl rfl rfl rfl ?_
          refine wl_v (ov_pick_f rfl rfl) rfl rfl rfl ?_
          refine wl_v (ov_assign rfl) rfl rfl rfl ?_
          refine wl_nil ?_
          refine ce_then ?_
          refine cw_ret ?_
          refine ce_results (v := .bool false) (res1 rfl (rv_t rfl)) (fun w' hw => ?_)
          exact ⟨(bf (fun h => h.2.2.2.1 (by omega))), (Keep.nil.ss hw).to_new⟩
      ·
        refine wl_v (ov_pick_t rfl rfl) rfl rfl rfl ?_
        refine wl_v (ov_move rfl) rfl rfl rfl ?_
        refine wl_not rfl rfl rfl rfl rfl rfl ?_
        refine wl_not rfl rfl rfl rfl rfl rfl ?_
        refine wl_not rfl rfl rfl rfl rfl rfl ?_
        refine wl_not rfl rfl rfl rfl rfl rfl ?_
        refine wl_not rfl rfl rfl rfl rfl rfl ?_
        refine wl_v (ov_pick_f rfl rfl) rfl rfl rfl ?_
        refine wl_v (ov_move rfl) rfl rfl rfl ?_
        refine wl_not rfl rfl rfl rfl rfl rfl ?_
        refine wl_not rfl rfl rfl rfl rfl rfl ?_
        refine wl_not rfl rfl rfl rfl rfl rfl ?_
        refine wl_not rfl rfl rfl rfl rfl rfl ?_
        refine wl_not rfl rfl rfl rfl rfl rfl ?_
        refine wl_not rfl rfl rfl rfl rfl rfl ?_
        refine wl_v (ov_pick_f rfl rfl) rfl rfl rfl ?_
        refine wl_v (ov_move rfl) rfl rfl rfl ?_
        refine wl_not rfl rfl rfl rfl rfl rfl ?_
        refine wl_not rfl rfl rfl rfl rfl rfl ?_
        refine wl_not rfl rfl rfl rfl rfl rfl ?_
        refine wl_not rfl rfl rfl rfl rfl rfl ?_
        refine wl_not rfl rfl rfl rfl rfl rfl ?_
        refine wl_not rfl rfl rfl rfl rfl rfl ?_
        refine wl_v (ov_pick_f rfl rfl) rfl rfl rfl ?_
        refine wl_v (ov_move rfl) rfl rfl rfl ?_
        refine wl_not rfl rfl rfl rfl rfl rfl ?_
        refine wl_not rfl rfl rfl rfl rfl rfl ?_
        refine wl_not rfl rfl rfl rfl rfl rfl ?_
        refine wl_not rfl rfl rfl rfl rfl rfl ?_
        refine wl_not rfl rfl rfl rfl rfl rfl ?_
        refine wl_not rfl rfl rfl rfl rfl rfl ?_
        refine wl_not rfl rfl rfl rfl rfl rfl ?_
        refine wl_v (ov_pick_f rfl rfl) rfl rfl rfl ?_
        refine wl_v (ov_move rfl) rfl rfl rfl ?_
        refine wl_not rfl rfl rfl rfl rfl rfl ?_
        refine wl_not rfl rfl rfl rfl rfl rfl ?_
        refine wl_not rfl rfl rfl rfl rfl rfl ?_
        refine wl_not rfl rfl rfl rfl rfl rfl ?_
        refine wl_not rfl rfl rfl rfl rfl rfl ?_
        refine wl_not rfl rfl rfl rfl rfl rfl ?_
        refine wl_not rfl rfl rfl rfl rfl rfl ?_
        refine wl_v (ov_pick_f rfl rfl) rfl rfl rfl ?_
        refine wl_v (ov_assign rfl) rfl rfl rfl ?_
        refine wl_nil ?_
        refine ce_then ?_
        refine cw_ret ?_
        refine ce_results (v := .bool false) (res1 rfl (rv_t rfl)) (fun w' hw => ?_)
        exact ⟨(bf (fun h => h.2.2.1 (by omega))), (Keep.nil.ss hw).to_new⟩
    ·
      refine wl_v (ov_pick_t rfl rfl) rfl rfl rfl ?_
      refine wl_v (ov_move rfl) rfl rfl rfl ?_
      refine wl_not rfl rfl rfl rfl rfl rfl ?_
      refine wl_not rfl rfl rfl rfl rfl rfl ?_
      refine wl_not rfl rfl rfl rfl rfl rfl ?_
      refine wl_not rfl rfl rfl rfl rfl rfl ?_
      refine wl_not rfl rfl rfl rfl rfl rfl ?_
      refine wl_v (ov_pick_f rfl rfl) rfl rfl rfl ?_
      refine wl_v (ov_move rfl) rfl rfl rfl ?_
      refine wl_not rfl rfl rfl rfl rfl rfl ?_
      refine wl_not rfl rfl rfl rfl rfl rfl ?_
      refine wl_not rfl rfl rfl rfl rfl rfl ?_
      refine wl_not rfl rfl rfl rfl rfl rfl ?_
      refine wl_not rfl rfl rfl rfl rfl rfl ?_
      refine wl_v (ov_pick_f rfl rfl) rfl rfl rfl ?_
      refine wl_v (ov_move rfl) rfl rfl rfl ?_
      refine wl_not rfl rfl rfl rfl rfl rfl ?_
      refine wl_not rfl rfl rfl rfl rfl rfl ?_
      refine wl_not rfl rfl rfl rfl rfl rfl ?_
      refine wl_not rfl rfl rfl rfl rfl rfl ?_
      refine wl_not rfl rfl rfl rfl rfl rfl ?_
      refine wl_not rfl rfl rfl rfl rfl rfl ?_
      refine wl_v (ov_pick_f rfl rfl) rfl rfl rfl ?_
      refine wl_v (ov_move rfl) rfl rfl rfl ?_
      refine wl_not rfl rfl rfl rfl rfl rfl ?_
      refine wl_not rfl rfl rfl rfl rfl rfl ?_
      refine wl_not rfl rfl rfl rfl rfl rfl ?_
      refine wl_not rfl rfl rfl rfl rfl rfl ?_
      refine wl_not rfl rfl rfl rfl rfl rfl ?_
      refine wl_not rfl rfl rfl rfl rfl rfl ?_
      refine wl_v (ov_pick_f rfl rfl) rfl rfl rfl ?_
      refine wl_v (ov_move rfl) rfl rfl rfl ?_
      refine wl_not rfl rfl rfl rfl rfl rfl ?_
      refine wl_not rfl rfl rfl rfl rfl rfl ?_
      refine wl_not rfl rfl rfl rfl rfl rfl ?_
      refine wl_not rfl rfl rfl rfl rfl rfl ?_
      refine wl_not rfl rfl rfl rfl rfl rfl ?_
      refine wl_not rfl rfl rfl rfl rfl rfl ?_
      refine wl_not rfl rfl rfl rfl rfl rfl ?_
      refine wl_v (ov_pick_f rfl rfl) rfl rfl rfl ?_
      refine wl_v (ov_move rfl) rfl rfl rfl ?_
      refine wl_not rfl rfl rfl rfl rfl rfl ?_
      refine wl_not rfl rfl rfl rfl rfl rfl ?_
      refine wl_not rfl rfl rfl rfl rfl rfl ?_
      refine wl_not rfl rfl rfl rfl rfl rfl ?_
      refine wl_not rfl rfl rfl rfl rfl rfl ?_
      refine wl_not rfl rfl rfl rfl rfl rfl ?_
      refine wl_not rfl rfl rfl rfl rfl rfl ?_
      refine wl_v (ov_pick_f rfl rfl) rfl rfl rfl ?_
      refine wl_v (ov_assign rfl) rfl rfl rfl ?_
      refine wl_nil ?_
      refine ce_then ?_
      refine cw_ret ?_
      refine ce_results (v := .bool false) (res1 rfl (rv_t rfl)) (fun w' hw => ?_)
      exact ⟨(bf (fun h => h.2.1 (by omega))), (Keep.nil.ss hw).to_new⟩
  ·
    refine wl_v (ov_move rfl) rfl rfl rfl ?_
    refine wl_not rfl rfl rfl rfl rfl rfl ?_
    refine wl_not rfl rfl rfl rfl rfl rfl ?_
    refine wl_not rfl rfl rfl rfl rfl rfl ?_
    refine wl_not rfl rfl rfl rfl rfl rfl ?_
    refine wl_not rfl rfl rfl rfl rfl rfl ?_
    refine wl_v (ov_pick_f rfl rfl) rfl rfl rfl ?_
    refine wl_v (ov_move rfl) rfl rfl rfl ?_
    refine wl_not rfl rfl rfl rfl rfl rfl ?_
    refine wl_not rfl rfl rfl rfl rfl rfl ?_
    refine wl_not rfl rfl rfl rfl rfl rfl ?_
    refine wl_not rfl rfl rfl rfl rfl rfl ?_
    refine wl_not rfl rfl rfl rfl rfl rfl ?_
    refine wl_v (ov_pick_f rfl rfl) rfl rfl rfl ?_
    refine wl_v (ov_move rfl) rfl rfl rfl ?_
    refine wl_not rfl rfl rfl rfl rfl rfl ?_
    refine wl_not rfl rfl rfl rfl rfl rfl ?_
    refine wl_not rfl rfl rfl rfl rfl rfl ?_
    refine wl_not rfl rfl rfl rfl rfl rfl ?_
    refine wl_not rfl rfl rfl rfl rfl rfl ?_
    refine wl_v (ov_pick_f rfl rfl) rfl rfl rfl ?_
    refine wl_v (ov_move rfl) rfl rfl rfl ?_
    refine wl_not rfl rfl rfl rfl rfl rfl ?_
    refine wl_not rfl rfl rfl rfl rfl rfl ?_
    refine wl_not rfl rfl rfl rfl rfl rfl ?_
    refine wl_not rfl rfl rfl rfl rfl rfl ?_
    refine wl_not rfl rfl rfl rfl rfl rfl ?_
    refine wl_not rfl rfl rfl rfl rfl rfl ?_
    refine wl_v (ov_pick_f rfl rfl) rfl rfl rfl ?_
    refine wl_v (ov_move rfl) rfl rfl rfl ?_
    refine wl_not rfl rfl rfl rfl rfl rfl ?_
    refine wl_not rfl rfl rfl rfl rfl rfl ?_
    refine wl_not rfl rfl rfl rfl rfl rfl ?_
    refine wl_not rfl rfl rfl rfl rfl rfl ?_
    refine wl_not rfl rfl rfl rfl rfl rfl ?_
    refine wl_not rfl rfl rfl rfl rfl rfl ?_
    refine wl_v (ov_pick_f rfl rfl) rfl rfl rfl ?_
    refine wl_v (ov_move rfl) rfl rfl rfl ?_
    refine wl_not rfl rfl rfl rfl rfl rfl ?_
    refine wl_not rfl rfl rfl rfl rfl rfl ?_
    refine wl_not rfl rfl rfl rfl rfl rfl ?_
    refine wl_not rfl rfl rfl rfl rfl rfl ?_
    refine wl_not rfl rfl rfl rfl rfl rfl ?_
    refine wl_not rfl rfl rfl rfl rfl rfl ?_
    refine wl_not rfl rfl rfl rfl rfl rfl ?_
    refine wl_v (ov_pick_f rfl rfl) rfl rfl rfl ?_
    refine wl_v (ov_move rfl) rfl rfl rfl ?_
    refine wl_not rfl rfl rfl rfl rfl rfl ?_
    refine wl_not rfl rfl rfl rfl rfl rfl ?_
    refine wl_not rfl rfl rfl rfl rfl rfl ?_
    refine wl_not rfl rfl rfl rfl rfl rfl ?_
    refine wl_not rfl rfl rfl rfl rfl rfl ?_
    refine wl_not rfl rfl rfl rfl rfl rfl ?_
    refine wl_not rfl rfl rfl rfl rfl rfl ?_
    refine wl_v (ov_pick_f rfl rfl) rfl rfl rfl ?_
    refine wl_v (ov_assign rfl) rfl rfl rfl ?_
    refine wl_nil ?_
    refine ce_then ?_
    refine cw_ret ?_
    refine ce_results (v := .bool false) (res1 rfl (rv_t rfl)) (fun w' hw => ?_)
    exact ⟨(bf (fun h => h.1 (by omega))), (Keep.nil.ss hw).to_new⟩
set_option maxRecDepth 100000 in
theorem switchedX_c (w : World) (m : Nat) (A : Option Addr) (n : Nat) (c : Nat) (es : List (Int × Int)) (s1 : Int) (s2 : Int) (s3 : Int) (s4 : Int) (hA : At w A (cells fE es)) (eA : es.length = n) (lA : n ≤ c) (hs : es.length ≤ 900) : Calls Try.prog 65 #[.agg #[.int .i64 (((m : Nat) : Int)), .slice A (n) (c)], .agg #[.int .i64 (s1), .int .i64 (s2), .int .i64 (s3), .int .i64 (s4)]] w (Ret fun rv w' => ∃ A2 c2, ((swE es s1 s2 s3 s4).length ≤ c2) ∧ rv = .agg #[.int .i64 (((m : Nat) : Int)), .slice A2 ((swE es s1 s2 s3 s4).length) (c2)] ∧ New w w' [row 65 2 A2 ((swE es s1 s2 s3 s4).length) (c2) (cells fE (swE es s1 s2 s3 s4))]) := by
  have oA := hA.atB
  subst eA
  have hd1 := delE_le es s1 s2
  have hd2 := delE_le (delE es s1 s2) s3 s4
  have hi1 := insE_length (delE (delE es s1 s2) s3 s4) (edg s1 s3)
  refine fn_enter (args := [.agg #[.int .i64 (((m : Nat) : Int)), .slice A (es.length) (c)], .agg #[.int .i64 (s1), .int .i64 (s2), .int .i64 (s3), .int .i64 (s4)]]) Try.func65 rfl Try.ntmps65 rfl (SS.start w) ?_
  refine cw_seq ?_
  refine cw_region ?_
  refine wl_r (or_box rfl rfl) rfl rfl (kt1 rfl (fun g2 => ?_))
  refine wl_r (or_box rfl rfl) rfl rfl (kt1 rfl (fun g3 => ?_))
  refine wl_r (or_alloc tI25 rfl) rfl rfl (kt1 rfl (fun g4 => ?_))
  refine wl_nil ?_
  refine ce_then ?_
  refine cw_seq ?_
  refine cw_draw mixO [] (.cons (.tail .head) (.cons (.tail .head) (.nil))) rfl ?_
  refine wg_take (i := 0) rfl (ov_loadAgg (vs := [.int .i64 (((m : Nat) : Int)), .slice A (es.length) (c)]) tI25 (holds_blk (List.Mem.tail _ (List.Mem.head _))) rfl some_lit rfl rfl) rfl rfl rfl (by kernel_rfl) (by kernel_rfl) (by kernel_rfl) (by kernel_rfl) ?_
  refine wg_take (i := 1) rfl (ov_fieldAddr fI54_0 some_lit rfl) rfl rfl rfl (by kernel_rfl) (by kernel_rfl) (by kernel_rfl) (by kernel_rfl) ?_
  refine wg_take (i := 2) rfl (ov_load tI3 (holds_blk (List.Mem.head _)) rfl rfl) rfl rfl rfl (by kernel_rfl) (by kernel_rfl) (by kernel_rfl) (by kernel_rfl) ?_
  refine wg_take (i := 3) rfl (ov_fieldAddr fI54_1 some_lit rfl) rfl rfl rfl (by kernel_rfl) (by kernel_rfl) (by kernel_rfl) (by kernel_rfl) ?_
  refine wg_take (i := 4) rfl (ov_load tI3 (holds_blk (List.Mem.head _)) rfl rfl) rfl rfl rfl (by kernel_rfl) (by kernel_rfl) (by kernel_rfl) (by kernel_rfl) ?_
  refine wg_take (i := 6) rfl (ov_fieldAddr fI54_2 some_lit rfl) rfl rfl rfl (by kernel_rfl) (by kernel_rfl) (by kernel_rfl) (by kernel_rfl) ?_
  refine wg_take (i := 7) rfl (ov_load tI3 (holds_blk (List.Mem.head _)) rfl rfl) rfl rfl rfl (by kernel_rfl) (by kernel_rfl) (by kernel_rfl) (by kernel_rfl) ?_
  refine wg_take (i := 8) rfl (ov_fieldAddr fI54_3 some_lit rfl) rfl rfl rfl (by kernel_rfl) (by kernel_rfl) (by kernel_rfl) (by kernel_rfl) ?_
  refine wg_take (i := 9) rfl (ov_load tI3 (holds_blk (List.Mem.head _)) rfl rfl) rfl rfl rfl (by kernel_rfl) (by kernel_rfl) (by kernel_rfl) (by kernel_rfl) ?_
  refine wg_take (i := 11) rfl (ov_fieldAddr fI54_0 some_lit rfl) rfl rfl rfl (by kernel_rfl) (by kernel_rfl) (by kernel_rfl) (by kernel_rfl) ?_
  refine wg_take (i := 12) rfl (ov_load tI3 (holds_blk (List.Mem.head _)) rfl rfl) rfl rfl rfl (by kernel_rfl) (by kernel_rfl) (by kernel_rfl) (by kernel_rfl) ?_
  refine wg_take (i := 13) rfl (ov_fieldAddr fI54_2 some_lit rfl) rfl rfl rfl (by kernel_rfl) (by kernel_rfl) (by kernel_rfl) (by kernel_rfl) ?_
  refine wg_take (i := 14) rfl (ov_load tI3 (holds_blk (List.Mem.head _)) rfl rfl) rfl rfl rfl (by kernel_rfl) (by kernel_rfl) (by kernel_rfl) (by kernel_rfl) ?_
  refine wg_take (i := 16) rfl (ov_fieldAddr fI54_1 some_lit rfl) rfl rfl rfl (by kernel_rfl) (by kernel_rfl) (by kernel_rfl) (by kernel_rfl) ?_
  refine wg_take (i := 17) rfl (ov_load tI3 (holds_blk (List.Mem.head _)) rfl rfl) rfl rfl rfl (by kernel_rfl) (by kernel_rfl) (by kernel_rfl) (by kernel_rfl) ?_
  refine wg_take (i := 18) rfl (ov_fieldAddr fI54_3 some_lit rfl) rfl rfl rfl (by kernel_rfl) (by kernel_rfl) (by kernel_rfl) (by kernel_rfl) ?_
  refine wg_take (i := 19) rfl (ov_load tI3 (holds_blk (List.Mem.head _)) rfl rfl) rfl rfl rfl (by kernel_rfl) (by kernel_rfl) (by kernel_rfl) (by kernel_rfl) ?_
  refine wg_one (i := 5) (by kernel_rfl) ?_
  refine go_r rfl rfl rfl rfl (or_call (fv := []) (vs := [.agg #[.int .i64 (((m : Nat) : Int)), .slice A (es.length) (c)], .int .i64 (s1), .int .i64 (s2)]) (cs := []) en88 rfl rfl (call_x2 (fun w hw => dropEdgeX_c w ((m : Nat) : Int) A es.length c es s1 s2 ((holds_old oA) w hw) rfl lA (by omega)))) (kt2p rfl (fun A2_10 c2_10 h_10 => ?_))
  refine gk (.cons (.tail (.tail .head)) (.cons (.tail (.tail .head)) (.nil))) ?_
  refine wg_one (i := 10) (by kernel_rfl) ?_
  refine go_r rfl rfl rfl rfl (or_call (fv := []) (vs := [.agg #[.int .i64 (((m : Nat) : Int)), .slice A2_10 ((delE es s1 s2).length) (c2_10)], .int .i64 (s3), .int .i64 (s4)]) (cs := []) en88 rfl rfl (call_x2 (fun w hw => dropEdgeX_c w ((m : Nat) : Int) A2_10 ((delE es s1 s2).length) c2_10 (delE es s1 s2) s3 s4 ((holds_row (List.Mem.head _)) w hw) rfl h_10 (by omega)))) (kt2p rfl (fun A2_15 c2_15 h_15 => ?_))
  refine gk (.cons (.tail (.tail (.tail .head))) (.cons (.tail (.tail (.tail .head))) (.nil))) ?_
  refine wg_one (i := 15) (by kernel_rfl) ?_
  refine go_r rfl rfl rfl rfl (or_call (fv := []) (vs := [.agg #[.int .i64 (((m : Nat) : Int)), .slice A2_15 ((delE (delE es s1 s2) s3 s4).length) (c2_15)], .int .i64 (s1), .int .i64 (s3)]) (cs := []) en94 rfl rfl (call_x2 (fun w hw => addEdgeX_c w ((m : Nat) : Int) A2_15 ((delE (delE es s1 s2) s3 s4).length) c2_15 (delE (delE es s1 s2) s3 s4) s1 s3 ((holds_row (List.Mem.head _)) w hw) rfl h_15 (by omega)))) (kt2p rfl (fun A2_20 c2_20 h_20 => ?_))
  refine gk (.cons (.tail (.tail (.tail (.tail .head)))) (.cons (.tail (.tail (.tail (.tail .head)))) (.nil))) ?_
  refine wg_one (i := 20) (by kernel_rfl) ?_
  refine go_r rfl rfl rfl rfl (or_call (fv := []) (vs := [.agg #[.int .i64 (((m : Nat) : Int)), .slice A2_20 ((insE (delE (delE es s1 s2) s3 s4) (edg s1 s3)).length) (c2_20)], .int .i64 (s2), .int .i64 (s4)]) (cs := []) en94 rfl rfl (call_x2 (fun w hw => addEdgeX_c w ((m : Nat) : Int) A2_20 ((insE (delE (delE es s1 s2) s3 s4) (edg s1 s3)).length) c2_20 (insE (delE (delE es s1 s2) s3 s4) (edg s1 s3)) s2 s4 ((holds_row (List.Mem.head _)) w hw) rfl h_20 (by omega)))) (kt2p rfl (fun A2_25 c2_25 h_25 => ?_))
  refine gk (.cons (.tail (.tail (.tail (.tail (.tail .head))))) (.cons (.tail (.tail (.tail (.tail (.tail .head))))) (.nil))) ?_
  refine wg_one (i := 21) (by kernel_rfl) ?_
  refine go_r0 rfl rfl rfl rfl (or_store_blk (vs := [.int .i64 (((m : Nat) : Int)), .slice A2_25 ((insE (insE (delE (delE es s1 s2) s3 s4) (edg s1 s3)) (edg s2 s4)).length) (c2_25)]) (cs' := [.int .i64 (((m : Nat) : Int)), .slice A2_25 ((insE (insE (delE (delE es s1 s2) s3 s4) (edg s1 s3)) (edg s2 s4)).length) (c2_25)]) (.tail (.tail (.tail (.tail .head)))) tI25 rfl rfl rfl rfl (Nat.le_of_ble_eq_true rfl) rfl) (kn0 ?_)
  refine gk (.cons (.tail (.tail (.tail (.tail (.tail .head))))) (.cons (.tail (.tail (.tail (.tail (.tail .head))))) (.nil))) ?_
  refine wg_done (by kernel_rfl) ?_
  refine ce_then ?_
  refine cw_ret ?_
  refine ce_results (v := .agg #[.int .i64 (((m : Nat) : Int)), .slice A2_25 ((insE (insE (delE (delE es s1 s2) s3 s4) (edg s1 s3)) (edg s2 s4)).length) (c2_25)]) (res1 rfl (rv_c rfl tI25 rfl (List.Mem.head _))) (fun w' hw => ?_)
  exact ⟨A2_25, c2_25, h_25, rfl, ((.consE (show row 65 2 A2_25 ((insE (insE (delE (delE es s1 s2) s3 s4) (edg s1 s3)) (edg s2 s4)).length) (c2_25) (cells fE (insE (insE (delE (delE es s1 s2) s3 s4) (edg s1 s3)) (edg s2 s4))) = row 65 2 A2_25 ((swE es s1 s2 s3 s4).length) (c2_25) (cells fE (swE es s1 s2 s3 s4)) from rfl) (.tail .head) (.nil) : Keep _ _).ss hw).to_new⟩
set_option maxRecDepth 100000 in
theorem SwitchEdgesS_c (w : World) (N : Int) (A : Option Addr) (n : Nat) (c : Nat) (es : List (Int × Int)) (s1 : Int) (s2 : Int) (s3 : Int) (s4 : Int) (hA : At w A (cells fE es)) (eA : es.length = n) (lA : n ≤ c) (hs : es.length ≤ 1048576) : Calls Try.prog 26 #[.agg #[.int .i64 (N), .slice A (n) (c)], .agg #[.int .i64 (s1), .int .i64 (s2), .int .i64 (s3), .int .i64 (s4)]] w (Ret fun rv w' => ∃ A2 k2 c2, ((swV N es s1 s2 s3 s4).2.1.length ≤ k2) ∧ rv = .tuple #[.agg #[.int .i64 ((swV N es s1 s2 s3 s4).1), .slice A2 ((swV N es s1 s2 s3 s4).2.1.length) (k2)], .bool ((swV N es s1 s2 s3 s4).2.2)] ∧ New w w' [row 65 2 A2 ((swV N es s1 s2 s3 s4).2.1.length) (c2) (cells fE ((swV N es s1 s2 s3 s4).2.1))]) := by
  have oA := hA.atB
  subst eA
  refine fn_enter (args := [.agg #[.int .i64 (N), .slice A (es.length) (c)], .agg #[.int .i64 (s1), .int .i64 (s2), .int .i64 (s3), .int .i64 (s4)]]) Try.func26 rfl Try.ntmps26 rfl (SS.start w) ?_
  refine cw_seq ?_
  refine cw_region ?_
  refine wl_r (or_box rfl rfl) rfl rfl (kt1 rfl (fun g2 => ?_))
  refine wl_r (or_box rfl rfl) rfl rfl (kt1 rfl (fun g3 => ?_))
  refine wl_r (or_alloc tI25 rfl) rfl rfl (kt1 rfl (fun g4 => ?_))
  refine wl_v (ov_assign rfl) rfl rfl rfl ?_
  refine wl_nil ?_
  refine ce_then ?_
  refine cw_seq ?_
  refine cw_seq ?_
  refine cw_region ?_
  refine wl_v (ov_loadAgg (vs := [.int .i64 (N), .slice A (es.length) (c)]) tI25 (holds_blk (List.Mem.tail _ (List.Mem.tail _ (List.Mem.head _)))) rfl some_lit rfl rfl) rfl rfl rfl ?_
  refine wl_r (or_call (fv := []) (vs := [.agg #[.int .i64 (N), .slice A (es.length) (c)]]) (cs := []) en40 rfl rfl (call_v (fun w hw => validGraphS_c w N A es.length c es ((holds_old oA) w hw) rfl lA (by first | assumption | omega | (simp; omega))))) rfl rfl (kt_if rfl (fun c7 => ?_) (fun c7 => ?_))
  ·
    refine wl_v (ov_not rfl) rfl rfl rfl ?_
    refine wl_v (ov_move rfl) rfl rfl rfl ?_
    obtain ⟨m, rfl⟩ := Int.eq_ofNat_of_zero_le (show 0 ≤ N from c7.2.1)
    have hg : Gr m es := by have h9 := c7.gr; rwa [Int.toNat_natCast] at h9
    have hm : m ≤ 7 := by have h9 := c7.2.2; omega
    have hel := hg.len (by omega)
    refine wl_go rfl rfl ?_
    refine wl_v (ov_loadAgg (vs := [.int .i64 (((m : Nat) : Int)), .slice A (es.length) (c)]) tI25 (holds_blk (List.Mem.tail _ (List.Mem.tail _ (List.Mem.head _)))) rfl some_lit rfl rfl) rfl rfl rfl ?_
    refine wl_go rfl rfl ?_
    refine wl_v (ov_loadAgg (vs := [.int .i64 (s1), .int .i64 (s2), .int .i64 (s3), .int .i64 (s4)]) tI54 (holds_blk (List.Mem.tail _ (List.Mem.head _))) rfl some_lit rfl rfl) rfl rfl rfl ?_
    refine wl_go rfl rfl ?_
    refine wl_r (or_call (fv := []) (vs := [.agg #[.int .i64 (((m : Nat) : Int)), .slice A (es.length) (c)], .agg #[.int .i64 (s1), .int .i64 (s2), .int .i64 (s3), .int .i64 (s4)]]) (cs := []) en64 rfl rfl (call_v (fun w hw => maySwitchX_c w m A es.length c es s1 s2 s3 s4 ((holds_old oA) w hw) rfl lA (by first | assumption | omega | (simp; omega)) (by first | assumption | omega | (simp; omega))))) rfl rfl (kt_if rfl (fun c12 => ?_) (fun c12 => ?_))
    ·
      have hv : swV ((m : Nat) : Int) es s1 s2 s3 s4 = (((m : Nat) : Int), swE es s1 s2 s3 s4, true) := if_pos ⟨c7, c12⟩
      refine wl_go rfl rfl ?_
      refine wl_v (ov_not rfl) rfl rfl rfl ?_
      refine wl_v (ov_pick_f rfl rfl) rfl rfl rfl ?_
      refine wl_nil ?_
      refine ce_then ?_
      refine cw_false rfl ?_
      refine cw_skip ?_
      refine ce_then ?_
      refine cw_seq ?_
      refine cw_region ?_
      refine wl_v (ov_loadAgg (vs := [.int .i64 (((m : Nat) : Int)), .slice A (es.length) (c)]) tI25 (holds_blk (List.Mem.tail _ (List.Mem.tail _ (List.Mem.head _)))) rfl some_lit rfl rfl) rfl rfl rfl ?_
      refine wl_v (ov_loadAgg (vs := [.int .i64 (s1), .int .i64 (s2), .int .i64 (s3), .int .i64 (s4)]) tI54 (holds_blk (List.Mem.tail _ (List.Mem.head _))) rfl some_lit rfl rfl) rfl rfl rfl ?_
      refine wl_r (or_call (fv := []) (vs := [.agg #[.int .i64 (((m : Nat) : Int)), .slice A (es.length) (c)], .agg #[.int .i64 (s1), .int .i64 (s2), .int .i64 (s3), .int .i64 (s4)]]) (cs := []) en65 rfl rfl (call_x2 (fun w hw => switchedX_c w m A es.length c es s1 s2 s3 s4 ((holds_old oA) w hw) rfl lA (by omega)))) rfl rfl (kt2p rfl (fun A2_18 c2_18 h_18 => ?_))
      refine wl_r0 (or_store_blk (vs := [.int .i64 (((m : Nat) : Int)), .slice A2_18 ((swE es s1 s2 s3 s4).length) (c2_18)]) (cs' := [.int .i64 (((m : Nat) : Int)), .slice A2_18 ((swE es s1 s2 s3 s4).length) (c2_18)]) (.tail .head) tI25 rfl rfl rfl rfl (Nat.le_of_ble_eq_true rfl) rfl) rfl rfl (kn0 ?_)
      refine wl_v (ov_assign rfl) rfl rfl rfl ?_
      refine wl_nil ?_
      refine ce_then ?_
      refine cw_ret ?_
      refine ce_results (v := .tuple #[.agg #[.int .i64 (((m : Nat) : Int)), .slice A2_18 ((swE es s1 s2 s3 s4).length) (c2_18)], .bool true]) (res2 rfl (rv_c rfl tI25 rfl (List.Mem.head _)) (rv_t rfl)) (fun w' hw => ?_)
      exact ⟨A2_18, c2_18, c2_18, (by rw [hv]; exact h_18), (by rw [hv]), ((.consE (show row 65 2 A2_18 ((swE es s1 s2 s3 s4).length) (c2_18) (cells fE (swE es s1 s2 s3 s4)) = row 65 2 A2_18 ((swV ((m : Nat) : Int) es s1 s2 s3 s4).2.1.length) (c2_18) (cells fE ((swV ((m : Nat) : Int) es s1 s2 s3 s4).2.1)) by rw [hv]) (.tail .head) (.nil) : Keep _ _).ss hw).to_new⟩
    ·
      refine wl_go rfl rfl ?_
      refine wl_v (ov_not rfl) rfl rfl rfl ?_
      refine wl_v (ov_pick_f rfl rfl) rfl rfl rfl ?_
      refine wl_nil ?_
      refine ce_then ?_
      refine cw_true rfl ?_
      refine cw_seq ?_
      have hv : swV ((m : Nat) : Int) es s1 s2 s3 s4 = (0, [], false) := if_neg (fun h => c12 h.2)
      refine ct_none fE 65 2 ?_
      refine cw_region ?_
      refine wl_v (ov_build (is := []) (vs := []) (v := .agg #[.int .i64 (0), .slice none (0) (0)]) rfl rfl (fun _ => by kernel_rfl)) rfl rfl rfl ?_
      refine wl_r0 (or_store_blk (vs := [.int .i64 (0), .slice none (0) (0)]) (cs' := [.int .i64 (0), .slice none (0) (0)]) (.tail .head) tI25 rfl rfl rfl rfl (Nat.le_of_ble_eq_true rfl) rfl) rfl rfl (kn0 ?_)
      refine wl_v (ov_assign rfl) rfl rfl rfl ?_
      refine wl_nil ?_
      refine ce_then ?_
      refine cw_ret ?_
      refine ce_then_ret ?_
      refine ce_results (v := .tuple #[.agg #[.int .i64 (0), .slice none (0) (0)], .bool false]) (res2 rfl (rv_c rfl tI25 rfl (List.Mem.head _)) (rv_t rfl)) (fun w' hw => ?_)
      exact ⟨none, 0, 0, (by rw [hv]; exact Nat.le_refl _), (by rw [hv] <;> rfl), ((.consE (show row 65 2 none (0) (0) (cells fE ([])) = row 65 2 none ((swV ((m : Nat) : Int) es s1 s2 s3 s4).2.1.length) (0) (cells fE ((swV ((m : Nat) : Int) es s1 s2 s3 s4).2.1)) by rw [hv] <;> rfl) (.tail .head) (.nil) : Keep _ _).ss hw).to_new⟩
  ·
    refine wl_v (ov_not rfl) rfl rfl rfl ?_
    refine wl_v (ov_move rfl) rfl rfl rfl ?_
    refine wl_not rfl rfl rfl rfl rfl rfl ?_
    refine wl_not rfl rfl rfl rfl rfl rfl ?_
    refine wl_not rfl rfl rfl rfl rfl rfl ?_
    refine wl_not rfl rfl rfl rfl rfl rfl ?_
    refine wl_v (ov_pick_t rfl rfl) rfl rfl rfl ?_
    refine wl_nil ?_
    refine ce_then ?_
    refine cw_true rfl ?_
    refine cw_seq ?_
    have hv : swV N es s1 s2 s3 s4 = (0, [], false) := if_neg (fun h => c7 h.1)
    refine ct_none fE 65 2 ?_
    refine cw_region ?_
    refine wl_v (ov_build (is := []) (vs := []) (v := .agg #[.int .i64 (0), .slice none (0) (0)]) rfl rfl (fun _ => by kernel_rfl)) rfl rfl rfl ?_
    refine wl_r0 (or_store_blk (vs := [.int .i64 (0), .slice none (0) (0)]) (cs' := [.int .i64 (0), .slice none (0) (0)]) (.tail .head) tI25 rfl rfl rfl rfl (Nat.le_of_ble_eq_true rfl) rfl) rfl rfl (kn0 ?_)
    refine wl_v (ov_assign rfl) rfl rfl rfl ?_
    refine wl_nil ?_
    refine ce_then ?_
    refine cw_ret ?_
    refine ce_then_ret ?_
    refine ce_results (v := .tuple #[.agg #[.int .i64 (0), .slice none (0) (0)], .bool false]) (res2 rfl (rv_c rfl tI25 rfl (List.Mem.head _)) (rv_t rfl)) (fun w' hw => ?_)
    exact ⟨none, 0, 0, (by rw [hv]; exact Nat.le_refl _), (by rw [hv] <;> rfl), ((.consE (show row 65 2 none (0) (0) (cells fE ([])) = row 65 2 none ((swV N es s1 s2 s3 s4).2.1.length) (0) (cells fE ((swV N es s1 s2 s3 s4).2.1)) by rw [hv] <;> rfl) (.tail .head) (.nil) : Keep _ _).ss hw).to_new⟩
set_option maxRecDepth 100000 in
theorem apart_c (w : World) (s1 : Int) (s2 : Int) (s3 : Int) (s4 : Int)  : Calls Try.prog 98 #[.agg #[.int .i64 (s1), .int .i64 (s2), .int .i64 (s3), .int .i64 (s4)]] w (Ret fun rv w' => rv = .bool (decide (ApS s1 s2 s3 s4)) ∧ New w w' []) := by
  refine fn_enter (args := [.agg #[.int .i64 (s1), .int .i64 (s2), .int .i64 (s3), .int .i64 (s4)]]) Try.func98 rfl Try.ntmps98 rfl (SS.start w) ?_
  refine cw_seq ?_
  refine cw_region ?_
  refine wl_r (or_box rfl rfl) rfl rfl (kt1 rfl (fun g1 => ?_))
  refine wl_v (ov_assign rfl) rfl rfl rfl ?_
  refine wl_nil ?_
  refine ce_then ?_
  refine cw_seq ?_
  refine cw_region ?_
  refine wl_v (ov_fieldAddr fI54_0 some_lit rfl) rfl rfl rfl ?_
  refine wl_v (ov_load tI3 (holds_blk (List.Mem.head _)) rfl rfl) rfl rfl rfl ?_
  refine wl_v (ov_fieldAddr fI54_1 some_lit rfl) rfl rfl rfl ?_
  refine wl_v (ov_load tI3 (holds_blk (List.Mem.head _)) rfl rfl) rfl rfl rfl ?_
  refine wl_if (ov_neq rfl rfl) rfl rfl rfl (fun c7 => ?_) (fun c7 => ?_)
  ·
    refine wl_v (ov_move rfl) rfl rfl rfl ?_
    refine wl_go rfl rfl ?_
    refine wl_v (ov_fieldAddr fI54_0 some_lit rfl) rfl rfl rfl ?_
    refine wl_go rfl rfl ?_
    refine wl_v (ov_load tI3 (holds_blk (List.Mem.head _)) rfl rfl) rfl rfl rfl ?_
    refine wl_go rfl rfl ?_
    refine wl_v (ov_fieldAddr fI54_2 some_lit rfl) rfl rfl rfl ?_
    refine wl_go rfl rfl ?_
    refine wl_v (ov_load tI3 (holds_blk (List.Mem.head _)) rfl rfl) rfl rfl rfl ?_
    refine wl_go rfl rfl ?_
    refine wl_if (ov_neq rfl rfl) rfl rfl rfl (fun c13 => ?_) (fun c13 => ?_)
    ·
      refine wl_v (ov_pick_t rfl rfl) rfl rfl rfl ?_
      refine wl_v (ov_move rfl) rfl rfl rfl ?_
      refine wl_go rfl rfl ?_
      refine wl_v (ov_fieldAddr fI54_0 some_lit rfl) rfl rfl rfl ?_
      refine wl_go rfl rfl ?_
      refine wl_v (ov_load tI3 (holds_blk (List.Mem.head _)) rfl rfl) rfl rfl rfl ?_
      refine wl_go rfl rfl ?_
      refine wl_v (ov_fieldAddr fI54_3 some_lit rfl) rfl rfl rfl ?_
      refine wl_go rfl rfl ?_
      refine wl_v (ov_load tI3 (holds_blk (List.Mem.head _)) rfl rfl) rfl rfl rfl ?_
      refine wl_go rfl rfl ?_
      refine wl_if (ov_neq rfl rfl) rfl rfl rfl (fun c20 => ?_) (fun c20 => ?_)
      ·
        refine wl_v (ov_pick_t rfl rfl) rfl rfl rfl ?_
        refine wl_v (ov_move rfl) rfl rfl rfl ?_
        refine wl_go rfl rfl ?_
        refine wl_v (ov_fieldAddr fI54_1 some_lit rfl) rfl rfl rfl ?_
        refine wl_go rfl rfl ?_
        refine wl_v (ov_load tI3 (holds_blk (List.Mem.head _)) rfl rfl) rfl rfl rfl ?_
        refine wl_go rfl rfl ?_
        refine wl_v (ov_fieldAddr fI54_2 some_lit rfl) rfl rfl rfl ?_
        refine wl_go rfl rfl ?_
        refine wl_v (ov_load tI3 (holds_blk (List.Mem.head _)) rfl rfl) rfl rfl rfl ?_
        refine wl_go rfl rfl ?_
        refine wl_if (ov_neq rfl rfl) rfl rfl rfl (fun c27 => ?_) (fun c27 => ?_)
        ·
          refine wl_v (ov_pick_t rfl rfl) rfl rfl rfl ?_
          refine wl_v (ov_move rfl) rfl rfl rfl ?_
          refine wl_go rfl rfl ?_
          refine wl_v (ov_fieldAddr fI54_1 some_lit rfl) rfl rfl rfl ?_
          refine wl_go rfl rfl ?_
          refine wl_v (ov_load tI3 (holds_blk (List.Mem.head _)) rfl rfl) rfl rfl rfl ?_
          refine wl_go rfl rfl ?_
          refine wl_v (ov_fieldAddr fI54_3 some_lit rfl) rfl rfl rfl ?_
          refine wl_go rfl rfl ?_
          refine wl_v (ov_load tI3 (holds_blk (List.Mem.head _)) rfl rfl) rfl rfl rfl ?_
          refine wl_go rfl rfl ?_
          refine wl_if (ov_neq rfl rfl) rfl rfl rfl (fun c34 => ?_) (fun c34 => ?_)
          ·
            refine wl_v (ov_pick_t rfl rfl) rfl rfl rfl ?_
            refine wl_v (ov_move rfl) rfl rfl rfl ?_
            refine wl_go rfl rfl ?_
            refine wl_v (ov_fieldAddr fI54_2 some_lit rfl) rfl rfl rfl ?_
            refine wl_go rfl rfl ?_
            refine wl_v (ov_load tI3 (holds_blk (List.Mem.head _)) rfl rfl) rfl rfl rfl ?_
            refine wl_go rfl rfl ?_
            refine wl_v (ov_fieldAddr fI54_3 some_lit rfl) rfl rfl rfl ?_
            refine wl_go rfl rfl ?_
            refine wl_v (ov_load tI3 (holds_blk (List.Mem.head _)) rfl rfl) rfl rfl rfl ?_
            refine wl_go rfl rfl ?_
            refine wl_if (ov_neq rfl rfl) rfl rfl rfl (fun c41 => ?_) (fun c41 => ?_)
            ·
              refine wl_v (ov_pick_t rfl rfl) rfl rfl rfl ?_
              refine wl_v (ov_assign rfl) rfl rfl rfl ?_
              refine wl_nil ?_
              refine ce_then ?_
              refine cw_ret ?_
              refine ce_results (v := .bool true) (res1 rfl (rv_t rfl)) (fun w' hw => ?_)
              exact ⟨(bt ⟨by omega, by omega, by omega, by omega, by omega, by omega⟩), (Keep.nil.ss hw).to_new⟩
            ·
              refine wl_v (ov_pick_t rfl rfl) rfl rfl rfl ?_
              refine wl_v (ov_assign rfl) rfl rfl rfl ?_
              refine wl_nil ?_
              refine ce_then ?_
              refine cw_ret ?_
              refine ce_results (v := .bool false) (res1 rfl (rv_t rfl)) (fun w' hw => ?_)
              exact ⟨(bf (fun h => by unfold ApS at h; omega)), (Keep.nil.ss hw).to_new⟩
          ·
            refine wl_v (ov_pick_t rfl rfl) rfl rfl rfl ?_
            refine wl_v (ov_move rfl) rfl rfl rfl ?_
            refine wl_not rfl rfl rfl rfl rfl rfl ?_
            refine wl_not rfl rfl rfl rfl rfl rfl ?_
            refine wl_not rfl rfl rfl rfl rfl rfl ?_
            refine wl_not rfl rfl rfl rfl rfl rfl ?_
            refine wl_not rfl rfl rfl rfl rfl rfl ?_
            refine wl_v (ov_pick_f rfl rfl) rfl rfl rfl ?_
            refine wl_v (ov_assign rfl) rfl rfl rfl ?_
            refine wl_nil ?_
            refine ce_then ?_
            refine cw_ret ?_
            refine ce_results (v := .bool false) (res1 rfl (rv_t rfl)) (fun w' hw => ?_)
            exact ⟨(bf (fun h => by unfold ApS at h; omega)), (Keep.nil.ss hw).to_new⟩
        ·
          refine wl_v (ov_pick_t rfl rfl) rfl rfl rfl ?_
          refine wl_v (ov_move rfl) rfl rfl rfl ?_
          refine wl_not rfl rfl rfl rfl rfl rfl ?_
          refine wl_not rfl rfl rfl rfl rfl rfl ?_
          refine wl_not rfl rfl rfl rfl rfl rfl ?_
          refine wl_not rfl rfl rfl rfl rfl rfl ?_
          refine wl_not rfl rfl rfl rfl rfl rfl ?_
          refine wl_v (ov_pick_f rfl rfl) rfl rfl rfl ?_
          refine wl_v (ov_move rfl) rfl rfl rfl ?_
          refine wl_not rfl rfl rfl rfl rfl rfl ?_
          refine wl_not rfl rfl rfl rfl rfl rfl ?_
          refine wl_not rfl rfl rfl rfl rfl rfl ?_
          refine wl_not rfl rfl rfl rfl rfl rfl ?_
          refine wl_not rfl rfl rfl rfl rfl rfl ?_
          refine wl_v (ov_pick_f rfl rfl) rfl rfl rfl ?_
          refine wl_v (ov_assign rfl) rfl rfl rfl ?_
          refine wl_nil ?_
          refine ce_then ?_
          refine cw_ret ?_
          refine ce_results (v := .bool false) (res1 rfl (rv_t rfl)) (fun w' hw => ?_)
          exact ⟨(bf (fun h => by unfold ApS at h; omega)), (Keep.nil.ss hw).to_new⟩
      ·
        refine wl_v (ov_pick_t rfl rfl) rfl rfl rfl ?_
        refine wl_v (ov_move rfl) rfl rfl rfl ?_
        refine wl_not rfl rfl rfl rfl rfl rfl ?_
        refine wl_not rfl rfl rfl rfl rfl rfl ?_
        refine wl_not rfl rfl rfl rfl rfl rfl ?_
        refine wl_not rfl rfl rfl rfl rfl rfl ?_
        refine wl_not rfl rfl rfl rfl rfl rfl ?_
        refine wl_v (ov_pick_f rfl rfl) rfl rfl rfl ?_
        refine wl_v (ov_move rfl) rfl rfl rfl ?_
        refine wl_not rfl rfl rfl rfl rfl rfl ?_
        refine wl_not rfl rfl rfl rfl rfl rfl ?_
        refine wl_not rfl rfl rfl rfl rfl rfl ?_
        refine wl_not rfl rfl rfl rfl rfl rfl ?_
        refine wl_not rfl rfl rfl rfl rfl rfl ?_
        refine wl_v (ov_pick_f rfl rfl) rfl rfl rfl ?_
        refine wl_v (ov_move rfl) rfl rfl rfl ?_
        refine wl_not rfl rfl rfl rfl rfl rfl ?_
        refine wl_not rfl rfl rfl rfl rfl rfl ?_
        refine wl_not rfl rfl rfl rfl rfl rfl ?_
        refine wl_not rfl rfl rfl rfl rfl rfl ?_
        refine wl_not rfl rfl rfl rfl rfl rfl ?_
        refine wl_v (ov_pick_f rfl rfl) rfl rfl rfl ?_
        refine wl_v (ov_assign rfl) rfl rfl rfl ?_
        refine wl_nil ?_
        refine ce_then ?_
        refine cw_ret ?_
        refine ce_results (v := .bool false) (res1 rfl (rv_t rfl)) (fun w' hw => ?_)
        exact ⟨(bf (fun h => by unfold ApS at h; omega)), (Keep.nil.ss hw).to_new⟩
    ·
      refine wl_v (ov_pick_t rfl rfl) rfl rfl rfl ?_
      refine wl_v (ov_move rfl) rfl rfl rfl ?_
      refine wl_not rfl rfl rfl rfl rfl rfl ?_
      refine wl_not rfl rfl rfl rfl rfl rfl ?_
      refine wl_not rfl rfl rfl rfl rfl rfl ?_
      refine wl_not rfl rfl rfl rfl rfl rfl ?_
      refine wl_not rfl rfl rfl rfl rfl rfl ?_
      refine wl_v (ov_pick_f rfl rfl) rfl rfl rfl ?_
      refine wl_v (ov_move rfl) rfl rfl rfl ?_
      refine wl_not rfl rfl rfl rfl rfl rfl ?_
      refine wl_not rfl rfl rfl rfl rfl rfl ?_
      refine wl_not rfl rfl rfl rfl rfl rfl ?_
      refine wl_not rfl rfl rfl rfl rfl rfl ?_
      refine wl_not rfl rfl rfl rfl rfl rfl ?_
      refine wl_v (ov_pick_f rfl rfl) rfl rfl rfl ?_
      refine wl_v (ov_move rfl) rfl rfl rfl ?_
      refine wl_not rfl rfl rfl rfl rfl rfl ?_
      refine wl_not rfl rfl rfl rfl rfl rfl ?_
      refine wl_not rfl rfl rfl rfl rfl rfl ?_
      refine wl_not rfl rfl rfl rfl rfl rfl ?_
      refine wl_not rfl rfl rfl rfl rfl rfl ?_
      refine wl_v (ov_pick_f rfl rfl) rfl rfl rfl ?_
      refine wl_v (ov_move rfl) rfl rfl rfl ?_
      refine wl_not rfl rfl rfl rfl rfl rfl ?_
      refine wl_not rfl rfl rfl rfl rfl rfl ?_
      refine wl_not rfl rfl rfl rfl rfl rfl ?_
      refine wl_not rfl rfl rfl rfl rfl rfl ?_
      refine wl_not rfl rfl rfl rfl rfl rfl ?_
      refine wl_v (ov_pick_f rfl rfl) rfl rfl rfl ?_
      refine wl_v (ov_assign rfl) rfl rfl rfl ?_
      refine wl_nil ?_
      refine ce_then ?_
      refine cw_ret ?_
      refine ce_results (v := .bool false) (res1 rfl (rv_t rfl)) (fun w' hw => ?_)
      exact ⟨(bf (fun h => by unfold ApS at h; omega)), (Keep.nil.ss hw).to_new⟩
  ·
    refine wl_v (ov_move rfl) rfl rfl rfl ?_
    refine wl_not rfl rfl rfl rfl rfl rfl ?_
    refine wl_not rfl rfl rfl rfl rfl rfl ?_
    refine wl_not rfl rfl rfl rfl rfl rfl ?_
    refine wl_not rfl rfl rfl rfl rfl rfl ?_
    refine wl_not rfl rfl rfl rfl rfl rfl ?_
    refine wl_v (ov_pick_f rfl rfl) rfl rfl rfl ?_
    refine wl_v (ov_move rfl) rfl rfl rfl ?_
    refine wl_not rfl rfl rfl rfl rfl rfl ?_
    refine wl_not rfl rfl rfl rfl rfl rfl ?_
    refine wl_not rfl rfl rfl rfl rfl rfl ?_
    refine wl_not rfl rfl rfl rfl rfl rfl ?_
    refine wl_not rfl rfl rfl rfl rfl rfl ?_
    refine wl_v (ov_pick_f rfl rfl) rfl rfl rfl ?_
    refine wl_v (ov_move rfl) rfl rfl rfl ?_
    refine wl_not rfl rfl rfl rfl rfl rfl ?_
    refine wl_not rfl rfl rfl rfl rfl rfl ?_
    refine wl_not rfl rfl rfl rfl rfl rfl ?_
    refine wl_not rfl rfl rfl rfl rfl rfl ?_
    refine wl_not rfl rfl rfl rfl rfl rfl ?_
    refine wl_v (ov_pick_f rfl rfl) rfl rfl rfl ?_
    refine wl_v (ov_move rfl) rfl rfl rfl ?_
    refine wl_not rfl rfl rfl rfl rfl rfl ?_
    refine wl_not rfl rfl rfl rfl rfl rfl ?_
    refine wl_not rfl rfl rfl rfl rfl rfl ?_
    refine wl_not rfl rfl rfl rfl rfl rfl ?_
    refine wl_not rfl rfl rfl rfl rfl rfl ?_
    refine wl_v (ov_pick_f rfl rfl) rfl rfl rfl ?_
    refine wl_v (ov_move rfl) rfl rfl rfl ?_
    refine wl_not rfl rfl rfl rfl rfl rfl ?_
    refine wl_not rfl rfl rfl rfl rfl rfl ?_
    refine wl_not rfl rfl rfl rfl rfl rfl ?_
    refine wl_not rfl rfl rfl rfl rfl rfl ?_
    refine wl_not rfl rfl rfl rfl rfl rfl ?_
    refine wl_v (ov_pick_f rfl rfl) rfl rfl rfl ?_
    refine wl_v (ov_assign rfl) rfl rfl rfl ?_
    refine wl_nil ?_
    refine ce_then ?_
    refine cw_ret ?_
    refine ce_results (v := .bool false) (res1 rfl (rv_t rfl)) (fun w' hw => ?_)
    exact ⟨(bf (fun h => by unfold ApS at h; omega)), (Keep.nil.ss hw).to_new⟩
set_option maxRecDepth 100000 in
theorem change1_c (w : World) (u : Int) (v : Int) (g1 : Nat) (s1 : Int) (s2 : Int) (s3 : Int) (s4 : Int) (hg1 : At w (some ⟨g1, 0, none⟩) [.int .i64 (s1), .int .i64 (s2), .int .i64 (s3), .int .i64 (s4)]) : Calls Try.prog 100 #[.agg #[.int .i64 (u), .int .i64 (v)], elp (some ⟨g1, 0, none⟩) (0)] w (Ret fun rv w' => rv = .bool (hitS s1 s2 s3 s4 (u, v)) ∧ New w w' []) := by
  have og1 := hg1.atB
  refine fn_enter (args := [.agg #[.int .i64 (u), .int .i64 (v)], elp (some ⟨g1, 0, none⟩) (0)]) Try.func100 rfl Try.ntmps100 rfl (SS.start w) ?_
  refine cw_seq ?_
  refine cw_region ?_
  refine wl_r (or_box rfl rfl) rfl rfl (kt1 rfl (fun g2 => ?_))
  refine wl_v (ov_assign rfl) rfl rfl rfl ?_
  refine wl_nil ?_
  refine ce_then ?_
  refine cw_seq ?_
  refine cw_draw mixO [] (.cons (.head) (.nil)) rfl ?_
  refine wg_take (i := 0) rfl (ov_loadAgg (vs := [.int .i64 (u), .int .i64 (v)]) tI65 (holds_blk (List.Mem.head _)) rfl some_lit rfl rfl) rfl rfl rfl (by kernel_rfl) (by kernel_rfl) (by kernel_rfl) (by kernel_rfl) ?_
  refine wg_take (i := 1) rfl (ov_fieldAddr fI54_0 some_lit rfl) rfl rfl rfl (by kernel_rfl) (by kernel_rfl) (by kernel_rfl) (by kernel_rfl) ?_
  refine wg_take (i := 2) rfl (ov_load tI3 (holds_old og1) rfl rfl) rfl rfl rfl (by kernel_rfl) (by kernel_rfl) (by kernel_rfl) (by kernel_rfl) ?_
  refine wg_take (i := 3) rfl (ov_fieldAddr fI54_1 some_lit rfl) rfl rfl rfl (by kernel_rfl) (by kernel_rfl) (by kernel_rfl) (by kernel_rfl) ?_
  refine wg_take (i := 4) rfl (ov_load tI3 (holds_old og1) rfl rfl) rfl rfl rfl (by kernel_rfl) (by kernel_rfl) (by kernel_rfl) (by kernel_rfl) ?_
  refine wg_one (i := 5) (by kernel_rfl) ?_
  refine go_r rfl rfl rfl rfl (or_call (fv := []) (vs := [.int .i64 (s1), .int .i64 (s2)]) (cs := []) en34 rfl rfl (call_v (fun w hw => edge_c w s1 s2 ))) (kt0 rfl ?_)
  refine gk (.cons (.head) (.nil)) ?_
  refine wg_takep_if (i := 6) rfl (ov_eqlE2 eqE65 rfl rfl) rfl rfl rfl (by kernel_rfl) (by kernel_rfl) (by kernel_rfl) rfl (fun c10 => ?_) (fun c10 => ?_)
  ·
    refine wg_takep (i := 7) rfl (ov_move rfl) rfl rfl rfl (by kernel_rfl) (by kernel_rfl) (by kernel_rfl) rfl ?_
    refine wg_take_not (i := 8) rfl rfl rfl rfl rfl (by kernel_rfl) (by kernel_rfl) (by kernel_rfl) (by kernel_rfl) ?_
    refine wg_take_not (i := 9) rfl rfl rfl rfl rfl (by kernel_rfl) (by kernel_rfl) (by kernel_rfl) (by kernel_rfl) ?_
    refine wg_take_not (i := 10) rfl rfl rfl rfl rfl (by kernel_rfl) (by kernel_rfl) (by kernel_rfl) (by kernel_rfl) ?_
    refine wg_take_not (i := 11) rfl rfl rfl rfl rfl (by kernel_rfl) (by kernel_rfl) (by kernel_rfl) (by kernel_rfl) ?_
    refine wg_take_not (i := 12) rfl rfl rfl rfl rfl (by kernel_rfl) (by kernel_rfl) (by kernel_rfl) (by kernel_rfl) ?_
    refine wg_take_not (i := 13) rfl rfl rfl rfl rfl (by kernel_rfl) (by kernel_rfl) (by kernel_rfl) (by kernel_rfl) ?_
    refine wg_take_not (i := 14) rfl rfl rfl rfl rfl (by kernel_rfl) (by kernel_rfl) (by kernel_rfl) (by kernel_rfl) ?_
    refine wg_takep (i := 15) rfl (ov_pick_t rfl rfl) rfl rfl rfl (by kernel_rfl) (by kernel_rfl) (by kernel_rfl) rfl ?_
    refine wg_takep (i := 16) rfl (ov_assign rfl) rfl rfl rfl (by kernel_rfl) (by kernel_rfl) (by kernel_rfl) rfl ?_
    refine wg_done (by kernel_rfl) ?_
    refine ce_then ?_
    refine cw_ret ?_
    refine ce_results (v := .bool true) (res1 rfl (rv_t rfl)) (fun w' hw => ?_)
    exact ⟨(by unfold hitS; rw [decide_eq_true (show ((u, v) : Ed) = edg s1 s2 from Prod.ext c10.1 c10.2)]; rfl), (Keep.nil.ss hw).to_new⟩
  ·
    refine wg_takep (i := 7) rfl (ov_move rfl) rfl rfl rfl (by kernel_rfl) (by kernel_rfl) (by kernel_rfl) rfl ?_
    refine wg_take_go (i := 8) rfl rfl rfl (ov_loadAgg (vs := [.int .i64 (u), .int .i64 (v)]) tI65 (holds_blk (List.Mem.head _)) rfl some_lit rfl rfl) rfl (by kernel_rfl) (by kernel_rfl) (by kernel_rfl) (by kernel_rfl) ?_
    refine wg_take_go (i := 9) rfl rfl rfl (ov_fieldAddr fI54_2 some_lit rfl) rfl (by kernel_rfl) (by kernel_rfl) (by kernel_rfl) (by kernel_rfl) ?_
    refine wg_take_go (i := 10) rfl rfl rfl (ov_load tI3 (holds_old og1) rfl rfl) rfl (by kernel_rfl) (by kernel_rfl) (by kernel_rfl) (by kernel_rfl) ?_
    refine wg_take_go (i := 11) rfl rfl rfl (ov_fieldAddr fI54_3 some_lit rfl) rfl (by kernel_rfl) (by kernel_rfl) (by kernel_rfl) (by kernel_rfl) ?_
    refine wg_take_go (i := 12) rfl rfl rfl (ov_load tI3 (holds_old og1) rfl rfl) rfl (by kernel_rfl) (by kernel_rfl) (by kernel_rfl) (by kernel_rfl) ?_
    refine wg_one (i := 13) (by kernel_rfl) ?_
    refine go_rg rfl rfl rfl rfl (or_call (fv := []) (vs := [.int .i64 (s3), .int .i64 (s4)]) (cs := []) en34 rfl rfl (call_v (fun w hw => edge_c w s3 s4 ))) (kt0 rfl ?_)
    refine gk (.cons (.head) (.nil)) ?_
    refine wg_take_go_if (i := 14) rfl rfl rfl (ov_eqlE2 eqE65 rfl rfl) rfl (by kernel_rfl) (by kernel_rfl) (by kernel_rfl) (by kernel_rfl) (fun c18 => ?_) (fun c18 => ?_)
    ·
      refine wg_takep (i := 15) rfl (ov_pick_f rfl rfl) rfl rfl rfl (by kernel_rfl) (by kernel_rfl) (by kernel_rfl) rfl ?_
      refine wg_takep (i := 16) rfl (ov_assign rfl) rfl rfl rfl (by kernel_rfl) (by kernel_rfl) (by kernel_rfl) rfl ?_
      refine wg_done (by kernel_rfl) ?_
      refine ce_then ?_
      refine cw_ret ?_
      refine ce_results (v := .bool true) (res1 rfl (rv_t rfl)) (fun w' hw => ?_)
      exact ⟨(by unfold hitS; rw [decide_eq_true (show ((u, v) : Ed) = edg s3 s4 from Prod.ext c18.1 c18.2)]; rw [Bool.or_true]), (Keep.nil.ss hw).to_new⟩
    ·
      refine wg_takep (i := 15) rfl (ov_pick_f rfl rfl) rfl rfl rfl (by kernel_rfl) (by kernel_rfl) (by kernel_rfl) rfl ?_
      refine wg_takep (i := 16) rfl (ov_assign rfl) rfl rfl rfl (by kernel_rfl) (by kernel_rfl) (by kernel_rfl) rfl ?_
      refine wg_done (by kernel_rfl) ?_
      refine ce_then ?_
      refine cw_ret ?_
      refine ce_results (v := .bool false) (res1 rfl (rv_t rfl)) (fun w' hw => ?_)
      exact ⟨(by unfold hitS; rw [decide_eq_false (show ¬ ((u, v) : Ed) = edg s1 s2 from fun h => c10 ⟨congrArg Prod.fst h, congrArg Prod.snd h⟩), decide_eq_false (show ¬ ((u, v) : Ed) = edg s3 s4 from fun h => c18 ⟨congrArg Prod.fst h, congrArg Prod.snd h⟩)]; rfl), (Keep.nil.ss hw).to_new⟩
set_option maxRecDepth 100000 in
theorem change_c (w : World) (m : Nat) (A : Option Addr) (n : Nat) (c : Nat) (es : List (Int × Int)) (s1 : Int) (s2 : Int) (s3 : Int) (s4 : Int) (hA : At w A (cells fE es)) (eA : es.length = n) (lA : n ≤ c) (hg : Gr m es) (hm : m ≤ 7) : Calls Try.prog 66 #[.agg #[.int .i64 (((m : Nat) : Int)), .slice A (n) (c)], .agg #[.int .i64 (s1), .int .i64 (s2), .int .i64 (s3), .int .i64 (s4)]] w (Ret fun rv w' => ∃ A2 k2 c2, ((swV ((m : Nat) : Int) es s1 s2 s3 s4).2.1.length ≤ k2) ∧ rv = .tuple #[.agg #[.int .i64 ((swV ((m : Nat) : Int) es s1 s2 s3 s4).1), .slice A2 ((swV ((m : Nat) : Int) es s1 s2 s3 s4).2.1.length) (k2)], .bool ((swV ((m : Nat) : Int) es s1 s2 s3 s4).2.2)] ∧ New w w' [row 65 2 A2 ((swV ((m : Nat) : Int) es s1 s2 s3 s4).2.1.length) (c2) (cells fE ((swV ((m : Nat) : Int) es s1 s2 s3 s4).2.1))]) := by
  have oA := hA.atB
  subst eA
  have hel := hg.len (by omega)
  refine fn_enter (args := [.agg #[.int .i64 (((m : Nat) : Int)), .slice A (es.length) (c)], .agg #[.int .i64 (s1), .int .i64 (s2), .int .i64 (s3), .int .i64 (s4)]]) Try.func66 rfl Try.ntmps66 rfl (SS.start w) ?_
  refine cw_seq ?_
  refine cw_region ?_
  refine wl_r (or_box rfl rfl) rfl rfl (kt1 rfl (fun g2 => ?_))
  refine wl_r (or_box rfl rfl) rfl rfl (kt1 rfl (fun g3 => ?_))
  refine wl_r (or_alloc tI25 rfl) rfl rfl (kt1 rfl (fun g4 => ?_))
  refine wl_v (ov_assign rfl) rfl rfl rfl ?_
  refine wl_nil ?_
  refine ce_then ?_
  refine cw_seq ?_
  refine cw_seq ?_
  refine cw_region ?_
  refine wl_v (ov_loadAgg (vs := [.int .i64 (s1), .int .i64 (s2), .int .i64 (s3), .int .i64 (s4)]) tI54 (holds_blk (List.Mem.tail _ (List.Mem.head _))) rfl some_lit rfl rfl) rfl rfl rfl ?_
  refine wl_r (or_call (fv := []) (vs := [.agg #[.int .i64 (s1), .int .i64 (s2), .int .i64 (s3), .int .i64 (s4)]]) (cs := []) en98 rfl rfl (call_v (fun w hw => apart_c w s1 s2 s3 s4 ))) rfl rfl (kt_if rfl (fun c9 => ?_) (fun c9 => ?_))
  ·
    refine wl_v (ov_not rfl) rfl rfl rfl ?_
    refine wl_v (ov_move rfl) rfl rfl rfl ?_
    refine wl_go rfl rfl ?_
    refine wl_v (ov_loadAgg (vs := [.int .i64 (((m : Nat) : Int)), .slice A (es.length) (c)]) tI25 (holds_blk (List.Mem.tail _ (List.Mem.tail _ (List.Mem.head _)))) rfl some_lit rfl rfl) rfl rfl rfl ?_
    refine wl_go rfl rfl ?_
    refine wl_v (ov_fieldAddr fI54_0 some_lit rfl) rfl rfl rfl ?_
    refine wl_go rfl rfl ?_
    refine wl_v (ov_load tI3 (holds_blk (List.Mem.tail _ (List.Mem.head _))) rfl rfl) rfl rfl rfl ?_
    refine wl_go rfl rfl ?_
    refine wl_v (ov_fieldAddr fI54_1 some_lit rfl) rfl rfl rfl ?_
    refine wl_go rfl rfl ?_
    refine wl_v (ov_load tI3 (holds_blk (List.Mem.tail _ (List.Mem.head _))) rfl rfl) rfl rfl rfl ?_
    refine wl_go rfl rfl ?_
    refine wl_r (or_call (fv := []) (vs := [.agg #[.int .i64 (((m : Nat) : Int)), .slice A (es.length) (c)], .int .i64 (s1), .int .i64 (s2)]) (cs := []) en71 rfl rfl (call_v (fun w hw => has_c w ((m : Nat) : Int) A es.length c es s1 s2 ((holds_old oA) w hw) rfl lA (by first | assumption | omega | (simp; omega))))) rfl rfl (kt_if rfl (fun c17 => ?_) (fun c17 => ?_))
    ·
      refine wl_go rfl rfl ?_
      refine wl_v (ov_not rfl) rfl rfl rfl ?_
      refine wl_v (ov_pick_f rfl rfl) rfl rfl rfl ?_
      refine wl_v (ov_move rfl) rfl rfl rfl ?_
      refine wl_go rfl rfl ?_
      refine wl_v (ov_loadAgg (vs := [.int .i64 (((m : Nat) : Int)), .slice A (es.length) (c)]) tI25 (holds_blk (List.Mem.tail _ (List.Mem.tail _ (List.Mem.head _)))) rfl some_lit rfl rfl) rfl rfl rfl ?_
      refine wl_go rfl rfl ?_
      refine wl_v (ov_fieldAddr fI54_2 some_lit rfl) rfl rfl rfl ?_
      refine wl_go rfl rfl ?_
      refine wl_v (ov_load tI3 (holds_blk (List.Mem.tail _ (List.Mem.head _))) rfl rfl) rfl rfl rfl ?_
      refine wl_go rfl rfl ?_
      refine wl_v (ov_fieldAddr fI54_3 some_lit rfl) rfl rfl rfl ?_
      refine wl_go rfl rfl ?_
      refine wl_v (ov_load tI3 (holds_blk (List.Mem.tail _ (List.Mem.head _))) rfl rfl) rfl rfl rfl ?_
      refine wl_go rfl rfl ?_
      refine wl_r (or_call (fv := []) (vs := [.agg #[.int .i64 (((m : Nat) : Int)), .slice A (es.length) (c)], .int .i64 (s3), .int .i64 (s4)]) (cs := []) en71 rfl rfl (call_v (fun w hw => has_c w ((m : Nat) : Int) A es.length c es s3 s4 ((holds_old oA) w hw) rfl lA (by first | assumption | omega | (simp; omega))))) rfl rfl (kt_if rfl (fun c26 => ?_) (fun c26 => ?_))
      ·
        refine wl_go rfl rfl ?_
        refine wl_v (ov_not rfl) rfl rfl rfl ?_
        refine wl_v (ov_pick_f rfl rfl) rfl rfl rfl ?_
        refine wl_v (ov_move rfl) rfl rfl rfl ?_
        refine wl_go rfl rfl ?_
        refine wl_v (ov_loadAgg (vs := [.int .i64 (((m : Nat) : Int)), .slice A (es.length) (c)]) tI25 (holds_blk (List.Mem.tail _ (List.Mem.tail _ (List.Mem.head _)))) rfl some_lit rfl rfl) rfl rfl rfl ?_
        refine wl_go rfl rfl ?_
        refine wl_v (ov_fieldAddr fI54_0 some_lit rfl) rfl rfl rfl ?_
        refine wl_go rfl rfl ?_
        refine wl_v (ov_load tI3 (holds_blk (List.Mem.tail _ (List.Mem.head _))) rfl rfl) rfl rfl rfl ?_
        refine wl_go rfl rfl ?_
        refine wl_v (ov_fieldAddr fI54_2 some_lit rfl) rfl rfl rfl ?_
        refine wl_go rfl rfl ?_
        refine wl_v (ov_load tI3 (holds_blk (List.Mem.tail _ (List.Mem.head _))) rfl rfl) rfl rfl rfl ?_
        refine wl_go rfl rfl ?_
        refine wl_r (or_call (fv := []) (vs := [.agg #[.int .i64 (((m : Nat) : Int)), .slice A (es.length) (c)], .int .i64 (s1), .int .i64 (s3)]) (cs := []) en71 rfl rfl (call_v (fun w hw => has_c w ((m : Nat) : Int) A es.length c es s1 s3 ((holds_old oA) w hw) rfl lA (by first | assumption | omega | (simp; omega))))) rfl rfl (kt_if rfl (fun c35 => ?_) (fun c35 => ?_))
        ·
          refine wl_v (ov_pick_f rfl rfl) rfl rfl rfl ?_
          refine wl_v (ov_move rfl) rfl rfl rfl ?_
          refine wl_not rfl rfl rfl rfl rfl rfl ?_
          refine wl_not rfl rfl rfl rfl rfl rfl ?_
          refine wl_not rfl rfl rfl rfl rfl rfl ?_
          refine wl_not rfl rfl rfl rfl rfl rfl ?_
          refine wl_not rfl rfl rfl rfl rfl rfl ?_
          refine wl_not rfl rfl rfl rfl rfl rfl ?_
          refine wl_v (ov_pick_t rfl rfl) rfl rfl rfl ?_
          refine wl_nil ?_
          refine ce_then ?_
          refine cw_true rfl ?_
          refine cw_seq ?_
          have hv : swV ((m : Nat) : Int) es s1 s2 s3 s4 = (0, [], false) := if_neg (fun h => h.2.2.2.2.2.2.2.1 c35)
          refine ct_none fE 65 2 ?_
          refine cw_region ?_
          refine wl_v (ov_build (is := []) (vs := []) (v := .agg #[.int .i64 (0), .slice none (0) (0)]) rfl rfl (fun _ => by kernel_rfl)) rfl rfl rfl ?_
          refine wl_r0 (or_store_blk (vs := [.int .i64 (0), .slice none (0) (0)]) (cs' := [.int .i64 (0), .slice none (0) (0)]) (.tail .head) tI25 rfl rfl rfl rfl (Nat.le_of_ble_eq_true rfl) rfl) rfl rfl (kn0 ?_)
          refine wl_v (ov_assign rfl) rfl rfl rfl ?_
          refine wl_nil ?_
          refine ce_then ?_
          refine cw_ret ?_
          refine ce_then_ret ?_
          refine ce_results (v := .tuple #[.agg #[.int .i64 (0), .slice none (0) (0)], .bool false]) (res2 rfl (rv_c rfl tI25 rfl (List.Mem.head _)) (rv_t rfl)) (fun w' hw => ?_)
          exact ⟨none, 0, 0, (by rw [hv]; exact Nat.le_refl _), (by rw [hv] <;> rfl), ((.consE (show row 65 2 none (0) (0) (cells fE ([])) = row 65 2 none ((swV ((m : Nat) : Int) es s1 s2 s3 s4).2.1.length) (0) (cells fE ((swV ((m : Nat) : Int) es s1 s2 s3 s4).2.1)) by rw [hv] <;> rfl) (.tail .head) (.nil) : Keep _ _).ss hw).to_new⟩
        ·
          refine wl_v (ov_pick_f rfl rfl) rfl rfl rfl ?_
          refine wl_v (ov_move rfl) rfl rfl rfl ?_
          refine wl_go rfl rfl ?_
          refine wl_v (ov_loadAgg (vs := [.int .i64 (((m : Nat) : Int)), .slice A (es.length) (c)]) tI25 (holds_blk (List.Mem.tail _ (List.Mem.tail _ (List.Mem.head _)))) rfl some_lit rfl rfl) rfl rfl rfl ?_
          refine wl_go rfl rfl ?_
          refine wl_v (ov_fieldAddr fI54_1 some_lit rfl) rfl rfl rfl ?_
          refine wl_go rfl rfl ?_
          refine wl_v (ov_load tI3 (holds_blk (List.Mem.tail _ (List.Mem.head _))) rfl rfl) rfl rfl rfl ?_
          refine wl_go rfl rfl ?_
          refine wl_v (ov_fieldAddr fI54_3 some_lit rfl) rfl rfl rfl ?_
          refine wl_go rfl rfl ?_
          refine wl_v (ov_load tI3 (holds_blk (List.Mem.tail _ (List.Mem.head _))) rfl rfl) rfl rfl rfl ?_
          refine wl_go rfl rfl ?_
          refine wl_r (or_call (fv := []) (vs := [.agg #[.int .i64 (((m : Nat) : Int)), .slice A (es.length) (c)], .int .i64 (s2), .int .i64 (s4)]) (cs := []) en71 rfl rfl (call_v (fun w hw => has_c w ((m : Nat) : Int) A es.length c es s2 s4 ((holds_old oA) w hw) rfl lA (by first | assumption | omega | (simp; omega))))) rfl rfl (kt_if rfl (fun c43 => ?_) (fun c43 => ?_))
          ·
            refine wl_v (ov_pick_f rfl rfl) rfl rfl rfl ?_
            refine wl_nil ?_
            refine ce_then ?_
            refine cw_true rfl ?_
            refine cw_seq ?_
            have hv : swV ((m : Nat) : Int) es s1 s2 s3 s4 = (0, [], false) := if_neg (fun h => h.2.2.2.2.2.2.2.2 c43)
            refine ct_none fE 65 2 ?_
            refine cw_region ?_
            refine wl_v (ov_build (is := []) (vs := []) (v := .agg #[.int .i64 (0), .slice none (0) (0)]) rfl rfl (fun _ => by kernel_rfl)) rfl rfl rfl ?_
            refine wl_r0 (or_store_blk (vs := [.int .i64 (0), .slice none (0) (0)]) (cs' := [.int .i64 (0), .slice none (0) (0)]) (.tail .head) tI25 rfl rfl rfl rfl (Nat.le_of_ble_eq_true rfl) rfl) rfl rfl (kn0 ?_)
            refine wl_v (ov_assign rfl) rfl rfl rfl ?_
            refine wl_nil ?_
            refine ce_then ?_
            refine cw_ret ?_
            refine ce_then_ret ?_
            refine ce_results (v := .tuple #[.agg #[.int .i64 (0), .slice none (0) (0)], .bool false]) (res2 rfl (rv_c rfl tI25 rfl (List.Mem.head _)) (rv_t rfl)) (fun w' hw => ?_)
            exact ⟨none, 0, 0, (by rw [hv]; exact Nat.le_refl _), (by rw [hv] <;> rfl), ((.consE (show row 65 2 none (0) (0) (cells fE ([])) = row 65 2 none ((swV ((m : Nat) : Int) es s1 s2 s3 s4).2.1.length) (0) (cells fE ((swV ((m : Nat) : Int) es s1 s2 s3 s4).2.1)) by rw [hv] <;> rfl) (.tail .head) (.nil) : Keep _ _).ss hw).to_new⟩
          ·
            have hM : MayS es s1 s2 s3 s4 := ⟨c9.2.1, c9.2.2.2.2.1, c9.2.2.1, c9.2.2.2.1, c17, c26, c35, c43⟩
            have hG := swE_gr hg hM
            have hv : swV ((m : Nat) : Int) es s1 s2 s3 s4 = (((m : Nat) : Int), swE es s1 s2 s3 s4, true) := if_pos ⟨hg.valid hm, hM⟩
            have hEq : srtE (es.filter (fun x => !hitS s1 s2 s3 s4 x) ++ [(min s1 s3, max s1 s3), (min s2 s4, max s2 s4)]) = swE es s1 s2 s3 s4 := swE_eq' hg s1 s2 s3 s4
            have hfl := List.length_filter_le (fun x => !hitS s1 s2 s3 s4 x) es
            have hok9 := preS_ok hg hm hM
            have hpl := pre_len hg hm (fun x => !hitS s1 s2 s3 s4 x) (edg s1 s3) (edg s2 s4)
            have hsl := hG.len (by omega)
            refine wl_v (ov_pick_f rfl rfl) rfl rfl rfl ?_
            refine wl_nil ?_
            refine ce_then ?_
            refine cw_false rfl ?_
            refine cw_skip ?_
            refine ce_then ?_
            refine cw_seq ?_
            refine cw_region ?_
            refine wl_v (ov_fieldAddr fI25_1 some_lit rfl) rfl rfl rfl ?_
            refine wl_v (ov_load tI23 (holds_blk (List.Mem.tail _ (List.Mem.tail _ (List.Mem.head _)))) rfl rfl) rfl rfl rfl ?_
            refine wl_r (or_call (fv := []) (vs := [.slice A (es.length) (c)]) (cs := []) en92 rfl rfl (call_x2 (fun w hw => cloneE_c w A es.length c es ((holds_old oA) w hw) rfl lA (by first | assumption | omega | (simp; omega))))) rfl rfl (kt2p rfl (fun A2_48 c2_48 h_48 => ?_))
            refine wl_v (ov_makeFunc (vs := #[elp (some ⟨g3, 0, none⟩) (0)]) rfl) rfl rfl rfl ?_
            refine wl_r (or_call (fv := []) (vs := [.slice A2_48 (es.length) (c2_48), .func (.func 100) #[] #[elp (some ⟨g3, 0, none⟩) (0)]]) (cs := []) en99 rfl rfl (call_m (.head) (fun w hw => deleteFuncE_c w _ _ _ A2_48 es.length c2_48 c2_48 es 100 ([elp (some ⟨g3, 0, none⟩) (0)]) (hitS s1 s2 s3 s4) rfl h_48 (by omega) en100 (fun x hx ys' w' hw' => change1_c w' x.1 x.2 g3 s1 s2 s3 s4 ((holds_blk (List.Mem.tail _ (List.Mem.tail _ (List.Mem.head _)))) w' hw')) hw))) rfl rfl (kt0 rfl ?_)
            refine wl_v (ov_assign rfl) rfl rfl rfl ?_
            refine wl_nil ?_
            refine ce_then ?_
            refine cw_seq ?_
            refine cw_draw mixO [17] (.cons (.tail .head) (.cons (.tail .head) (.cons (.tail .head) (.nil)))) rfl ?_
            refine wg_take (i := 0) rfl (ov_fieldAddr fI25_0 some_lit rfl) rfl rfl rfl (by kernel_rfl) (by kernel_rfl) (by kernel_rfl) (by kernel_rfl) ?_
            refine wg_take (i := 1) rfl (ov_load tI3 (holds_blk (List.Mem.tail _ (List.Mem.tail _ (List.Mem.head _)))) rfl rfl) rfl rfl rfl (by kernel_rfl) (by kernel_rfl) (by kernel_rfl) (by kernel_rfl) ?_
            refine wg_takep (i := 2) rfl (ov_move rfl) rfl rfl rfl (by kernel_rfl) (by kernel_rfl) (by kernel_rfl) rfl ?_
            refine wg_take (i := 3) rfl (ov_fieldAddr fI54_0 some_lit rfl) rfl rfl rfl (by kernel_rfl) (by kernel_rfl) (by kernel_rfl) (by kernel_rfl) ?_
            refine wg_take (i := 4) rfl (ov_load tI3 (holds_blk (List.Mem.tail _ (List.Mem.head _))) rfl rfl) rfl rfl rfl (by kernel_rfl) (by kernel_rfl) (by kernel_rfl) (by kernel_rfl) ?_
            refine wg_take (i := 5) rfl (ov_fieldAddr fI54_2 some_lit rfl) rfl rfl rfl (by kernel_rfl) (by kernel_rfl) (by kernel_rfl) (by kernel_rfl) ?_
            refine wg_take (i := 6) rfl (ov_load tI3 (holds_blk (List.Mem.tail _ (List.Mem.head _))) rfl rfl) rfl rfl rfl (by kernel_rfl) (by kernel_rfl) (by kernel_rfl) (by kernel_rfl) ?_
            refine wg_take (i := 8) rfl (ov_fieldAddr fI54_1 some_lit rfl) rfl rfl rfl (by kernel_rfl) (by kernel_rfl) (by kernel_rfl) (by kernel_rfl) ?_
            refine wg_take (i := 9) rfl (ov_load tI3 (holds_blk (List.Mem.tail _ (List.Mem.head _))) rfl rfl) rfl rfl rfl (by kernel_rfl) (by kernel_rfl) (by kernel_rfl) (by kernel_rfl) ?_
            refine wg_take (i := 10) rfl (ov_fieldAddr fI54_3 some_lit rfl) rfl rfl rfl (by kernel_rfl) (by kernel_rfl) (by kernel_rfl) (by kernel_rfl) ?_
            refine wg_take (i := 11) rfl (ov_load tI3 (holds_blk (List.Mem.tail _ (List.Mem.head _))) rfl rfl) rfl rfl rfl (by kernel_rfl) (by kernel_rfl) (by kernel_rfl) (by kernel_rfl) ?_
            refine wg_two (i := 7) (j := 16) (by kernel_rfl) ?_ ?_
            ·
              refine go_r rfl rfl rfl rfl (or_call (fv := []) (vs := [.int .i64 (s1), .int .i64 (s3)]) (cs := []) en34 rfl rfl (call_v (fun w hw => edge_c w s1 s3 ))) (kt0 rfl ?_)
              refine gk (.cons (.tail .head) (.cons (.tail .head) (.cons (.tail .head) (.nil)))) ?_
              refine wg_two (i := 12) (j := 16) (by kernel_rfl) ?_ ?_
              ·
                refine go_r rfl rfl rfl rfl (or_call (fv := []) (vs := [.int .i64 (s2), .int .i64 (s4)]) (cs := []) en34 rfl rfl (call_v (fun w hw => edge_c w s2 s4 ))) (kt0 rfl ?_)
                refine gk (.cons (.tail .head) (.cons (.tail .head) (.cons (.tail .head) (.nil)))) ?_
                refine wg_two (i := 13) (j := 16) (by kernel_rfl) ?_ ?_
                ·
                  refine go_r rfl rfl rfl rfl (or_buildSlice (e := 65) (size := 2) (is := [0, 1]) (vs := [.agg #[.int .i64 (min s1 s3), .int .i64 (max s1 s3)], .agg #[.int .i64 (min s2 s4), .int .i64 (max s2 s4)]]) (cs := cells fE ([(min s1 s3, max s1 s3), (min s2 s4, max s2 s4)])) rfl rfl rfl (by decide) (fun _ => by kernel_rfl)) (kt1 rfl (fun g64 => ?_))
                  refine gk (.cons (.tail (.tail .head)) (.cons (.tail (.tail .head)) (.cons (.tail (.tail .head)) (.nil)))) ?_
                  refine wg_two (i := 14) (j := 16) (by kernel_rfl) ?_ ?_
                  ·
                    refine go_r rfl rfl rfl rfl (or_append (c2 := 2) sI23 tI65 rfl (by decide) rfl rfl (.tail .head) (holds_row (List.Mem.head _)) (by rw [cells_length fE_len]; try simp) (one_cells fE_one _) cells_append (by omega) (by omega)) (kt2p rfl (fun A65 c65 h65 => ?_))
                    refine gk (.cons (.tail (.tail .head)) (.cons (.tail (.tail .head)) (.cons (.tail (.tail .head)) (.nil)))) ?_
                    refine wg_two (i := 15) (j := 16) (by kernel_rfl) ?_ ?_
                    ·
                      refine go_r rfl rfl rfl rfl (or_call (fv := []) (vs := [.int .i64 (((m : Nat) : Int)), .slice A65 (((es.filter (fun x => !(hitS s1 s2 s3 s4) x)).length) + 2) (c65)]) (cs := []) en62 rfl rfl (call_x3 (fun w hw => made_c w ((m : Nat) : Int) A65 (((es.filter (fun x => !(hitS s1 s2 s3 s4) x)).length) + 2) c65 ((es.filter (fun x => !(hitS s1 s2 s3 s4) x)) ++ ([(min s1 s3, max s1 s3), (min s2 s4, max s2 s4)])) ((holds_row (List.Mem.head _)) w hw) (by rw [List.length_append]; rfl) h65 (by exact Nat.le_trans hpl (by decide)) hok9))) (kt3p rfl (fun A2_66 k2_66 c2_66 h_66 => ?_))
                      refine gk (.cons (.tail (.tail (.tail .head))) (.cons (.tail (.tail (.tail .head))) (.cons (.tail (.tail (.tail .head))) (.nil)))) ?_
                      refine wg_one (i := 16) (by kernel_rfl) ?_
                      refine go_r rfl rfl rfl rfl (or_alloc tI25 rfl) (kt1 rfl (fun g7 => ?_))
                      refine gk (.cons (.tail (.tail (.tail (.tail .head)))) (.cons (.tail (.tail (.tail (.tail .head)))) (.cons (.tail (.tail (.tail (.tail .head)))) (.nil)))) ?_
                      refine wg_one (i := 17) (by kernel_rfl) ?_
                      refine go_late0 rfl rfl rfl rfl (or_store_blk (vs := [.int .i64 (((m : Nat) : Int)), .slice A2_66 ((srtE ((es.filter (fun x => !(hitS s1 s2 s3 s4) x)) ++ ([(min s1 s3, max s1 s3), (min s2 s4, max s2 s4)]))).length) (k2_66)]) (cs' := [.int .i64 (((m : Nat) : Int)), .slice A2_66 ((srtE ((es.filter (fun x => !(hitS s1 s2 s3 s4) x)) ++ ([(min s1 s3, max s1 s3), (min s2 s4, max s2 s4)]))).length) (k2_66)]) (.head) tI25 rfl rfl rfl rfl (Nat.le_of_ble_eq_true rfl) rfl) (kn0 ?_)
                      refine wa_done (by kernel_rfl) ?_
                      refine ce_then ?_
                      refine cw_seq ?_
                      refine cw_draw mixO [3] (.cons (.head) (.cons (.head) (.cons (.head) (.cons (.head) (.cons (.head) (.cons (.head) (.cons (.head) (.nil)))))))) rfl ?_
                      refine wg_take (i := 0) rfl (ov_loadAgg (vs := [.int .i64 (((m : Nat) : Int)), .slice A2_66 ((srtE ((es.filter (fun x => !(hitS s1 s2 s3 s4) x)) ++ ([(min s1 s3, max s1 s3), (min s2 s4, max s2 s4)]))).length) (k2_66)]) tI25 (holds_blk (List.Mem.head _)) rfl some_lit rfl rfl) rfl rfl rfl (by kernel_rfl) (by kernel_rfl) (by kernel_rfl) (by kernel_rfl) ?_
                      refine wg_takec (i := 1) [2, 3, 4] rfl (ov_loadAgg (vs := [.int .i64 (((m : Nat) : Int)), .slice A2_66 ((srtE ((es.filter (fun x => !(hitS s1 s2 s3 s4) x)) ++ ([(min s1 s3, max s1 s3), (min s2 s4, max s2 s4)]))).length) (k2_66)]) tI25 (holds_blk (List.Mem.head _)) rfl some_lit rfl rfl) rfl rfl rfl (by kernel_rfl) (by kernel_rfl) (by kernel_rfl) (by kernel_rfl) ?_
                      refine wg_one (i := 2) (by kernel_rfl) ?_
                      refine go_r rfl rfl rfl rfl (or_call (fv := []) (vs := [.agg #[.int .i64 (((m : Nat) : Int)), .slice A2_66 ((srtE ((es.filter (fun x => !(hitS s1 s2 s3 s4) x)) ++ ([(min s1 s3, max s1 s3), (min s2 s4, max s2 s4)]))).length) (k2_66)]]) (cs := []) en12 rfl rfl (call_v (fun w hw => validGraphI_c w ((m : Nat) : Int) A2_66 ((srtE ((es.filter (fun x => !(hitS s1 s2 s3 s4) x)) ++ ([(min s1 s3, max s1 s3), (min s2 s4, max s2 s4)]))).length) k2_66 (srtE ((es.filter (fun x => !(hitS s1 s2 s3 s4) x)) ++ ([(min s1 s3, max s1 s3), (min s2 s4, max s2 s4)]))) ((holds_row (List.Mem.tail _ (List.Mem.head _))) w hw) rfl h_66 (by rw [hEq]; omega) (by omega)))) (kt_if rfl (fun c69 => ?_) (fun c69 => ?_))
                      ·
                        refine gk (.cons (.head) (.cons (.head) (.cons (.head) (.cons (.head) (.cons (.head) (.cons (.head) (.cons (.head) (.nil)))))))) ?_
                        refine wg_one (i := 3) (by kernel_rfl) ?_
                        refine go_late0 rfl rfl rfl rfl (or_store_blk (vs := [.int .i64 (((m : Nat) : Int)), .slice A2_66 ((srtE ((es.filter (fun x => !(hitS s1 s2 s3 s4) x)) ++ ([(min s1 s3, max s1 s3), (min s2 s4, max s2 s4)]))).length) (k2_66)]) (cs' := [.int .i64 (((m : Nat) : Int)), .slice A2_66 ((srtE ((es.filter (fun x => !(hitS s1 s2 s3 s4) x)) ++ ([(min s1 s3, max s1 s3), (min s2 s4, max s2 s4)]))).length) (k2_66)]) (.tail (.tail (.tail (.tail .head)))) tI25 rfl rfl rfl rfl (Nat.le_of_ble_eq_true rfl) rfl) (kn0 ?_)
                        refine wa_r (i := 4) (by kernel_rfl) rfl rfl rfl (OpV.opR (ov_assign rfl)) (kt0 rfl ?_)
                        refine wa_done (by kernel_rfl) ?_
                        refine ce_then ?_
                        refine cw_ret ?_
                        refine ce_results (v := .tuple #[.agg #[.int .i64 (((m : Nat) : Int)), .slice A2_66 ((srtE ((es.filter (fun x => !(hitS s1 s2 s3 s4) x)) ++ ([(min s1 s3, max s1 s3), (min s2 s4, max s2 s4)]))).length) (k2_66)], .bool true]) (res2 rfl (rv_c rfl tI25 rfl (List.Mem.head _)) (rv_t rfl)) (fun w' hw => ?_)
                        exact ⟨A2_66, k2_66, c2_66, (by rw [hv]; show (swE es s1 s2 s3 s4).length ≤ _; rw [← hEq]; exact h_66), (by rw [hv, ← hEq] <;> rfl), ((.consE (show row 65 2 A2_66 ((srtE ((es.filter (fun x => !(hitS s1 s2 s3 s4) x)) ++ ([(min s1 s3, max s1 s3), (min s2 s4, max s2 s4)]))).length) (c2_66) (cells fE (srtE ((es.filter (fun x => !(hitS s1 s2 s3 s4) x)) ++ ([(min s1 s3, max s1 s3), (min s2 s4, max s2 s4)])))) = row 65 2 A2_66 ((swV ((m : Nat) : Int) es s1 s2 s3 s4).2.1.length) (c2_66) (cells fE ((swV ((m : Nat) : Int) es s1 s2 s3 s4).2.1)) by rw [hv, ← hEq] <;> rfl) (.tail (.tail .head)) (.nil) : Keep _ _).ss hw).to_new⟩
                      ·
                        exact absurd (by rw [hEq]; exact hG.valid hm) c69
                    ·
                      refine go_r rfl rfl rfl rfl (or_alloc tI25 rfl) (kt1 rfl (fun g7 => ?_))
                      refine gk (.cons (.tail (.tail (.tail .head))) (.cons (.tail (.tail (.tail .head))) (.cons (.tail (.tail (.tail .head))) (.nil)))) ?_
                      refine wg_one (i := 15) (by kernel_rfl) ?_
                      refine go_r rfl rfl rfl rfl (or_call (fv := []) (vs := [.int .i64 (((m : Nat) : Int)), .slice A65 (((es.filter (fun x => !(hitS s1 s2 s3 s4) x)).length) + 2) (c65)]) (cs := []) en62 rfl rfl (call_x3 (fun w hw => made_c w ((m : Nat) : Int) A65 (((es.filter (fun x => !(hitS s1 s2 s3 s4) x)).length) + 2) c65 ((es.filter (fun x => !(hitS s1 s2 s3 s4) x)) ++ ([(min s1 s3, max s1 s3), (min s2 s4, max s2 s4)])) ((holds_row (List.Mem.tail _ (List.Mem.head _))) w hw) (by rw [List.length_append]; rfl) h65 (by exact Nat.le_trans hpl (by decide)) hok9))) (kt3p rfl (fun A2_66 k2_66 c2_66 h_66 => ?_))
                      refine gk (.cons (.tail (.tail (.tail (.tail .head)))) (.cons (.tail (.tail (.tail (.tail .head)))) (.cons (.tail (.tail (.tail (.tail .head)))) (.nil)))) ?_
                      refine wg_one (i := 17) (by kernel_rfl) ?_
                      refine go_late0 rfl rfl rfl rfl (or_store_blk (vs := [.int .i64 (((m : Nat) : Int)), .slice A2_66 ((srtE ((es.filter (fun x => !(hitS s1 s2 s3 s4) x)) ++ ([(min s1 s3, max s1 s3), (min s2 s4, max s2 s4)]))).length) (k2_66)]) (cs' := [.int .i64 (((m : Nat) : Int)), .slice A2_66 ((srtE ((es.filter (fun x => !(hitS s1 s2 s3 s4) x)) ++ ([(min s1 s3, max s1 s3), (min s2 s4, max s2 s4)]))).length) (k2_66)]) (.tail .head) tI25 rfl rfl rfl rfl (Nat.le_of_ble_eq_true rfl) rfl) (kn0 ?_)
                      refine wa_done (by kernel_rfl) ?_
                      refine ce_then ?_
                      refine cw_seq ?_
                      refine cw_draw mixO [3] (.cons (.head) (.cons (.head) (.cons (.head) (.cons (.head) (.cons (.head) (.cons (.head) (.cons (.head) (.nil)))))))) rfl ?_
                      refine wg_take (i := 0) rfl (ov_loadAgg (vs := [.int .i64 (((m : Nat) : Int)), .slice A2_66 ((srtE ((es.filter (fun x => !(hitS s1 s2 s3 s4) x)) ++ ([(min s1 s3, max s1 s3), (min s2 s4, max s2 s4)]))).length) (k2_66)]) tI25 (holds_blk (List.Mem.head _)) rfl some_lit rfl rfl) rfl rfl rfl (by kernel_rfl) (by kernel_rfl) (by kernel_rfl) (by kernel_rfl) ?_
                      refine wg_takec (i := 1) [2, 3, 4] rfl (ov_loadAgg (vs := [.int .i64 (((m : Nat) : Int)), .slice A2_66 ((srtE ((es.filter (fun x => !(hitS s1 s2 s3 s4) x)) ++ ([(min s1 s3, max s1 s3), (min s2 s4, max s2 s4)]))).length) (k2_66)]) tI25 (holds_blk (List.Mem.head _)) rfl some_lit rfl rfl) rfl rfl rfl (by kernel_rfl) (by kernel_rfl) (by kernel_rfl) (by kernel_rfl) ?_
                      refine wg_one (i := 2) (by kernel_rfl) ?_
                      refine go_r rfl rfl rfl rfl (or_call (fv := []) (vs := [.agg #[.int .i64 (((m : Nat) : Int)), .slice A2_66 ((srtE ((es.filter (fun x => !(hitS s1 s2 s3 s4) x)) ++ ([(min s1 s3, max s1 s3), (min s2 s4, max s2 s4)]))).length) (k2_66)]]) (cs := []) en12 rfl rfl (call_v (fun w hw => validGraphI_c w ((m : Nat) : Int) A2_66 ((srtE ((es.filter (fun x => !(hitS s1 s2 s3 s4) x)) ++ ([(min s1 s3, max s1 s3), (min s2 s4, max s2 s4)]))).length) k2_66 (srtE ((es.filter (fun x => !(hitS s1 s2 s3 s4) x)) ++ ([(min s1 s3, max s1 s3), (min s2 s4, max s2 s4)]))) ((holds_row (List.Mem.tail _ (List.Mem.head _))) w hw) rfl h_66 (by rw [hEq]; omega) (by omega)))) (kt_if rfl (fun c69 => ?_) (fun c69 => ?_))
                      ·
                        refine gk (.cons (.head) (.cons (.head) (.cons (.head) (.cons (.head) (.cons (.head) (.cons (.head) (.cons (.head) (.nil)))))))) ?_
                        refine wg_one (i := 3) (by kernel_rfl) ?_
                        refine go_late0 rfl rfl rfl rfl (or_store_blk (vs := [.int .i64 (((m : Nat) : Int)), .slice A2_66 ((srtE ((es.filter (fun x => !(hitS s1 s2 s3 s4) x)) ++ ([(min s1 s3, max s1 s3), (min s2 s4, max s2 s4)]))).length) (k2_66)]) (cs' := [.int .i64 (((m : Nat) : Int)), .slice A2_66 ((srtE ((es.filter (fun x => !(hitS s1 s2 s3 s4) x)) ++ ([(min s1 s3, max s1 s3), (min s2 s4, max s2 s4)]))).length) (k2_66)]) (.tail (.tail (.tail (.tail .head)))) tI25 rfl rfl rfl rfl (Nat.le_of_ble_eq_true rfl) rfl) (kn0 ?_)
                        refine wa_r (i := 4) (by kernel_rfl) rfl rfl rfl (OpV.opR (ov_assign rfl)) (kt0 rfl ?_)
                        refine wa_done (by kernel_rfl) ?_
                        refine ce_then ?_
                        refine cw_ret ?_
                        refine ce_results (v := .tuple #[.agg #[.int .i64 (((m : Nat) : Int)), .slice A2_66 ((srtE ((es.filter (fun x => !(hitS s1 s2 s3 s4) x)) ++ ([(min s1 s3, max s1 s3), (min s2 s4, max s2 s4)]))).length) (k2_66)], .bool true]) (res2 rfl (rv_c rfl tI25 rfl (List.Mem.head _)) (rv_t rfl)) (fun w' hw => ?_)
                        exact ⟨A2_66, k2_66, c2_66, (by rw [hv]; show (swE es s1 s2 s3 s4).length ≤ _; rw [← hEq]; exact h_66), (by rw [hv, ← hEq] <;> rfl), ((.consE (show row 65 2 A2_66 ((srtE ((es.filter (fun x => !(hitS s1 s2 s3 s4) x)) ++ ([(min s1 s3, max s1 s3), (min s2 s4, max s2 s4)]))).length) (c2_66) (cells fE (srtE ((es.filter (fun x => !(hitS s1 s2 s3 s4) x)) ++ ([(min s1 s3, max s1 s3), (min s2 s4, max s2 s4)])))) = row 65 2 A2_66 ((swV ((m : Nat) : Int) es s1 s2 s3 s4).2.1.length) (c2_66) (cells fE ((swV ((m : Nat) : Int) es s1 s2 s3 s4).2.1)) by rw [hv, ← hEq] <;> rfl) (.tail (.tail .head)) (.nil) : Keep _ _).ss hw).to_new⟩
                      ·
                        exact absurd (by rw [hEq]; exact hG.valid hm) c69
                  ·
                    refine go_r rfl rfl rfl rfl (or_alloc tI25 rfl) (kt1 rfl (fun g7 => ?_))
                    refine gk (.cons (.tail (.tail (.tail .head))) (.cons (.tail (.tail (.tail .head))) (.cons (.tail (.tail (.tail .head))) (.nil)))) ?_
                    refine wg_one (i := 14) (by kernel_rfl) ?_
                    refine go_r rfl rfl rfl rfl (or_append (c2 := 2) sI23 tI65 rfl (by decide) rfl rfl (.tail (.tail .head)) (holds_row (List.Mem.tail _ (List.Mem.head _))) (by rw [cells_length fE_len]; try simp) (one_cells fE_one _) cells_append (by omega) (by omega)) (kt2p rfl (fun A65 c65 h65 => ?_))
                    refine gk (.cons (.tail (.tail (.tail .head))) (.cons (.tail (.tail (.tail .head))) (.cons (.tail (.tail (.tail .head))) (.nil)))) ?_
                    refine wg_one (i := 15) (by kernel_rfl) ?_
                    refine go_r rfl rfl rfl rfl (or_call (fv := []) (vs := [.int .i64 (((m : Nat) : Int)), .slice A65 (((es.filter (fun x => !(hitS s1 s2 s3 s4) x)).length) + 2) (c65)]) (cs := []) en62 rfl rfl (call_x3 (fun w hw => made_c w ((m : Nat) : Int) A65 (((es.filter (fun x => !(hitS s1 s2 s3 s4) x)).length) + 2) c65 ((es.filter (fun x => !(hitS s1 s2 s3 s4) x)) ++ ([(min s1 s3, max s1 s3), (min s2 s4, max s2 s4)])) ((holds_row (List.Mem.head _)) w hw) (by rw [List.length_append]; rfl) h65 (by exact Nat.le_trans hpl (by decide)) hok9))) (kt3p rfl (fun A2_66 k2_66 c2_66 h_66 => ?_))
                    refine gk (.cons (.tail (.tail (.tail (.tail .head)))) (.cons (.tail (.tail (.tail (.tail .head)))) (.cons (.tail (.tail (.tail (.tail .head)))) (.nil)))) ?_
                    refine wg_one (i := 17) (by kernel_rfl) ?_
                    refine go_late0 rfl rfl rfl rfl (or_store_blk (vs := [.int .i64 (((m : Nat) : Int)), .slice A2_66 ((srtE ((es.filter (fun x => !(hitS s1 s2 s3 s4) x)) ++ ([(min s1 s3, max s1 s3), (min s2 s4, max s2 s4)]))).length) (k2_66)]) (cs' := [.int .i64 (((m : Nat) : Int)), .slice A2_66 ((srtE ((es.filter (fun x => !(hitS s1 s2 s3 s4) x)) ++ ([(min s1 s3, max s1 s3), (min s2 s4, max s2 s4)]))).length) (k2_66)]) (.tail (.tail .head)) tI25 rfl rfl rfl rfl (Nat.le_of_ble_eq_true rfl) rfl) (kn0 ?_)
                    refine wa_done (by kernel_rfl) ?_
                    refine ce_then ?_
                    refine cw_seq ?_
                    refine cw_draw mixO [3] (.cons (.head) (.cons (.head) (.cons (.head) (.cons (.head) (.cons (.head) (.cons (.head) (.cons (.head) (.nil)))))))) rfl ?_
                    refine wg_take (i := 0) rfl (ov_loadAgg (vs := [.int .i64 (((m : Nat) : Int)), .slice A2_66 ((srtE ((es.filter (fun x => !(hitS s1 s2 s3 s4) x)) ++ ([(min s1 s3, max s1 s3), (min s2 s4, max s2 s4)]))).length) (k2_66)]) tI25 (holds_blk (List.Mem.head _)) rfl some_lit rfl rfl) rfl rfl rfl (by kernel_rfl) (by kernel_rfl) (by kernel_rfl) (by kernel_rfl) ?_
                    refine wg_takec (i := 1) [2, 3, 4] rfl (ov_loadAgg (vs := [.int .i64 (((m : Nat) : Int)), .slice A2_66 ((srtE ((es.filter (fun x => !(hitS s1 s2 s3 s4) x)) ++ ([(min s1 s3, max s1 s3), (min s2 s4, max s2 s4)]))).length) (k2_66)]) tI25 (holds_blk (List.Mem.head _)) rfl some_lit rfl rfl) rfl rfl rfl (by kernel_rfl) (by kernel_rfl) (by kernel_rfl) (by kernel_rfl) ?_
                    refine wg_one (i := 2) (by kernel_rfl) ?_
                    refine go_r rfl rfl rfl rfl (or_call (fv := []) (vs := [.agg #[.int .i64 (((m : Nat) : Int)), .slice A2_66 ((srtE ((es.filter (fun x => !(hitS s1 s2 s3 s4) x)) ++ ([(min s1 s3, max s1 s3), (min s2 s4, max s2 s4)]))).length) (k2_66)]]) (cs := []) en12 rfl rfl (call_v (fun w hw => validGraphI_c w ((m : Nat) : Int) A2_66 ((srtE ((es.filter (fun x => !(hitS s1 s2 s3 s4) x)) ++ ([(min s1 s3, max s1 s3), (min s2 s4, max s2 s4)]))).length) k2_66 (srtE ((es.filter (fun x => !(hitS s1 s2 s3 s4) x)) ++ ([(min s1 s3, max s1 s3), (min s2 s4, max s2 s4)]))) ((holds_row (List.Mem.tail _ (List.Mem.head _))) w hw) rfl h_66 (by rw [hEq]; omega) (by omega)))) (kt_if rfl (fun c69 => ?_) (fun c69 => ?_))
                    ·
                      refine gk (.cons (.head) (.cons (.head) (.cons (.head) (.cons (.head) (.cons (.head) (.cons (.head) (.cons (.head) (.nil)))))))) ?_
                      refine wg_one (i := 3) (by kernel_rfl) ?_
                      refine go_late0 rfl rfl rfl rfl (or_store_blk (vs := [.int .i64 (((m : Nat) : Int)), .slice A2_66 ((srtE ((es.filter (fun x => !(hitS s1 s2 s3 s4) x)) ++ ([(min s1 s3, max s1 s3), (min s2 s4, max s2 s4)]))).length) (k2_66)]) (cs' := [.int .i64 (((m : Nat) : Int)), .slice A2_66 ((srtE ((es.filter (fun x => !(hitS s1 s2 s3 s4) x)) ++ ([(min s1 s3, max s1 s3), (min s2 s4, max s2 s4)]))).length) (k2_66)]) (.tail (.tail (.tail (.tail .head)))) tI25 rfl rfl rfl rfl (Nat.le_of_ble_eq_true rfl) rfl) (kn0 ?_)
                      refine wa_r (i := 4) (by kernel_rfl) rfl rfl rfl (OpV.opR (ov_assign rfl)) (kt0 rfl ?_)
                      refine wa_done (by kernel_rfl) ?_
                      refine ce_then ?_
                      refine cw_ret ?_
                      refine ce_results (v := .tuple #[.agg #[.int .i64 (((m : Nat) : Int)), .slice A2_66 ((srtE ((es.filter (fun x => !(hitS s1 s2 s3 s4) x)) ++ ([(min s1 s3, max s1 s3), (min s2 s4, max s2 s4)]))).length) (k2_66)], .bool true]) (res2 rfl (rv_c rfl tI25 rfl (List.Mem.head _)) (rv_t rfl)) (fun w' hw => ?_)
                      exact ⟨A2_66, k2_66, c2_66, (by rw [hv]; show (swE es s1 s2 s3 s4).length ≤ _; rw [← hEq]; exact h_66), (by rw [hv, ← hEq] <;> rfl), ((.consE (show row 65 2 A2_66 ((srtE ((es.filter (fun x => !(hitS s1 s2 s3 s4) x)) ++ ([(min s1 s3, max s1 s3), (min s2 s4, max s2 s4)]))).length) (c2_66) (cells fE (srtE ((es.filter (fun x => !(hitS s1 s2 s3 s4) x)) ++ ([(min s1 s3, max s1 s3), (min s2 s4, max s2 s4)])))) = row 65 2 A2_66 ((swV ((m : Nat) : Int) es s1 s2 s3 s4).2.1.length) (c2_66) (cells fE ((swV ((m : Nat) : Int) es s1 s2 s3 s4).2.1)) by rw [hv, ← hEq] <;> rfl) (.tail (.tail .head)) (.nil) : Keep _ _).ss hw).to_new⟩
                    ·
                      exact absurd (by rw [hEq]; exact hG.valid hm) c69
                ·
                  refine go_r rfl rfl rfl rfl (or_alloc tI25 rfl) (kt1 rfl (fun g7 => ?_))
                  refine gk (.cons (.tail (.tail .head)) (.cons (.tail (.tail .head)) (.cons (.tail (.tail .head)) (.nil)))) ?_
                  refine wg_one (i := 13) (by kernel_rfl) ?_
                  refine go_r rfl rfl rfl rfl (or_buildSlice (e := 65) (size := 2) (is := [0, 1]) (vs := [.agg #[.int .i64 (min s1 s3), .int .i64 (max s1 s3)], .agg #[.int .i64 (min s2 s4), .int .i64 (max s2 s4)]]) (cs := cells fE ([(min s1 s3, max s1 s3), (min s2 s4, max s2 s4)])) rfl rfl rfl (by decide) (fun _ => by kernel_rfl)) (kt1 rfl (fun g64 => ?_))
                  refine gk (.cons (.tail (.tail (.tail .head))) (.cons (.tail (.tail (.tail .head))) (.cons (.tail (.tail (.tail .head))) (.nil)))) ?_
                  refine wg_one (i := 14) (by kernel_rfl) ?_
                  refine go_r rfl rfl rfl rfl (or_append (c2 := 2) sI23 tI65 rfl (by decide) rfl rfl (.tail (.tail .head)) (holds_row (List.Mem.head _)) (by rw [cells_length fE_len]; try simp) (one_cells fE_one _) cells_append (by omega) (by omega)) (kt2p rfl (fun A65 c65 h65 => ?_))
                  refine gk (.cons (.tail (.tail (.tail .head))) (.cons (.tail (.tail (.tail .head))) (.cons (.tail (.tail (.tail .head))) (.nil)))) ?_
                  refine wg_one (i := 15) (by kernel_rfl) ?_
                  refine go_r rfl rfl rfl rfl (or_call (fv := []) (vs := [.int .i64 (((m : Nat) : Int)), .slice A65 (((es.filter (fun x => !(hitS s1 s2 s3 s4) x)).length) + 2) (c65)]) (cs := []) en62 rfl rfl (call_x3 (fun w hw => made_c w ((m : Nat) : Int) A65 (((es.filter (fun x => !(hitS s1 s2 s3 s4) x)).length) + 2) c65 ((es.filter (fun x => !(hitS s1 s2 s3 s4) x)) ++ ([(min s1 s3, max s1 s3), (min s2 s4, max s2 s4)])) ((holds_row (List.Mem.head _)) w hw) (by rw [List.length_append]; rfl) h65 (by exact Nat.le_trans hpl (by decide)) hok9))) (kt3p rfl (fun A2_66 k2_66 c2_66 h_66 => ?_))
                  refine gk (.cons (.tail (.tail (.tail (.tail .head)))) (.cons (.tail (.tail (.tail (.tail .head)))) (.cons (.tail (.tail (.tail (.tail .head)))) (.nil)))) ?_
                  refine wg_one (i := 17) (by kernel_rfl) ?_
                  refine go_late0 rfl rfl rfl rfl (or_store_blk (vs := [.int .i64 (((m : Nat) : Int)), .slice A2_66 ((srtE ((es.filter (fun x => !(hitS s1 s2 s3 s4) x)) ++ ([(min s1 s3, max s1 s3), (min s2 s4, max s2 s4)]))).length) (k2_66)]) (cs' := [.int .i64 (((m : Nat) : Int)), .slice A2_66 ((srtE ((es.filter (fun x => !(hitS s1 s2 s3 s4) x)) ++ ([(min s1 s3, max s1 s3), (min s2 s4, max s2 s4)]))).length) (k2_66)]) (.tail (.tail (.tail .head))) tI25 rfl rfl rfl rfl (Nat.le_of_ble_eq_true rfl) rfl) (kn0 ?_)
                  refine wa_done (by kernel_rfl) ?_
                  refine ce_then ?_
                  refine cw_seq ?_
                  refine cw_draw mixO [3] (.cons (.head) (.cons (.head) (.cons (.head) (.cons (.head) (.cons (.head) (.cons (.head) (.cons (.head) (.nil)))))))) rfl ?_
                  refine wg_take (i := 0) rfl (ov_loadAgg (vs := [.int .i64 (((m : Nat) : Int)), .slice A2_66 ((srtE ((es.filter (fun x => !(hitS s1 s2 s3 s4) x)) ++ ([(min s1 s3, max s1 s3), (min s2 s4, max s2 s4)]))).length) (k2_66)]) tI25 (holds_blk (List.Mem.head _)) rfl some_lit rfl rfl) rfl rfl rfl (by kernel_rfl) (by kernel_rfl) (by kernel_rfl) (by kernel_rfl) ?_
                  refine wg_takec (i := 1) [2, 3, 4] rfl (ov_loadAgg (vs := [.int .i64 (((m : Nat) : Int)), .slice A2_66 ((srtE ((es.filter (fun x => !(hitS s1 s2 s3 s4) x)) ++ ([(min s1 s3, max s1 s3), (min s2 s4, max s2 s4)]))).length) (k2_66)]) tI25 (holds_blk (List.Mem.head _)) rfl some_lit rfl rfl) rfl rfl rfl (by kernel_rfl) (by kernel_rfl) (by kernel_rfl) (by kernel_rfl) ?_
                  refine wg_one (i := 2) (by kernel_rfl) ?_
                  refine go_r rfl rfl rfl rfl (or_call (fv := []) (vs := [.agg #[.int .i64 (((m : Nat) : Int)), .slice A2_66 ((srtE ((es.filter (fun x => !(hitS s1 s2 s3 s4) x)) ++ ([(min s1 s3, max s1 s3), (min s2 s4, max s2 s4)]))).length) (k2_66)]]) (cs := []) en12 rfl rfl (call_v (fun w hw => validGraphI_c w ((m : Nat) : Int) A2_66 ((srtE ((es.filter (fun x => !(hitS s1 s2 s3 s4) x)) ++ ([(min s1 s3, max s1 s3), (min s2 s4, max s2 s4)]))).length) k2_66 (srtE ((es.filter (fun x => !(hitS s1 s2 s3 s4) x)) ++ ([(min s1 s3, max s1 s3), (min s2 s4, max s2 s4)]))) ((holds_row (List.Mem.tail _ (List.Mem.head _))) w hw) rfl h_66 (by rw [hEq]; omega) (by omega)))) (kt_if rfl (fun c69 => ?_) (fun c69 => ?_))
                  ·
                    refine gk (.cons (.head) (.cons (.head) (.cons (.head) (.cons (.head) (.cons (.head) (.cons (.head) (.cons (.head) (.nil)))))))) ?_
                    refine wg_one (i := 3) (by kernel_rfl) ?_
                    refine go_late0 rfl rfl rfl rfl (or_store_blk (vs := [.int .i64 (((m : Nat) : Int)), .slice A2_66 ((srtE ((es.filter (fun x => !(hitS s1 s2 s3 s4) x)) ++ ([(min s1 s3, max s1 s3), (min s2 s4, max s2 s4)]))).length) (k2_66)]) (cs' := [.int .i64 (((m : Nat) : Int)), .slice A2_66 ((srtE ((es.filter (fun x => !(hitS s1 s2 s3 s4) x)) ++ ([(min s1 s3, max s1 s3), (min s2 s4, max s2 s4)]))).length) (k2_66)]) (.tail (.tail (.tail (.tail .head)))) tI25 rfl rfl rfl rfl (Nat.le_of_ble_eq_true rfl) rfl) (kn0 ?_)
                    refine wa_r (i := 4) (by kernel_rfl) rfl rfl rfl (OpV.opR (ov_assign rfl)) (kt0 rfl ?_)
                    refine wa_done (by kernel_rfl) ?_
                    refine ce_then ?_
                    refine cw_ret ?_
                    refine ce_results (v := .tuple #[.agg #[.int .i64 (((m : Nat) : Int)), .slice A2_66 ((srtE ((es.filter (fun x => !(hitS s1 s2 s3 s4) x)) ++ ([(min s1 s3, max s1 s3), (min s2 s4, max s2 s4)]))).length) (k2_66)], .bool true]) (res2 rfl (rv_c rfl tI25 rfl (List.Mem.head _)) (rv_t rfl)) (fun w' hw => ?_)
                    exact ⟨A2_66, k2_66, c2_66, (by rw [hv]; show (swE es s1 s2 s3 s4).length ≤ _; rw [← hEq]; exact h_66), (by rw [hv, ← hEq] <;> rfl), ((.consE (show row 65 2 A2_66 ((srtE ((es.filter (fun x => !(hitS s1 s2 s3 s4) x)) ++ ([(min s1 s3, max s1 s3), (min s2 s4, max s2 s4)]))).length) (c2_66) (cells fE (srtE ((es.filter (fun x => !(hitS s1 s2 s3 s4) x)) ++ ([(min s1 s3, max s1 s3), (min s2 s4, max s2 s4)])))) = row 65 2 A2_66 ((swV ((m : Nat) : Int) es s1 s2 s3 s4).2.1.length) (c2_66) (cells fE ((swV ((m : Nat) : Int) es s1 s2 s3 s4).2.1)) by rw [hv, ← hEq] <;> rfl) (.tail (.tail .head)) (.nil) : Keep _ _).ss hw).to_new⟩
                  ·
                    exact absurd (by rw [hEq]; exact hG.valid hm) c69
              ·
                refine go_r rfl rfl rfl rfl (or_alloc tI25 rfl) (kt1 rfl (fun g7 => ?_))
                refine gk (.cons (.tail (.tail .head)) (.cons (.tail (.tail .head)) (.cons (.tail (.tail .head)) (.nil)))) ?_
                refine wg_one (i := 12) (by kernel_rfl) ?_
                refine go_r rfl rfl rfl rfl (or_call (fv := []) (vs := [.int .i64 (s2), .int .i64 (s4)]) (cs := []) en34 rfl rfl (call_v (fun w hw => edge_c w s2 s4 ))) (kt0 rfl ?_)
                refine gk (.cons (.tail (.tail .head)) (.cons (.tail (.tail .head)) (.cons (.tail (.tail .head)) (.nil)))) ?_
                refine wg_one (i := 13) (by kernel_rfl) ?_
                refine go_r rfl rfl rfl rfl (or_buildSlice (e := 65) (size := 2) (is := [0, 1]) (vs := [.agg #[.int .i64 (min s1 s3), .int .i64 (max s1 s3)], .agg #[.int .i64 (min s2 s4), .int .i64 (max s2 s4)]]) (cs := cells fE ([(min s1 s3, max s1 s3), (min s2 s4, max s2 s4)])) rfl rfl rfl (by decide) (fun _ => by kernel_rfl)) (kt1 rfl (fun g64 => ?_))
                refine gk (.cons (.tail (.tail (.tail .head))) (.cons (.tail (.tail (.tail .head))) (.cons (.tail (.tail (.tail .head))) (.nil)))) ?_
                refine wg_one (i := 14) (by kernel_rfl) ?_
                refine go_r rfl rfl rfl rfl (or_append (c2 := 2) sI23 tI65 rfl (by decide) rfl rfl (.tail (.tail .head)) (holds_row (List.Mem.head _)) (by rw [cells_length fE_len]; try simp) (one_cells fE_one _) cells_append (by omega) (by omega)) (kt2p rfl (fun A65 c65 h65 => ?_))
                refine gk (.cons (.tail (.tail (.tail .head))) (.cons (.tail (.tail (.tail .head))) (.cons (.tail (.tail (.tail .head))) (.nil)))) ?_
                refine wg_one (i := 15) (by kernel_rfl) ?_
                refine go_r rfl rfl rfl rfl (or_call (fv := []) (vs := [.int .i64 (((m : Nat) : Int)), .slice A65 (((es.filter (fun x => !(hitS s1 s2 s3 s4) x)).length) + 2) (c65)]) (cs := []) en62 rfl rfl (call_x3 (fun w hw => made_c w ((m : Nat) : Int) A65 (((es.filter (fun x => !(hitS s1 s2 s3 s4) x)).length) + 2) c65 ((es.filter (fun x => !(hitS s1 s2 s3 s4) x)) ++ ([(min s1 s3, max s1 s3), (min s2 s4, max s2 s4)])) ((holds_row (List.Mem.head _)) w hw) (by rw [List.length_append]; rfl) h65 (by exact Nat.le_trans hpl (by decide)) hok9))) (kt3p rfl (fun A2_66 k2_66 c2_66 h_66 => ?_))
                refine gk (.cons (.tail (.tail (.tail (.tail .head)))) (.cons (.tail (.tail (.tail (.tail .head)))) (.cons (.tail (.tail (.tail (.tail .head)))) (.nil)))) ?_
                refine wg_one (i := 17) (by kernel_rfl) ?_
                refine go_late0 rfl rfl rfl rfl (or_store_blk (vs := [.int .i64 (((m : Nat) : Int)), .slice A2_66 ((srtE ((es.filter (fun x => !(hitS s1 s2 s3 s4) x)) ++ ([(min s1 s3, max s1 s3), (min s2 s4, max s2 s4)]))).length) (k2_66)]) (cs' := [.int .i64 (((m : Nat) : Int)), .slice A2_66 ((srtE ((es.filter (fun x => !(hitS s1 s2 s3 s4) x)) ++ ([(min s1 s3, max s1 s3), (min s2 s4, max s2 s4)]))).length) (k2_66)]) (.tail (.tail (.tail .head))) tI25 rfl rfl rfl rfl (Nat.le_of_ble_eq_true rfl) rfl) (kn0 ?_)
                refine wa_done (by kernel_rfl) ?_
                refine ce_then ?_
                refine cw_seq ?_
                refine cw_draw mixO [3] (.cons (.head) (.cons (.head) (.cons (.head) (.cons (.head) (.cons (.head) (.cons (.head) (.cons (.head) (.nil)))))))) rfl ?_
                refine wg_take (i := 0) rfl (ov_loadAgg (vs := [.int .i64 (((m : Nat) : Int)), .slice A2_66 ((srtE ((es.filter (fun x => !(hitS s1 s2 s3 s4) x)) ++ ([(min s1 s3, max s1 s3), (min s2 s4, max s2 s4)]))).length) (k2_66)]) tI25 (holds_blk (List.Mem.head _)) rfl some_lit rfl rfl) rfl rfl rfl (by kernel_rfl) (by kernel_rfl) (by kernel_rfl) (by kernel_rfl) ?_
                refine wg_takec (i := 1) [2, 3, 4] rfl (ov_loadAgg (vs := [.int .i64 (((m : Nat) : Int)), .slice A2_66 ((srtE ((es.filter (fun x => !(hitS s1 s2 s3 s4) x)) ++ ([(min s1 s3, max s1 s3), (min s2 s4, max s2 s4)]))).length) (k2_66)]) tI25 (holds_blk (List.Mem.head _)) rfl some_lit rfl rfl) rfl rfl rfl (by kernel_rfl) (by kernel_rfl) (by kernel_rfl) (by kernel_rfl) ?_
                refine wg_one (i := 2) (by kernel_rfl) ?_
                refine go_r rfl rfl rfl rfl (or_call (fv := []) (vs := [.agg #[.int .i64 (((m : Nat) : Int)), .slice A2_66 ((srtE ((es.filter (fun x => !(hitS s1 s2 s3 s4) x)) ++ ([(min s1 s3, max s1 s3), (min s2 s4, max s2 s4)]))).length) (k2_66)]]) (cs := []) en12 rfl rfl (call_v (fun w hw => validGraphI_c w ((m : Nat) : Int) A2_66 ((srtE ((es.filter (fun x => !(hitS s1 s2 s3 s4) x)) ++ ([(min s1 s3, max s1 s3), (min s2 s4, max s2 s4)]))).length) k2_66 (srtE ((es.filter (fun x => !(hitS s1 s2 s3 s4) x)) ++ ([(min s1 s3, max s1 s3), (min s2 s4, max s2 s4)]))) ((holds_row (List.Mem.tail _ (List.Mem.head _))) w hw) rfl h_66 (by rw [hEq]; omega) (by omega)))) (kt_if rfl (fun c69 => ?_) (fun c69 => ?_))
                ·
                  refine gk (.cons (.head) (.cons (.head) (.cons (.head) (.cons (.head) (.cons (.head) (.cons (.head) (.cons (.head) (.nil)))))))) ?_
                  refine wg_one (i := 3) (by kernel_rfl) ?_
                  refine go_late0 rfl rfl rfl rfl (or_store_blk (vs := [.int .i64 (((m : Nat) : Int)), .slice A2_66 ((srtE ((es.filter (fun x => !(hitS s1 s2 s3 s4) x)) ++ ([(min s1 s3, max s1 s3), (min s2 s4, max s2 s4)]))).length) (k2_66)]) (cs' := [.int .i64 (((m : Nat) : Int)), .slice A2_66 ((srtE ((es.filter (fun x => !(hitS s1 s2 s3 s4) x)) ++ ([(min s1 s3, max s1 s3), (min s2 s4, max s2 s4)]))).length) (k2_66)]) (.tail (.tail (.tail (.tail .head)))) tI25 rfl rfl rfl rfl (Nat.le_of_ble_eq_true rfl) rfl) (kn0 ?_)
                  refine wa_r (i := 4) (by kernel_rfl) rfl rfl rfl (OpV.opR (ov_assign rfl)) (kt0 rfl ?_)
                  refine wa_done (by kernel_rfl) ?_
                  refine ce_then ?_
                  refine cw_ret ?_
                  refine ce_results (v := .tuple #[.agg #[.int .i64 (((m : Nat) : Int)), .slice A2_66 ((srtE ((es.filter (fun x => !(hitS s1 s2 s3 s4) x)) ++ ([(min s1 s3, max s1 s3), (min s2 s4, max s2 s4)]))).length) (k2_66)], .bool true]) (res2 rfl (rv_c rfl tI25 rfl (List.Mem.head _)) (rv_t rfl)) (fun w' hw => ?_)
                  exact ⟨A2_66, k2_66, c2_66, (by rw [hv]; show (swE es s1 s2 s3 s4).length ≤ _; rw [← hEq]; exact h_66), (by rw [hv, ← hEq] <;> rfl), ((.consE (show row 65 2 A2_66 ((srtE ((es.filter (fun x => !(hitS s1 s2 s3 s4) x)) ++ ([(min s1 s3, max s1 s3), (min s2 s4, max s2 s4)]))).length) (c2_66) (cells fE (srtE ((es.filter (fun x => !(hitS s1 s2 s3 s4) x)) ++ ([(min s1 s3, max s1 s3), (min s2 s4, max s2 s4)])))) = row 65 2 A2_66 ((swV ((m : Nat) : Int) es s1 s2 s3 s4).2.1.length) (c2_66) (cells fE ((swV ((m : Nat) : Int) es s1 s2 s3 s4).2.1)) by rw [hv, ← hEq] <;> rfl) (.tail (.tail .head)) (.nil) : Keep _ _).ss hw).to_new⟩
                ·
                  exact absurd (by rw [hEq]; exact hG.valid hm) c69
            ·
              refine go_r rfl rfl rfl rfl (or_alloc tI25 rfl) (kt1 rfl (fun g7 => ?_))
              refine gk (.cons (.tail (.tail .head)) (.cons (.tail (.tail .head)) (.cons (.tail (.tail .head)) (.nil)))) ?_
              refine wg_one (i := 7) (by kernel_rfl) ?_
              refine go_r rfl rfl rfl rfl (or_call (fv := []) (vs := [.int .i64 (s1), .int .i64 (s3)]) (cs := []) en34 rfl rfl (call_v (fun w hw => edge_c w s1 s3 ))) (kt0 rfl ?_)
              refine gk (.cons (.tail (.tail .head)) (.cons (.tail (.tail .head)) (.cons (.tail (.tail .head)) (.nil)))) ?_
              refine wg_one (i := 12) (by kernel_rfl) ?_
              refine go_r rfl rfl rfl rfl (or_call (fv := []) (vs := [.int .i64 (s2), .int .i64 (s4)]) (cs := []) en34 rfl rfl (call_v (fun w hw => edge_c w s2 s4 ))) (kt0 rfl ?_)
              refine gk (.cons (.tail (.tail .head)) (.cons (.tail (.tail .head)) (.cons (.tail (.tail .head)) (.nil)))) ?_
              refine wg_one (i := 13) (by kernel_rfl) ?_
              refine go_r rfl rfl rfl rfl (or_buildSlice (e := 65) (size := 2) (is := [0, 1]) (vs := [.agg #[.int .i64 (min s1 s3), .int .i64 (max s1 s3)], .agg #[.int .i64 (min s2 s4), .int .i64 (max s2 s4)]]) (cs := cells fE ([(min s1 s3, max s1 s3), (min s2 s4, max s2 s4)])) rfl rfl rfl (by decide) (fun _ => by kernel_rfl)) (kt1 rfl (fun g64 => ?_))
              refine gk (.cons (.tail (.tail (.tail .head))) (.cons (.tail (.tail (.tail .head))) (.cons (.tail (.tail (.tail .head))) (.nil)))) ?_
              refine wg_one (i := 14) (by kernel_rfl) ?_
              refine go_r rfl rfl rfl rfl (or_append (c2 := 2) sI23 tI65 rfl (by decide) rfl rfl (.tail (.tail .head)) (holds_row (List.Mem.head _)) (by rw [cells_length fE_len]; try simp) (one_cells fE_one _) cells_append (by omega) (by omega)) (kt2p rfl (fun A65 c65 h65 => ?_))
              refine gk (.cons (.tail (.tail (.tail .head))) (.cons (.tail (.tail (.tail .head))) (.cons (.tail (.tail (.tail .head))) (.nil)))) ?_
              refine wg_one (i := 15) (by kernel_rfl) ?_
              refine go_r rfl rfl rfl rfl (or_call (fv := []) (vs := [.int .i64 (((m : Nat) : Int)), .slice A65 (((es.filter (fun x => !(hitS s1 s2 s3 s4) x)).length) + 2) (c65)]) (cs := []) en62 rfl rfl (call_x3 (fun w hw => made_c w ((m : Nat) : Int) A65 (((es.filter (fun x => !(hitS s1 s2 s3 s4) x)).length) + 2) c65 ((es.filter (fun x => !(hitS s1 s2 s3 s4) x)) ++ ([(min s1 s3, max s1 s3), (min s2 s4, max s2 s4)])) ((holds_row (List.Mem.head _)) w hw) (by rw [List.length_append]; rfl) h65 (by exact Nat.le_trans hpl (by decide)) hok9))) (kt3p rfl (fun A2_66 k2_66 c2_66 h_66 => ?_))
              refine gk (.cons (.tail (.tail (.tail (.tail .head)))) (.cons (.tail (.tail (.tail (.tail .head)))) (.cons (.tail (.tail (.tail (.tail .head)))) (.nil)))) ?_
              refine wg_one (i := 17) (by kernel_rfl) ?_
              refine go_late0 rfl rfl rfl rfl (or_store_blk (vs := [.int .i64 (((m : Nat) : Int)), .slice A2_66 ((srtE ((es.filter (fun x => !(hitS s1 s2 s3 s4) x)) ++ ([(min s1 s3, max s1 s3), (min s2 s4, max s2 s4)]))).length) (k2_66)]) (cs' := [.int .i64 (((m : Nat) : Int)), .slice A2_66 ((srtE ((es.filter (fun x => !(hitS s1 s2 s3 s4) x)) ++ ([(min s1 s3, max s1 s3), (min s2 s4, max s2 s4)]))).length) (k2_66)]) (.tail (.tail (.tail .head))) tI25 rfl rfl rfl rfl (Nat.le_of_ble_eq_true rfl) rfl) (kn0 ?_)
              refine wa_done (by kernel_rfl) ?_
              refine ce_then ?_
              refine cw_seq ?_
              refine cw_draw mixO [3] (.cons (.head) (.cons (.head) (.cons (.head) (.cons (.head) (.cons (.head) (.cons (.head) (.cons (.head) (.nil)))))))) rfl ?_
              refine wg_take (i := 0) rfl (ov_loadAgg (vs := [.int .i64 (((m : Nat) : Int)), .slice A2_66 ((srtE ((es.filter (fun x => !(hitS s1 s2 s3 s4) x)) ++ ([(min s1 s3, max s1 s3), (min s2 s4, max s2 s4)]))).length) (k2_66)]) tI25 (holds_blk (List.Mem.head _)) rfl some_lit rfl rfl) rfl rfl rfl (by kernel_rfl) (by kernel_rfl) (by kernel_rfl) (by kernel_rfl) ?_
              refine wg_takec (i := 1) [2, 3, 4] rfl (ov_loadAgg (vs := [.int .i64 (((m : Nat) : Int)), .slice A2_66 ((srtE ((es.filter (fun x => !(hitS s1 s2 s3 s4) x)) ++ ([(min s1 s3, max s1 s3), (min s2 s4, max s2 s4)]))).length) (k2_66)]) tI25 (holds_blk (List.Mem.head _)) rfl some_lit rfl rfl) rfl rfl rfl (by kernel_rfl) (by kernel_rfl) (by kernel_rfl) (by kernel_rfl) ?_
              refine wg_one (i := 2) (by kernel_rfl) ?_
              refine go_r rfl rfl rfl rfl (or_call (fv := []) (vs := [.agg #[.int .i64 (((m : Nat) : Int)), .slice A2_66 ((srtE ((es.filter (fun x => !(hitS s1 s2 s3 s4) x)) ++ ([(min s1 s3, max s1 s3), (min s2 s4, max s2 s4)]))).length) (k2_66)]]) (cs := []) en12 rfl rfl (call_v (fun w hw => validGraphI_c w ((m : Nat) : Int) A2_66 ((srtE ((es.filter (fun x => !(hitS s1 s2 s3 s4) x)) ++ ([(min s1 s3, max s1 s3), (min s2 s4, max s2 s4)]))).length) k2_66 (srtE ((es.filter (fun x => !(hitS s1 s2 s3 s4) x)) ++ ([(min s1 s3, max s1 s3), (min s2 s4, max s2 s4)]))) ((holds_row (List.Mem.tail _ (List.Mem.head _))) w hw) rfl h_66 (by rw [hEq]; omega) (by omega)))) (kt_if rfl (fun c69 => ?_) (fun c69 => ?_))
              ·
                refine gk (.cons (.head) (.cons (.head) (.cons (.head) (.cons (.head) (.cons (.head) (.cons (.head) (.cons (.head) (.nil)))))))) ?_
                refine wg_one (i := 3) (by kernel_rfl) ?_
                refine go_late0 rfl rfl rfl rfl (or_store_blk (vs := [.int .i64 (((m : Nat) : Int)), .slice A2_66 ((srtE ((es.filter (fun x => !(hitS s1 s2 s3 s4) x)) ++ ([(min s1 s3, max s1 s3), (min s2 s4, max s2 s4)]))).length) (k2_66)]) (cs' := [.int .i64 (((m : Nat) : Int)), .slice A2_66 ((srtE ((es.filter (fun x => !(hitS s1 s2 s3 s4) x)) ++ ([(min s1 s3, max s1 s3), (min s2 s4, max s2 s4)]))).length) (k2_66)]) (.tail (.tail (.tail (.tail .head)))) tI25 rfl rfl rfl rfl (Nat.le_of_ble_eq_true rfl) rfl) (kn0 ?_)
                refine wa_r (i := 4) (by kernel_rfl) rfl rfl rfl (OpV.opR (ov_assign rfl)) (kt0 rfl ?_)
                refine wa_done (by kernel_rfl) ?_
                refine ce_then ?_
                refine cw_ret ?_
                refine ce_results (v := .tuple #[.agg #[.int .i64 (((m : Nat) : Int)), .slice A2_66 ((srtE ((es.filter (fun x => !(hitS s1 s2 s3 s4) x)) ++ ([(min s1 s3, max s1 s3), (min s2 s4, max s2 s4)]))).length) (k2_66)], .bool true]) (res2 rfl (rv_c rfl tI25 rfl (List.Mem.head _)) (rv_t rfl)) (fun w' hw => ?_)
                exact ⟨A2_66, k2_66, c2_66, (by rw [hv]; show (swE es s1 s2 s3 s4).length ≤ _; rw [← hEq]; exact h_66), (by rw [hv, ← hEq] <;> rfl), ((.consE (show row 65 2 A2_66 ((srtE ((es.filter (fun x => !(hitS s1 s2 s3 s4) x)) ++ ([(min s1 s3, max s1 s3), (min s2 s4, max s2 s4)]))).length) (c2_66) (cells fE (srtE ((es.filter (fun x => !(hitS s1 s2 s3 s4) x)) ++ ([(min s1 s3, max s1 s3), (min s2 s4, max s2 s4)])))) = row 65 2 A2_66 ((swV ((m : Nat) : Int) es s1 s2 s3 s4).2.1.length) (c2_66) (cells fE ((swV ((m : Nat) : Int) es s1 s2 s3 s4).2.1)) by rw [hv, ← hEq] <;> rfl) (.tail (.tail .head)) (.nil) : Keep _ _).ss hw).to_new⟩
              ·
                exact absurd (by rw [hEq]; exact hG.valid hm) c69
      ·
        refine wl_go rfl rfl ?_
        refine wl_v (ov_not rfl) rfl rfl rfl ?_
        refine wl_v (ov_pick_f rfl rfl) rfl rfl rfl ?_
        refine wl_v (ov_move rfl) rfl rfl rfl ?_
        refine wl_not rfl rfl rfl rfl rfl rfl ?_
        refine wl_not rfl rfl rfl rfl rfl rfl ?_
        refine wl_not rfl rfl rfl rfl rfl rfl ?_
        refine wl_not rfl rfl rfl rfl rfl rfl ?_
        refine wl_not rfl rfl rfl rfl rfl rfl ?_
        refine wl_not rfl rfl rfl rfl rfl rfl ?_
        refine wl_v (ov_pick_t rfl rfl) rfl rfl rfl ?_
        refine wl_v (ov_move rfl) rfl rfl rfl ?_
        refine wl_not rfl rfl rfl rfl rfl rfl ?_
        refine wl_not rfl rfl rfl rfl rfl rfl ?_
        refine wl_not rfl rfl rfl rfl rfl rfl ?_
        refine wl_not rfl rfl rfl rfl rfl rfl ?_
        refine wl_not rfl rfl rfl rfl rfl rfl ?_
        refine wl_not rfl rfl rfl rfl rfl rfl ?_
        refine wl_v (ov_pick_t rfl rfl) rfl rfl rfl ?_
        refine wl_nil ?_
        refine ce_then ?_
        refine cw_true rfl ?_
        refine cw_seq ?_
        have hv : swV ((m : Nat) : Int) es s1 s2 s3 s4 = (0, [], false) := if_neg (fun h => c26 h.2.2.2.2.2.2.1)
        refine ct_none fE 65 2 ?_
        refine cw_region ?_
        refine wl_v (ov_build (is := []) (vs := []) (v := .agg #[.int .i64 (0), .slice none (0) (0)]) rfl rfl (fun _ => by kernel_rfl)) rfl rfl rfl ?_
        refine wl_r0 (or_store_blk (vs := [.int .i64 (0), .slice none (0) (0)]) (cs' := [.int .i64 (0), .slice none (0) (0)]) (.tail .head) tI25 rfl rfl rfl rfl (Nat.le_of_ble_eq_true rfl) rfl) rfl rfl (kn0 ?_)
        refine wl_v (ov_assign rfl) rfl rfl rfl ?_
        refine wl_nil ?_
        refine ce_then ?_
        refine cw_ret ?_
        refine ce_then_ret ?_
        refine ce_results (v := .tuple #[.agg #[.int .i64 (0), .slice none (0) (0)], .bool false]) (res2 rfl (rv_c rfl tI25 rfl (List.Mem.head _)) (rv_t rfl)) (fun w' hw => ?_)
        exact ⟨none, 0, 0, (by rw [hv]; exact Nat.le_refl _), (by rw [hv] <;> rfl), ((.consE (show row 65 2 none (0) (0) (cells fE ([])) = row 65 2 none ((swV ((m : Nat) : Int) es s1 s2 s3 s4).2.1.length) (0) (cells fE ((swV ((m : Nat) : Int) es s1 s2 s3 s4).2.1)) by rw [hv] <;> rfl) (.tail .head) (.nil) : Keep _ _).ss hw).to_new⟩
    ·
      refine wl_go rfl rfl ?_
      refine wl_v (ov_not rfl) rfl rfl rfl ?_
      refine wl_v (ov_pick_f rfl rfl) rfl rfl rfl ?_
      refine wl_v (ov_move rfl) rfl rfl rfl ?_
      refine wl_not rfl rfl rfl rfl rfl rfl ?_
      refine wl_not rfl rfl rfl rfl rfl rfl ?_
      refine wl_not rfl rfl rfl rfl rfl rfl ?_
      refine wl_not rfl rfl rfl rfl rfl rfl ?_
      refine wl_not rfl rfl rfl rfl rfl rfl ?_
      refine wl_not rfl rfl rfl rfl rfl rfl ?_
      refine wl_not rfl rfl rfl rfl rfl rfl ?_
      refine wl_v (ov_pick_t rfl rfl) rfl rfl rfl ?_
      refine wl_v (ov_move rfl) rfl rfl rfl ?_
      refine wl_not rfl rfl rfl rfl rfl rfl ?_
      refine wl_not rfl rfl rfl rfl rfl rfl ?_
      refine wl_not rfl rfl rfl rfl rfl rfl ?_
      refine wl_not rfl rfl rfl rfl rfl rfl ?_
      refine wl_not rfl rfl rfl rfl rfl rfl ?_
      refine wl_not rfl rfl rfl rfl rfl rfl ?_
      refine wl_v (ov_pick_t rfl rfl) rfl rfl rfl ?_
      refine wl_v (ov_move rfl) rfl rfl rfl ?_
      refine wl_not rfl rfl rfl rfl rfl rfl ?_
      refine wl_not rfl rfl rfl rfl rfl rfl ?_
      refine wl_not rfl rfl rfl rfl rfl rfl ?_
      refine wl_not rfl rfl rfl rfl rfl rfl ?_
      refine wl_not rfl rfl rfl rfl rfl rfl ?_
      refine wl_not rfl rfl rfl rfl rfl rfl ?_
      refine wl_v (ov_pick_t rfl rfl) rfl rfl rfl ?_
      refine wl_nil ?_
      refine ce_then ?_
      refine cw_true rfl ?_
      refine cw_seq ?_
      have hv : swV ((m : Nat) : Int) es s1 s2 s3 s4 = (0, [], false) := if_neg (fun h => c17 h.2.2.2.2.2.1)
      refine ct_none fE 65 2 ?_
      refine cw_region ?_
      refine wl_v (ov_build (is := []) (vs := []) (v := .agg #[.int .i64 (0), .slice none (0) (0)]) rfl rfl (fun _ => by kernel_rfl)) rfl rfl rfl ?_
      refine wl_r0 (or_store_blk (vs := [.int .i64 (0), .slice none (0) (0)]) (cs' := [.int .i64 (0), .slice none (0) (0)]) (.tail .head) tI25 rfl rfl rfl rfl (Nat.le_of_ble_eq_true rfl) rfl) rfl rfl (kn0 ?_)
      refine wl_v (ov_assign rfl) rfl rfl rfl ?_
      refine wl_nil ?_
      refine ce_then ?_
      refine cw_ret ?_
      refine ce_then_ret ?_
      refine ce_results (v := .tuple #[.agg #[.int .i64 (0), .slice none (0) (0)], .bool false]) (res2 rfl (rv_c rfl tI25 rfl (List.Mem.head _)) (rv_t rfl)) (fun w' hw => ?_)
      exact ⟨none, 0, 0, (by rw [hv]; exact Nat.le_refl _), (by rw [hv] <;> rfl), ((.consE (show row 65 2 none (0) (0) (cells fE ([])) = row 65 2 none ((swV ((m : Nat) : Int) es s1 s2 s3 s4).2.1.length) (0) (cells fE ((swV ((m : Nat) : Int) es s1 s2 s3 s4).2.1)) by rw [hv] <;> rfl) (.tail .head) (.nil) : Keep _ _).ss hw).to_new⟩
  ·
    refine wl_v (ov_not rfl) rfl rfl rfl ?_
    refine wl_v (ov_move rfl) rfl rfl rfl ?_
    refine wl_not rfl rfl rfl rfl rfl rfl ?_
    refine wl_not rfl rfl rfl rfl rfl rfl ?_
    refine wl_not rfl rfl rfl rfl rfl rfl ?_
    refine wl_not rfl rfl rfl rfl rfl rfl ?_
    refine wl_not rfl rfl rfl rfl rfl rfl ?_
    refine wl_not rfl rfl rfl rfl rfl rfl ?_
    refine wl_not rfl rfl rfl rfl rfl rfl ?_
    refine wl_v (ov_pick_t rfl rfl) rfl rfl rfl ?_
    refine wl_v (ov_move rfl) rfl rfl rfl ?_
    refine wl_not rfl rfl rfl rfl rfl rfl ?_
    refine wl_not rfl rfl rfl rfl rfl rfl ?_
    refine wl_not rfl rfl rfl rfl rfl rfl ?_
    refine wl_not rfl rfl rfl rfl rfl rfl ?_
    refine wl_not rfl rfl rfl rfl rfl rfl ?_
    refine wl_not rfl rfl rfl rfl rfl rfl ?_
    refine wl_not rfl rfl rfl rfl rfl rfl ?_
    refine wl_v (ov_pick_t rfl rfl) rfl rfl rfl ?_
    refine wl_v (ov_move rfl) rfl rfl rfl ?_
    refine wl_not rfl rfl rfl rfl rfl rfl ?_
    refine wl_not rfl rfl rfl rfl rfl rfl ?_
    refine wl_not rfl rfl rfl rfl rfl rfl ?_
    refine wl_not rfl rfl rfl rfl rfl rfl ?_
    refine wl_not rfl rfl rfl rfl rfl rfl ?_
    refine wl_not rfl rfl rfl rfl rfl rfl ?_
    refine wl_v (ov_pick_t rfl rfl) rfl rfl rfl ?_
    refine wl_v (ov_move rfl) rfl rfl rfl ?_
    refine wl_not rfl rfl rfl rfl rfl rfl ?_
    refine wl_not rfl rfl rfl rfl rfl rfl ?_
    refine wl_not rfl rfl rfl rfl rfl rfl ?_
    refine wl_not rfl rfl rfl rfl rfl rfl ?_
    refine wl_not rfl rfl rfl rfl rfl rfl ?_
    refine wl_not rfl rfl rfl rfl rfl rfl ?_
    refine wl_v (ov_pick_t rfl rfl) rfl rfl rfl ?_
    refine wl_nil ?_
    refine ce_then ?_
    refine cw_true rfl ?_
    refine cw_seq ?_
    have hv : swV ((m : Nat) : Int) es s1 s2 s3 s4 = (0, [], false) := if_neg (fun h => c9 (mays_apart hg h.2))
    refine ct_none fE 65 2 ?_
    refine cw_region ?_
    refine wl_v (ov_build (is := []) (vs := []) (v := .agg #[.int .i64 (0), .slice none (0) (0)]) rfl rfl (fun _ => by kernel_rfl)) rfl rfl rfl ?_
    refine wl_r0 (or_store_blk (vs := [.int .i64 (0), .slice none (0) (0)]) (cs' := [.int .i64 (0), .slice none (0) (0)]) (.tail .head) tI25 rfl rfl rfl rfl (Nat.le_of_ble_eq_true rfl) rfl) rfl rfl (kn0 ?_)
    refine wl_v (ov_assign rfl) rfl rfl rfl ?_
    refine wl_nil ?_
    refine ce_then ?_
    refine cw_ret ?_
    refine ce_then_ret ?_
    refine ce_results (v := .tuple #[.agg #[.int .i64 (0), .slice none (0) (0)], .bool false]) (res2 rfl (rv_c rfl tI25 rfl (List.Mem.head _)) (rv_t rfl)) (fun w' hw => ?_)
    exact ⟨none, 0, 0, (by rw [hv]; exact Nat.le_refl _), (by rw [hv] <;> rfl), ((.consE (show row 65 2 none (0) (0) (cells fE ([])) = row 65 2 none ((swV ((m : Nat) : Int) es s1 s2 s3 s4).2.1.length) (0) (cells fE ((swV ((m : Nat) : Int) es s1 s2 s3 s4).2.1)) by rw [hv] <;> rfl) (.tail .head) (.nil) : Keep _ _).ss hw).to_new⟩
set_option maxRecDepth 100000 in
theorem SwitchEdgesI_c (w : World) (N : Int) (A : Option Addr) (n : Nat) (c : Nat) (es : List (Int × Int)) (s1 : Int) (s2 : Int) (s3 : Int) (s4 : Int) (hA : At w A (cells fE es)) (eA : es.length = n) (lA : n ≤ c) (hs : es.length ≤ 1048576) (hN : N ≤ 9223372036854775807) : Calls Try.prog 28 #[.agg #[.int .i64 (N), .slice A (n) (c)], .agg #[.int .i64 (s1), .int .i64 (s2), .int .i64 (s3), .int .i64 (s4)]] w (Ret fun rv w' => ∃ A2 k2 c2, ((swV N es s1 s2 s3 s4).2.1.length ≤ k2) ∧ rv = .tuple #[.agg #[.int .i64 ((swV N es s1 s2 s3 s4).1), .slice A2 ((swV N es s1 s2 s3 s4).2.1.length) (k2)], .bool ((swV N es s1 s2 s3 s4).2.2)] ∧ New w w' [row 65 2 A2 ((swV N es s1 s2 s3 s4).2.1.length) (c2) (cells fE ((swV N es s1 s2 s3 s4).2.1))]) := by
  have oA := hA.atB
  subst eA
  refine fn_enter (args := [.agg #[.int .i64 (N), .slice A (es.length) (c)], .agg #[.int .i64 (s1), .int .i64 (s2), .int .i64 (s3), .int .i64 (s4)]]) Try.func28 rfl Try.ntmps28 rfl (SS.start w) ?_
  refine cw_seq ?_
  refine cw_region ?_
  refine wl_r (or_box rfl rfl) rfl rfl (kt1 rfl (fun g2 => ?_))
  refine wl_r (or_box rfl rfl) rfl rfl (kt1 rfl (fun g3 => ?_))
  refine wl_r (or_alloc tI25 rfl) rfl rfl (kt1 rfl (fun g4 => ?_))
  refine wl_v (ov_assign rfl) rfl rfl rfl ?_
  refine wl_nil ?_
  refine ce_then ?_
  refine cw_seq ?_
  refine cw_seq ?_
  refine cw_region ?_
  refine wl_v (ov_loadAgg (vs := [.int .i64 (N), .slice A (es.length) (c)]) tI25 (holds_blk (List.Mem.tail _ (List.Mem.tail _ (List.Mem.head _)))) rfl some_lit rfl rfl) rfl rfl rfl ?_
  refine wl_r (or_call (fv := []) (vs := [.agg #[.int .i64 (N), .slice A (es.length) (c)]]) (cs := []) en12 rfl rfl (call_v (fun w hw => validGraphI_c w N A es.length c es ((holds_old oA) w hw) rfl lA (by first | assumption | omega | (simp; omega)) (by first | assumption | omega | (simp; omega))))) rfl rfl (kt_if rfl (fun c7 => ?_) (fun c7 => ?_))
  ·
    refine wl_v (ov_not rfl) rfl rfl rfl ?_
    refine wl_nil ?_
    refine ce_then ?_
    refine cw_false rfl ?_
    refine cw_skip ?_
    refine ce_then ?_
    refine cw_seq ?_
    obtain ⟨m, rfl⟩ := Int.eq_ofNat_of_zero_le (show 0 ≤ N from c7.2.1)
    have hg : Gr m es := by have h9 := c7.gr; rwa [Int.toNat_natCast] at h9
    have hm : m ≤ 7 := by have h9 := c7.2.2; omega
    refine cw_region ?_
    refine wl_v (ov_loadAgg (vs := [.int .i64 (((m : Nat) : Int)), .slice A (es.length) (c)]) tI25 (holds_blk (List.Mem.tail _ (List.Mem.tail _ (List.Mem.head _)))) rfl some_lit rfl rfl) rfl rfl rfl ?_
    refine wl_v (ov_loadAgg (vs := [.int .i64 (s1), .int .i64 (s2), .int .i64 (s3), .int .i64 (s4)]) tI54 (holds_blk (List.Mem.tail _ (List.Mem.head _))) rfl some_lit rfl rfl) rfl rfl rfl ?_
    refine wl_r (or_call (fv := []) (vs := [.agg #[.int .i64 (((m : Nat) : Int)), .slice A (es.length) (c)], .agg #[.int .i64 (s1), .int .i64 (s2), .int .i64 (s3), .int .i64 (s4)]]) (cs := []) en66 rfl rfl (call_x3 (fun w hw => change_c w m A es.length c es s1 s2 s3 s4 ((holds_old oA) w hw) rfl lA (by first | assumption | omega | (simp; omega)) (by first | assumption | omega | (simp; omega))))) rfl rfl (kt3p rfl (fun A2_12 k2_12 c2_12 h_12 => ?_))
    refine wl_v (ov_extract rfl rfl) rfl rfl rfl ?_
    refine wl_v (ov_extract rfl rfl) rfl rfl rfl ?_
    refine wl_r0 (or_store_blk (vs := [.int .i64 ((swV ((m : Nat) : Int) es s1 s2 s3 s4).1), .slice A2_12 ((swV ((m : Nat) : Int) es s1 s2 s3 s4).2.1.length) (k2_12)]) (cs' := [.int .i64 ((swV ((m : Nat) : Int) es s1 s2 s3 s4).1), .slice A2_12 ((swV ((m : Nat) : Int) es s1 s2 s3 s4).2.1.length) (k2_12)]) (.tail .head) tI25 rfl rfl rfl rfl (Nat.le_of_ble_eq_true rfl) rfl) rfl rfl (kn0 ?_)
    refine wl_v (ov_assign rfl) rfl rfl rfl ?_
    refine wl_nil ?_
    refine ce_then ?_
    refine cw_ret ?_
    refine ce_results (v := .tuple #[.agg #[.int .i64 ((swV ((m : Nat) : Int) es s1 s2 s3 s4).1), .slice A2_12 ((swV ((m : Nat) : Int) es s1 s2 s3 s4).2.1.length) (k2_12)], .bool ((swV ((m : Nat) : Int) es s1 s2 s3 s4).2.2)]) (res2 rfl (rv_c rfl tI25 rfl (List.Mem.head _)) (rv_t rfl)) (fun w' hw => ?_)
    exact ⟨A2_12, k2_12, c2_12, h_12, rfl, ((.cons (.tail .head) (.nil) : Keep _ _).ss hw).to_new⟩
  ·
    refine wl_v (ov_not rfl) rfl rfl rfl ?_
    refine wl_nil ?_
    refine ce_then ?_
    refine cw_true rfl ?_
    refine cw_seq ?_
    have hv : swV N es s1 s2 s3 s4 = (0, [], false) := if_neg (fun h => c7 h.1)
    refine ct_none fE 65 2 ?_
    refine cw_region ?_
    refine wl_v (ov_build (is := []) (vs := []) (v := .agg #[.int .i64 (0), .slice none (0) (0)]) rfl rfl (fun _ => by kernel_rfl)) rfl rfl rfl ?_
    refine wl_r0 (or_store_blk (vs := [.int .i64 (0), .slice none (0) (0)]) (cs' := [.int .i64 (0), .slice none (0) (0)]) (.tail .head) tI25 rfl rfl rfl rfl (Nat.le_of_ble_eq_true rfl) rfl) rfl rfl (kn0 ?_)
    refine wl_v (ov_assign rfl) rfl rfl rfl ?_
    refine wl_nil ?_
    refine ce_then ?_
    refine cw_ret ?_
    refine ce_then_ret ?_
    refine ce_results (v := .tuple #[.agg #[.int .i64 (0), .slice none (0) (0)], .bool false]) (res2 rfl (rv_c rfl tI25 rfl (List.Mem.head _)) (rv_t rfl)) (fun w' hw => ?_)
    exact ⟨none, 0, 0, (by rw [hv]; exact Nat.le_refl _), (by rw [hv] <;> rfl), ((.consE (show row 65 2 none (0) (0) (cells fE ([])) = row 65 2 none ((swV N es s1 s2 s3 s4).2.1.length) (0) (cells fE ((swV N es s1 s2 s3 s4).2.1)) by rw [hv] <;> rfl) (.tail .head) (.nil) : Keep _ _).ss hw).to_new⟩
set_option maxRecDepth 100000 in
theorem toSwitch_c (w : World) (s1 : Int) (s2 : Int) (s3 : Int) (s4 : Int)  : Calls Try.prog 27 #[.agg #[.int .i64 (s1), .int .i64 (s2), .int .i64 (s3), .int .i64 (s4)]] w (Ret fun rv w' => rv = .agg #[.int .i64 (s1), .int .i64 (s2), .int .i64 (s3), .int .i64 (s4)] ∧ New w w' []) := by
  refine fn_enter (args := [.agg #[.int .i64 (s1), .int .i64 (s2), .int .i64 (s3), .int .i64 (s4)]]) Try.func27 rfl Try.ntmps27 rfl (SS.start w) ?_
  refine cw_seq ?_
  refine cw_region ?_
  refine wl_r (or_box rfl rfl) rfl rfl (kt1 rfl (fun g1 => ?_))
  refine wl_r (or_alloc tI54 rfl) rfl rfl (kt1 rfl (fun g2 => ?_))
  refine wl_nil ?_
  refine ce_then ?_
  refine cw_seq ?_
  refine cw_region ?_
  refine wl_r (or_alloc tI54 rfl) rfl rfl (kt1 rfl (fun g3 => ?_))
  refine wl_nil ?_
  refine ce_then ?_
  refine cw_seq ?_
  refine cw_region ?_
  refine wl_v (ov_fieldAddr fI52_0 some_lit rfl) rfl rfl rfl ?_
  refine wl_v (ov_load tI3 (holds_blk (List.Mem.tail _ (List.Mem.tail _ (List.Mem.head _)))) rfl rfl) rfl rfl rfl ?_
  refine wl_v (ov_fieldAddr fI54_0 some_lit rfl) rfl rfl rfl ?_
  refine wl_r0 (or_store_blk (vs := [.int .i64 (s1)]) (cs' := [.int .i64 (s1), .int .i64 (0), .int .i64 (0), .int .i64 (0)]) (.head) tI3 rfl rfl rfl rfl (Nat.le_of_ble_eq_true rfl) rfl) rfl rfl (kn0 ?_)
  refine wl_nil ?_
  refine ce_then ?_
  refine cw_seq ?_
  refine cw_region ?_
  refine wl_v (ov_fieldAddr fI52_1 some_lit rfl) rfl rfl rfl ?_
  refine wl_v (ov_load tI3 (holds_blk (List.Mem.tail _ (List.Mem.tail _ (List.Mem.head _)))) rfl rfl) rfl rfl rfl ?_
  refine wl_v (ov_fieldAddr fI54_1 some_lit rfl) rfl rfl rfl ?_
  refine wl_r0 (or_store_blk (vs := [.int .i64 (s2)]) (cs' := [.int .i64 (s1), .int .i64 (s2), .int .i64 (0), .int .i64 (0)]) (.head) tI3 rfl rfl rfl rfl (Nat.le_of_ble_eq_true rfl) rfl) rfl rfl (kn0 ?_)
  refine wl_nil ?_
  refine ce_then ?_
  refine cw_seq ?_
  refine cw_region ?_
  refine wl_v (ov_fieldAddr fI52_2 some_lit rfl) rfl rfl rfl ?_
  refine wl_v (ov_load tI3 (holds_blk (List.Mem.tail _ (List.Mem.tail _ (List.Mem.head _)))) rfl rfl) rfl rfl rfl ?_
  refine wl_v (ov_fieldAddr fI54_2 some_lit rfl) rfl rfl rfl ?_
  refine wl_r0 (or_store_blk (vs := [.int .i64 (s3)]) (cs' := [.int .i64 (s1), .int .i64 (s2), .int .i64 (s3), .int .i64 (0)]) (.head) tI3 rfl rfl rfl rfl (Nat.le_of_ble_eq_true rfl) rfl) rfl rfl (kn0 ?_)
  refine wl_nil ?_
  refine ce_then ?_
  refine cw_seq ?_
  refine cw_region ?_
  refine wl_v (ov_fieldAddr fI52_3 some_lit rfl) rfl rfl rfl ?_
  refine wl_v (ov_load tI3 (holds_blk (List.Mem.tail _ (List.Mem.tail _ (List.Mem.head _)))) rfl rfl) rfl rfl rfl ?_
  refine wl_v (ov_fieldAddr fI54_3 some_lit rfl) rfl rfl rfl ?_
  refine wl_r0 (or_store_blk (vs := [.int .i64 (s4)]) (cs' := [.int .i64 (s1), .int .i64 (s2), .int .i64 (s3), .int .i64 (s4)]) (.head) tI3 rfl rfl rfl rfl (Nat.le_of_ble_eq_true rfl) rfl) rfl rfl (kn0 ?_)
  refine wl_nil ?_
  refine ce_then ?_
  refine cw_seq ?_
  refine cw_region ?_
  refine wl_v (ov_loadAgg (vs := [.int .i64 (s1), .int .i64 (s2), .int .i64 (s3), .int .i64 (s4)]) tI54 (holds_blk (List.Mem.head _)) rfl some_lit rfl rfl) rfl rfl rfl ?_
  refine wl_r0 (or_store_blk (vs := [.int .i64 (s1), .int .i64 (s2), .int .i64 (s3), .int .i64 (s4)]) (cs' := [.int .i64 (s1), .int .i64 (s2), .int .i64 (s3), .int .i64 (s4)]) (.tail .head) tI54 rfl rfl rfl rfl (Nat.le_of_ble_eq_true rfl) rfl) rfl rfl (kn0 ?_)
  refine wl_nil ?_
  refine ce_then ?_
  refine cw_ret ?_
  refine ce_results (v := .agg #[.int .i64 (s1), .int .i64 (s2), .int .i64 (s3), .int .i64 (s4)]) (res1 rfl (rv_c rfl tI54 rfl (List.Mem.head _))) (fun w' hw => ?_)
  exact ⟨rfl, (Keep.nil.ss hw).to_new⟩
end Go.Proofs.Ytkkllkkjdbpjpaa.W47
