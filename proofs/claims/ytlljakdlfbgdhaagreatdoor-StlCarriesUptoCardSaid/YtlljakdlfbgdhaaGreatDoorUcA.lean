/-
  Texts put together, in build order: WE WM WB WV WS WH WXa WXb WXc WXd WXe WXf.
-/
import Derived.Test.YtlljakdlfbgdhaaGreatDoorYC
import Derived.Test.YtlljakdlfbgdhaaGreatDoorProg
import Derived.KernelRfl
import GoSem.PinnedTables
import Derived.Test.YtlljakdlfbgdhaaGreatDoorChecked
import Derived.Lib.UnsafeStr
import Derived.Lib.Builder
import Derived.Lib.Walk
import Derived.WalkKit
import Derived.Laws.Externs
import Derived.OrdersHeld
import Derived.Shelf.Unicode.ValidAny
import Derived.Shelf.Strings.Search3
set_option linter.all false

section
/-
  The table of types of this program, as the machine on plain values sees them, and the package variables that are known.
-/
namespace Go.Mo
open Go Go.W Go.Proofs
noncomputable section
abbrev Y5 : Ty := .slice (.st (.pair (.str) (.pair (.st (.pair (.u8) (.pair (.bool) (.bool)))) (.str))))
abbrev Y1 : Ty := .st (.pair (.int .i64) (.pair (.st (.pair (.int .i64) (.int .i64))) (.pair (.str) (.pair (.u8) (.pair (.str) (.slice (.st Y5)))))))
abbrev Y7 : Ty := .st (.pair (.int .i64) (.pair (.int .i64) (.pair (.int .i64) (.pair (.int .i64) (.bool)))))
abbrev Y8 : Ty := .slice (.u8)
abbrev Y2 : Ty := .st (.pair (.int .i64) (.pair (.int .i64) (.pair (.u8) (.pair (.u8) (.pair Y7 (.pair Y7 (.pair (.int .i64) (.pair (.u8) (.pair (.bool) Y8)))))))))
abbrev Y6 : Ty := .st (.pair (.str) (.pair (.int .i64) (.pair (.int .i64) (.pair (.int .i64) (.pair (.int .i64) (.pair (.u8) (.bool)))))))
abbrev Y9 : Ty := .st (.pair (.int .i64) (.pair (.int .i64) (.pair (.int .i64) (.pair (.int .i64) (.pair (.str) (.pair (.str) (.pair (.bool) (.bool))))))))
abbrev Y3 : Ty := .st (.pair (.str) (.pair (.str) (.pair (.u8) (.pair (.bool) (.pair (.int .i64) (.pair (.slice Y6) (.pair (.slice Y1) (.slice Y9))))))))
abbrev Y4 : Ty := .st (.pair (.u8) (.pair (.str) (.pair (.str) (.pair (.int .i64) (.pair (.int .i64) (.pair Y7 (.pair Y7 (.pair (.int .i64) (.int .i64)))))))))
def tt : List (Option Ty) := [none,
 none,
 some (.int .i64),
 some (.int .i64),
 some (.bool),
 some (.u8),
 none,
 none,
 none,
 some (.str),
 none,
 none,
 some (.int .u64),
 none,
 none,
 some (.nptr),
 some (.nptr),
 some (.nptr),
 none,
 none,
 some (.nif),
 some (.int .i32),
 some (.u8),
 some (.slice Y6),
 some (.slice Y1),
 some (.slice Y9),
 some Y3,
 some Y3,
 none,
 none,
 some (.int .i64),
 none,
 none,
 none,
 none,
 none,
 some (.slice (.st Y5)),
 some Y8,
 none,
 none,
 none,
 none,
 none,
 none,
 none,
 none,
 some Y5,
 some (.st Y5),
 some (.st Y5),
 some (.u8),
 some (.st (.pair (.u8) (.pair (.bool) (.bool)))),
 some (.st (.pair (.u8) (.pair (.bool) (.bool)))),
 some (.st (.pair (.str) (.pair (.st (.pair (.u8) (.pair (.bool) (.bool)))) (.str)))),
 some (.st (.pair (.str) (.pair (.st (.pair (.u8) (.pair (.bool) (.bool)))) (.str)))),
 none,
 none,
 none,
 none,
 none,
 none,
 some (.st (.pair (.int .i64) (.int .i64))),
 some (.st (.pair (.int .i64) (.int .i64))),
 some (.u8),
 some Y1,
 some Y1,
 some (.u8),
 some Y6,
 some Y6,
 none,
 none,
 some (.st (.pair (.int .i64) (.u8))),
 some (.st (.pair (.int .i64) (.u8))),
 none,
 none,
 none,
 none,
 none,
 some (.st (.pair (.str) (.pair (.str) (.pair (.u8) (.pair (.bool) (.int .i64)))))),
 some (.st (.pair (.str) (.pair (.str) (.pair (.u8) (.pair (.bool) (.int .i64)))))),
 none,
 none,
 none,
 none,
 none,
 some Y9,
 some Y9,
 none,
 none,
 none,
 none,
 none,
 none,
 none,
 none,
 none,
 none,
 none,
 none,
 none,
 none,
 none,
 none,
 none,
 none,
 none,
 some Y7,
 some Y7,
 some Y4,
 some Y4,
 some (.slice Y2),
 some Y2,
 some Y2,
 none,
 none,
 none,
 none,
 none,
 none,
 none,
 some (.nptr),
 some (.st (.pair Y3 (.int .i64))),
 some (.st (.pair Y3 (.int .i64))),
 none,
 none,
 none,
 some (.nptr),
 none,
 none,
 some (.slice (.st (.pair (.int .i64) (.pair (.int .i64) (.int .i64))))),
 none,
 none,
 none,
 none,
 some (.st (.pair (.int .i64) (.pair (.int .i64) (.int .i64)))),
 some (.st (.pair (.int .i64) (.pair (.int .i64) (.int .i64)))),
 none,
 none,
 none,
 none,
 none,
 none,
 none,
 none,
 none,
 none,
 none,
 some (.slice (.int .i64)),
 none,
 none,
 none,
 none,
 none,
 none,
 some (.arr 7 (.u8)),
 none,
 some Y8,
 none,
 none,
 none,
 none,
 some (.arr 2 (.int .i32)),
 none,
 none,
 none,
 none,
 none,
 none,
 none,
 none,
 none,
 none,
 none,
 none,
 none,
 none,
 none,
 none,
 none,
 none,
 none,
 some (.st (.pair (.str) (.pair (.int .i64) (.pair (.int .i64) (.bool))))),
 some (.st (.pair (.str) (.pair (.int .i64) (.pair (.int .i64) (.bool))))),
 none,
 none,
 none,
 none,
 none,
 none,
 none,
 some (.slice (.str)),
 none,
 none,
 none,
 none,
 none,
 none,
 some (.slice (.int .i32)),
 none,
 none,
 none,
 none,
 none,
 none,
 none,
 none,
 none,
 none,
 some (.int .u64),
 none,
 none,
 none,
 none,
 none,
 none,
 none,
 none,
 none,
 none,
 none,
 some (.arr 8 (.st (.pair (.str) (.pair (.int .i64) (.pair (.int .i64) (.bool)))))),
 none,
 none,
 none,
 some (.arr 256 (.u8)),
 some (.st (.pair (.u8) (.u8))),
 some (.st (.pair (.u8) (.u8))),
 some (.arr 16 (.st (.pair (.u8) (.u8)))),
 none,
 some (.nptr),
 some (.st (.pair (.nptr) Y8)),
 some (.st (.pair (.nptr) Y8)),
 some (.nif),
 some (.nif),
 none,
 none,
 none,
 some (.arr 2 Y7),
 none,
 none,
 none,
 none,
 some (.arr 256 (.bool)),
 some (.arr 256 (.bool)),
 none,
 none,
 none,
 some (.nptr),
 none,
 none,
 none,
 none,
 none,
 none,
 some (.arr 24 (.u8)),
 some (.int .u64),
 none,
 none,
 none,
 none,
 some (.nptr),
 none,
 none,
 some (.int .u32),
 none,
 none,
 none,
 none,
 none,
 none,
 some (.arr 20 (.int .u64)),
 some (.arr 65 (.u8)),
 none,
 none,
 none,
 none,
 none,
 none,
 none,
 some (.arr 32 (.u8)),
 some (.arr 64 (.u8)),
 none,
 none,
 none,
 none,
 none,
 none,
 none,
 none,
 none,
 none,
 none,
 none,
 none]
def gl0 : List UInt8 := Go.Pinned.utf8FirstZ.map fun n => UInt8.ofNat n
def gl1 : List (UInt8 × UInt8) := [(128, 191), (160, 191), (128, 159), (144, 191), (128, 143), (0, 0), (0, 0), (0, 0), (0, 0), (0, 0), (0, 0), (0, 0), (0, 0), (0, 0), (0, 0), (0, 0)]
noncomputable def E : Env := ⟨Tryz.prog, tt, [(0, ⟨.arr 256 (.u8), gl0⟩), (1, ⟨.arr 16 (.st (.pair (.u8) (.u8))), gl1⟩)], some 225, some (217, 230), [2]⟩
set_option maxRecDepth 100000 in
theorem chk : chkAll E 0 E.ty = true := by kernel_rfl
theorem mixed : E.P.follows .mixedOrders = true := by kernel_rfl
end
end Go.Mo
end

section
/-
  What the functions of the program compute, on plain values. Printed by a program.
-/
namespace Go.Mo
open Go Go.W
noncomputable section
abbrev D3 := (List UInt8) × (UInt8 × Bool × Bool) × List UInt8
abbrev D1 := Int × (Int × Int) × (List UInt8) × UInt8 × (List UInt8) × List (List D3)
abbrev D6 := Int × Int × Int × Int × Bool
abbrev D2 := Int × Int × UInt8 × UInt8 × D6 × D6 × Int × UInt8 × Bool × List UInt8
abbrev D4 := (List UInt8) × Int × Int × Int × Int × UInt8 × Bool
abbrev D5 := Int × Int × Int × Int × (List UInt8) × (List UInt8) × Bool × Bool
abbrev D7 := (List UInt8) × (List UInt8) × UInt8 × Bool × Int × (List D4) × (List D1) × List D5
def ps_q11 : List PK := [.k (.v (.str) [])]
def rs_q11 : List Kd := [.v (.int .u64) []]
def q11 (N : Nat) (x : List UInt8) : Option (Int) :=
 grd (inb 0 (len x)) <|
 grd (inb 1 (len x)) <|
 grd (inb 2 (len x)) <|
 grd (inb 3 (len x)) <|
 grd (inb 4 (len x)) <|
 grd (inb 5 (len x)) <|
 grd (inb 6 (len x)) <|
 grd (inb 7 (len x)) <|
 some (bitb .or .u64 (bitb .or .u64 (bitb .or .u64 (bitb .or .u64 (bitb .or .u64 (bitb .or .u64 (bitb .or .u64 (wr .u64 (n8 (lget x (toN 0) 0))) (wr .u64 (shlk .u64 (wr .u64 (n8 (lget x (toN 1) 0))) 8))) (wr .u64 (shlk .u64 (wr .u64 (n8 (lget x (toN 2) 0))) 16))) (wr .u64 (shlk .u64 (wr .u64 (n8 (lget x (toN 3) 0))) 24))) (wr .u64 (shlk .u64 (wr .u64 (n8 (lget x (toN 4) 0))) 32))) (wr .u64 (shlk .u64 (wr .u64 (n8 (lget x (toN 5) 0))) 40))) (wr .u64 (shlk .u64 (wr .u64 (n8 (lget x (toN 6) 0))) 48))) (wr .u64 (shlk .u64 (wr .u64 (n8 (lget x (toN 7) 0))) 56)))
def ps_utf8_ValidString : List PK := [.k (.v (.str) [])]
def rs_utf8_ValidString : List Kd := [.v (.bool) []]
def utf8_ValidString (N : Nat) (x : List UInt8) : Option (Bool) := hand_utf8_ValidString N x
def ps_q12 : List PK := [.k (.v (.str) []), .k (.v (.int .i32) [])]
def rs_q12 : List Kd := [.v (.int .i64) []]
def q12 (N : Nat) (x : List UInt8 × Int) : Option (Int) :=
 jn (fun (v0 : Unit) =>
  some (-1))
 fun v1 =>
 fixN (fun v2 (v3 : Int × (List UInt8) × Int) =>
  cnd (nlt (toN v3.2.2) (nlen v3.2.1))
   (cnd (ieq (decR v3.2.1 (toN v3.2.2)) x.2)
    (some v3.1)
    (v2 (w64 (iadd v3.1 1), v3.2.1, ofN (nadd (toN v3.2.2) (decW v3.2.1 (toN v3.2.2))))))
   (v1 ())) N (0, x.1, ofN 0)
def ps_q13 : List PK := [.k (.v (.int .i32) [])]
def rs_q13 : List Kd := [.v (.int .i64) []]
def q13 (N : Nat) (x : Int) : Option (Int) :=
 cnd (ile 32 x)
  (cnd (ile x 126)
   (some (w64 (wr .i32 (isub x 32))))
   (bnd (q12 N (([32, 33, 34, 35, 36, 37, 38, 39, 40, 41, 42, 43, 44, 45, 46, 47, 48, 49, 50, 51, 52, 53, 54, 55, 56, 57, 58, 59, 60, 61, 62, 63, 64, 65, 66, 67, 68, 69, 70, 71, 72, 73, 74, 75, 76, 77, 78, 79, 80, 81, 82, 83, 84, 85, 86, 87, 88, 89, 90, 91, 92, 93, 94, 95, 96, 97, 98, 99, 100, 101, 102, 103, 104, 105, 106, 107, 108, 109, 110, 111, 112, 113, 114, 115, 116, 117, 118, 119, 120, 121, 122, 123, 124, 125, 126, 194, 161, 194, 162, 194, 163, 194, 164, 194, 165, 194, 166, 194, 167, 194, 169, 194, 171, 194, 174, 194, 176, 194, 183, 194, 187, 194, 189, 194, 191, 195, 128, 195, 129, 195, 130, 195, 131, 195, 132, 195, 133, 195, 134, 195, 135, 195, 136, 195, 137, 195, 138, 195, 139, 195, 140, 195, 141, 195, 142, 195, 143, 195, 145, 195, 146, 195, 147, 195, 148, 195, 149, 195, 150, 195, 152, 195, 153, 195, 154, 195, 155, 195, 156, 195, 159, 195, 160, 195, 161, 195, 162, 195, 163, 195, 164, 195, 165, 195, 166, 195, 167, 195, 168, 195, 169, 195, 170, 195, 171, 195, 172, 195, 173, 195, 174, 195, 175, 195, 177, 195, 178, 195, 179, 195, 180, 195, 181, 195, 182, 195, 184, 195, 185, 195, 186, 195, 187, 195, 188, 197, 146, 197, 147, 226, 128, 148, 226, 128, 152, 226, 128, 153, 226, 128, 156, 226, 128, 157, 226, 128, 162, 226, 128, 166, 226, 132, 162, 226, 153, 170] : List UInt8), x)) fun v0 =>
   some v0))
  (bnd (q12 N (([32, 33, 34, 35, 36, 37, 38, 39, 40, 41, 42, 43, 44, 45, 46, 47, 48, 49, 50, 51, 52, 53, 54, 55, 56, 57, 58, 59, 60, 61, 62, 63, 64, 65, 66, 67, 68, 69, 70, 71, 72, 73, 74, 75, 76, 77, 78, 79, 80, 81, 82, 83, 84, 85, 86, 87, 88, 89, 90, 91, 92, 93, 94, 95, 96, 97, 98, 99, 100, 101, 102, 103, 104, 105, 106, 107, 108, 109, 110, 111, 112, 113, 114, 115, 116, 117, 118, 119, 120, 121, 122, 123, 124, 125, 126, 194, 161, 194, 162, 194, 163, 194, 164, 194, 165, 194, 166, 194, 167, 194, 169, 194, 171, 194, 174, 194, 176, 194, 183, 194, 187, 194, 189, 194, 191, 195, 128, 195, 129, 195, 130, 195, 131, 195, 132, 195, 133, 195, 134, 195, 135, 195, 136, 195, 137, 195, 138, 195, 139, 195, 140, 195, 141, 195, 142, 195, 143, 195, 145, 195, 146, 195, 147, 195, 148, 195, 149, 195, 150, 195, 152, 195, 153, 195, 154, 195, 155, 195, 156, 195, 159, 195, 160, 195, 161, 195, 162, 195, 163, 195, 164, 195, 165, 195, 166, 195, 167, 195, 168, 195, 169, 195, 170, 195, 171, 195, 172, 195, 173, 195, 174, 195, 175, 195, 177, 195, 178, 195, 179, 195, 180, 195, 181, 195, 182, 195, 184, 195, 185, 195, 186, 195, 187, 195, 188, 197, 146, 197, 147, 226, 128, 148, 226, 128, 152, 226, 128, 153, 226, 128, 156, 226, 128, 157, 226, 128, 162, 226, 128, 166, 226, 132, 162, 226, 153, 170] : List UInt8), x)) fun v1 =>
  some v1)
def ps_q14 : List PK := [.k (.v (.str) [])]
def rs_q14 : List Kd := [.v (.bool) []]
def q14 (N : Nat) (x : List UInt8) : Option (Bool) :=
 bnd (utf8_ValidString N x) fun v0 =>
 cnd (bnot v0)
  (some false)
  (jn (fun (v1 : Unit) =>
   some true)
  fun v2 =>
  fixN (fun v3 (v4 : (List UInt8) × Int) =>
   cnd (nlt (toN v4.2) (nlen v4.1))
    (bnd (q13 N (decR v4.1 (toN v4.2))) fun v5 =>
    cnd (ilt v5 0)
     (some false)
     (v3 (v4.1, ofN (nadd (toN v4.2) (decW v4.1 (toN v4.2))))))
    (v2 ())) N (x, ofN 0))
def ps_q15 : List PK := [.k (.v (.st (.pair (.u8) (.pair (.bool) (.bool)))) [])]
def rs_q15 : List Kd := [.v (.bool) []]
def q15 (N : Nat) (x : UInt8 × Bool × Bool) : Option (Bool) :=
 some (ile (n8 x.1) (n8 6))
def ps_q16 : List PK := [.k (.v (.st (.pair (.str) (.pair (.st (.pair (.u8) (.pair (.bool) (.bool)))) (.str)))) []), .k (.v (.st (.pair (.str) (.pair (.st (.pair (.u8) (.pair (.bool) (.bool)))) (.str)))) [])]
def rs_q16 : List Kd := [.v (.bool) []]
def q16 (N : Nat) (x : D3 × (List UInt8) × (UInt8 × Bool × Bool) × List UInt8) : Option (Bool) :=
 cnd (band (ieq (n8 x.1.2.1.1) (n8 x.2.2.1.1)) (band (beqb x.1.2.1.2.1 x.2.2.1.2.1) (beqb x.1.2.1.2.2 x.2.2.1.2.2)))
  (cnd (seq x.1.2.2 ([] : List UInt8))
   (some (seq x.2.2.2 ([] : List UInt8)))
   (some false))
  (some false)
def ps_q17 : List PK := [.k (.v (.st Y5) [])]
def rs_q17 : List Kd := [.v (.int .i64) []]
def q17 (N : Nat) (x : List D3) : Option (Int) :=
 cnd (ilt 16 (len x))
  (some 9)
  (jn (fun (v0 : Unit) =>
   some 0)
  fun v1 =>
  fixN (fun v2 (v3 : Int) =>
   cnd (ilt v3 (len x))
    (grd (inb v3 (len x))
     (bnd (q14 N (lget x (toN v3) ([], ((0, (false, false)), []))).1) fun v4 =>
     cnd (bnot v4)
      (some 10)
      (cnd (seq (lget x (toN v3) ([], ((0, (false, false)), []))).1 ([] : List UInt8))
       (some 4)
       (bnd (q15 N (lget x (toN v3) ([], ((0, (false, false)), []))).2.1) fun v5 =>
       cnd (bnot v5)
        (some 12)
        (bnd (q14 N (lget x (toN v3) ([], ((0, (false, false)), []))).2.2) fun v6 =>
        cnd (bnot v6)
         (some 10)
         (cnd (ilt 0 v3)
          (grd (inb (w64 (isub v3 1)) (len x))
           (bnd (q16 N (lget x (toN (w64 (isub v3 1))) ([], ((0, (false, false)), [])), lget x (toN v3) ([], ((0, (false, false)), [])))) fun v7 =>
           cnd v7
            (some 8)
            (v2 (w64 (iadd v3 1)))))
          (v2 (w64 (iadd v3 1)))))))))
    (v1 ())) N 0)
def ps_q18 : List PK := [.k (.v (.u8) [])]
def rs_q18 : List Kd := [.v (.u8) []]
def q18 (N : Nat) (x : UInt8) : Option (UInt8) :=
 grd (inb (n8 x) (ofN 7)) <|
 some (lget ([7, 2, 4, 6, 1, 3, 5] : List UInt8) (toN (n8 x)) 0)
def ps_stl_on : List PK := [.k (.v (.bool) []), .k (.v (.u8) []), .k (.v (.u8) [])]
def rs_stl_on : List Kd := [.v (.u8) []]
def stl_on (N : Nat) (x : Bool × UInt8 × UInt8) : Option (UInt8) :=
 cnd x.1
  (some x.2.1)
  (some x.2.2)
def ps_q19 : List PK := [.k (.v (.int .i32) [])]
def rs_q19 : List Kd := [.v (.bool) []]
def q19 (N : Nat) (x : Int) : Option (Bool) :=
 bnd (q13 N x) fun v0 =>
 some (ile 0 v0)
def ps_q20 : List PK := [.k (.v (.u8) [])]
def rs_q20 : List Kd := [.v (.str) []]
def q20 (N : Nat) (x : UInt8) : Option (List UInt8) :=
 cnd (ieq (n8 x) (n8 193))
  (some ([195, 128, 195, 136, 195, 140, 195, 146, 195, 153] : List UInt8))
  (cnd (ieq (n8 x) (n8 194))
   (some ([195, 129, 195, 137, 195, 141, 195, 147, 195, 154] : List UInt8))
   (cnd (ieq (n8 x) (n8 195))
    (some ([195, 130, 195, 138, 195, 142, 195, 148, 195, 155] : List UInt8))
    (cnd (ieq (n8 x) (n8 196))
     (some ([195, 131, 195, 145, 195, 149] : List UInt8))
     (cnd (ieq (n8 x) (n8 200))
      (some ([195, 132, 195, 139, 195, 143, 195, 150, 195, 156] : List UInt8))
      (cnd (ieq (n8 x) (n8 202))
       (some ([195, 133] : List UInt8))
       (cnd (ieq (n8 x) (n8 203))
        (some ([195, 135] : List UInt8))
        (some ([] : List UInt8))))))))
def ps_q21 : List PK := [.k (.v (.int .i32) [])]
def rs_q21 : List Kd := [.v (.int .i32) []]
def q21 (N : Nat) (x : Int) : Option (Int) :=
 bnd (q13 N x) fun v0 =>
 cnd (ilt v0 0)
  (some 0)
  (jn (fun (v1 : Bool) =>
   cnd v1
    (some (wr .i32 (isub x 32)))
    (cnd (ieq x 339)
     (some 338)
     (some x)))
  fun v2 =>
  cnd (ile 97 x)
   (cnd (ile x 122)
    (v2 (ile x 122))
    (cnd (ile 224 x)
     (v2 (ile x 255))
     (v2 false)))
   (cnd (ile 224 x)
    (v2 (ile x 255))
    (v2 false)))
def ps_bytealg_IndexByteString : List PK := [.k (.v (.str) []), .k (.v (.u8) [])]
def rs_bytealg_IndexByteString : List Kd := [.v (.int .i64) []]
def bytealg_IndexByteString (N : Nat) (x : List UInt8 × UInt8) : Option (Int) := hand_bytealg_IndexByteString N x
def ps_q22 : List PK := [.k (.v (.str) []), .k (.v (.u8) [])]
def rs_q22 : List Kd := [.v (.int .i64) []]
def q22 (N : Nat) (x : List UInt8 × UInt8) : Option (Int) :=
 bnd (bytealg_IndexByteString N x) fun v0 =>
 some v0
def ps_q23 : List PK := [.k (.v (.str) []), .k (.v (.u8) [])]
def rs_q23 : List Kd := [.v (.int .i64) []]
def q23 (N : Nat) (x : List UInt8 × UInt8) : Option (Int) :=
 bnd (q22 N x) fun v0 =>
 some v0
def ps_q24 : List PK := [.k (.v (.int .i32) [])]
def rs_q24 : List Kd := [.v (.bool) []]
def q24 (N : Nat) (x : Int) : Option (Bool) :=
 cnd (ile 0 x)
  (cnd (ilt x 55296)
   (some true)
   (cnd (ilt 57343 x)
    (cnd (ile x 1114111)
     (some true)
     (some false))
    (some false)))
  (cnd (ilt 57343 x)
   (cnd (ile x 1114111)
    (some true)
    (some false))
   (some false))
def ps_q25 : List PK := [.k (.v (.int .i64) [])]
def rs_q25 : List Kd := [.v (.int .i64) []]
def q25 (N : Nat) (x : Int) : Option (Int) :=
 some (w64 (idiv (w64 (iadd x 16)) 8))
def ps_q26 : List PK := [.k (.v (.str) []), .k (.v (.int .i32) [])]
def rs_q26 : List Kd := [.v (.int .i64) []]
def q26 (N : Nat) (x : List UInt8 × Int) : Option (Int) :=
 jn (fun (v0 : Bool) =>
  cnd v0
   (bnd (q23 N (x.1, b8 x.2)) fun v1 =>
   some v1)
   (cnd (ieq x.2 65533)
    (jn (fun (v2 : Unit) =>
     some (-1))
    fun v3 =>
    fixN (fun v4 (v5 : (List UInt8) × Int) =>
     cnd (nlt (toN v5.2) (nlen v5.1))
      (cnd (ieq (decR v5.1 (toN v5.2)) 65533)
       (some (ofN (toN v5.2)))
       (v4 (v5.1, ofN (nadd (toN v5.2) (decW v5.1 (toN v5.2))))))
      (v3 ())) N (x.1, ofN 0))
    (bnd (q24 N x.2) fun v6 =>
    cnd (bnot v6)
     (some (-1))
     (jn (fun (v7 : Unit) =>
      some (-1))
     fun v8 =>
     fixN (fun v9 (v10 : Int × Int) =>
      cnd (ilt v10.1 (len x.1))
       (jn (fun (v11 : Int) =>
        jn (fun (v12 : Unit) =>
         some (w64 (isub v11 (w64 (isub (len (enc x.2)) 1)))))
        fun v13 =>
        fixN (fun v14 (v15 : Int) =>
         cnd (ilt v15 (len (enc x.2)))
          (grd (inb (w64 (isub v11 v15)) (len x.1))
           (grd (inb (w64 (isub (w64 (isub (len (enc x.2)) 1)) v15)) (len (enc x.2)))
            (cnd (ine (n8 (lget x.1 (toN (w64 (isub v11 v15))) 0)) (n8 (lget (enc x.2) (toN (w64 (isub (w64 (isub (len (enc x.2)) 1)) v15))) 0)))
             (bnd (q25 N (w64 (iadd v11 1))) fun v16 =>
             cnd (ilt v16 (w64 (iadd v10.2 1)))
              (cnd (ilt (w64 (iadd v11 1)) (len x.1))
               (grd (in2 (w64 (isub (w64 (iadd v11 1)) (w64 (isub (len (enc x.2)) 1)))) (len x.1))
                none)
               (v9 (w64 (iadd v11 1), w64 (iadd v10.2 1))))
              (v9 (w64 (iadd v11 1), w64 (iadd v10.2 1))))
             (v14 (w64 (iadd v15 1))))))
          (v13 ())) N 1)
       fun v17 =>
       grd (inb v10.1 (len x.1)) <|
       grd (inb (w64 (isub (len (enc x.2)) 1)) (len (enc x.2))) <|
       cnd (ine (n8 (lget x.1 (toN v10.1) 0)) (n8 (lget (enc x.2) (toN (w64 (isub (len (enc x.2)) 1))) 0)))
        (grd (in2 (w64 (iadd v10.1 1)) (len x.1))
         (grd (inb (w64 (isub (len (enc x.2)) 1)) (len (enc x.2)))
          (bnd (q23 N (ldrop (toN (w64 (iadd v10.1 1))) x.1, lget (enc x.2) (toN (w64 (isub (len (enc x.2)) 1))) 0)) fun v18 =>
          cnd (ilt v18 0)
           (some (-1))
           (v17 (w64 (iadd v10.1 (w64 (iadd v18 1))))))))
        (v17 v10.1))
       (v8 ())) N (w64 (isub (len (enc x.2)) 1), 0)))))
 fun v19 =>
 cnd (ile 0 x.2)
  (v19 (ilt x.2 128))
  (v19 false)
def ps_q27 : List PK := [.k (.v (.str) []), .k (.v (.int .i32) [])]
def rs_q27 : List Kd := [.v (.bool) []]
def q27 (N : Nat) (x : List UInt8 × Int) : Option (Bool) :=
 bnd (q26 N x) fun v0 =>
 some (ile 0 v0)
def ps_q28 : List PK := [.k (.v (.int .i32) [])]
def rs_q28 : List Kd := [.v (.int .i32) []]
def q28 (N : Nat) (x : Int) : Option (Int) :=
 bnd (q13 N x) fun v0 =>
 cnd (ilt v0 0)
  (some 0)
  (cnd (ilt v0 95)
   (some x)
   (grd (inb (w64 (isub v0 95)) (len ([33, 99, 76, 36, 89, 124, 83, 67, 34, 82, 111, 46, 34, 50, 63, 65, 65, 65, 65, 65, 65, 65, 67, 69, 69, 69, 69, 73, 73, 73, 73, 78, 79, 79, 79, 79, 79, 79, 85, 85, 85, 85, 115, 97, 97, 97, 97, 97, 97, 97, 99, 101, 101, 101, 101, 105, 105, 105, 105, 110, 111, 111, 111, 111, 111, 111, 117, 117, 117, 117, 79, 111, 45, 39, 39, 34, 34, 46, 46, 84, 35] : List UInt8)))
    (some (wr .i32 (n8 (lget ([33, 99, 76, 36, 89, 124, 83, 67, 34, 82, 111, 46, 34, 50, 63, 65, 65, 65, 65, 65, 65, 65, 67, 69, 69, 69, 69, 73, 73, 73, 73, 78, 79, 79, 79, 79, 79, 79, 85, 85, 85, 85, 115, 97, 97, 97, 97, 97, 97, 97, 99, 101, 101, 101, 101, 105, 105, 105, 105, 110, 111, 111, 111, 111, 111, 111, 117, 117, 117, 117, 79, 111, 45, 39, 39, 34, 34, 46, 46, 84, 35] : List UInt8) (toN (w64 (isub v0 95))) 0))))))
def ps_q29 : List PK := [.k (.v (.int .i32) [])]
def rs_q29 : List Kd := [.v Y8 [0]]
def q29 (N : Nat) (x : Int) : Option (List UInt8) :=
 bnd (q19 N x) fun v0 =>
 cnd (bnot v0)
  (some ([] : List UInt8))
  (cnd (ilt x 127)
   (some ([b8 x] : List UInt8))
   (jn (fun (v1 : Unit) =>
    jn (fun (v2 : Unit) =>
     some ([] : List UInt8))
    fun v3 =>
    fixN (fun v4 (v5 : UInt8) =>
     cnd (ile (n8 v5) (n8 203))
      (bnd (q20 N v5) fun v6 =>
      bnd (q21 N x) fun v7 =>
      bnd (q27 N (v6, v7)) fun v8 =>
      cnd v8
       (bnd (q28 N x) fun v9 =>
       some ([v5, b8 v9] : List UInt8))
       (v4 (b8 (iadd (n8 v5) (n8 1)))))
      (v3 ())) N 193)
   fun v10 =>
   fixN (fun v11 (v12 : Int × (List UInt8) × Int) =>
    cnd (nlt (toN v12.2.2) (nlen v12.2.1))
     (cnd (ieq (decR v12.2.1 (toN v12.2.2)) x)
      (grd (inb v12.1 (len ([161, 162, 163, 164, 165, 166, 167, 168, 169, 170, 171, 172, 173, 174, 175, 176, 180, 183, 185, 186, 187, 189, 191, 213, 225, 233, 234, 241, 249, 250, 251] : List UInt8)))
       (some ([lget ([161, 162, 163, 164, 165, 166, 167, 168, 169, 170, 171, 172, 173, 174, 175, 176, 180, 183, 185, 186, 187, 189, 191, 213, 225, 233, 234, 241, 249, 250, 251] : List UInt8) (toN v12.1) 0] : List UInt8)))
      (v11 (w64 (iadd v12.1 1), v12.2.1, ofN (nadd (toN v12.2.2) (decW v12.2.1 (toN v12.2.2))))))
     (v10 ())) N (0, ([194, 161, 194, 162, 194, 163, 194, 164, 194, 165, 194, 166, 194, 167, 194, 169, 226, 128, 152, 226, 128, 156, 194, 171, 194, 174, 226, 128, 148, 226, 128, 162, 226, 128, 166, 194, 176, 226, 132, 162, 194, 183, 226, 128, 153, 226, 128, 157, 194, 187, 194, 189, 194, 191, 226, 153, 170, 195, 134, 195, 152, 197, 146, 195, 166, 195, 184, 197, 147, 195, 159] : List UInt8), ofN 0)))
def ps_q30 : List PK := [.k (.v (.str) [])]
def rs_q30 : List Kd := [.v Y8 [0], .v (.int .i64) []]
def q30 (N : Nat) (x : List UInt8) : Option (List UInt8 × Int) :=
 bnd (q14 N x) fun v0 =>
 cnd (bnot v0)
  (some (([] : List UInt8), 10))
  (jn (fun (v1 : List UInt8) =>
   some (v1, 0))
  fun v2 =>
  fixN (fun v3 (v4 : (List UInt8) × (List UInt8) × Int) =>
   cnd (nlt (toN v4.2.2) (nlen v4.2.1))
    (bnd (q29 N (decR v4.2.1 (toN v4.2.2))) fun v5 =>
    grd (room (iadd (len v4.1) (len v5)) 1) <|
    v3 (lapp v4.1 v5, v4.2.1, ofN (nadd (toN v4.2.2) (decW v4.2.1 (toN v4.2.2)))))
    (v2 v4.1)) N (([] : List UInt8), x, ofN 0))
def ps_stl_Text : List PK := [.k (.v (.slice (.st Y5)) [])]
def rs_stl_Text : List Kd := [.v Y8 [0], .v (.int .i64) []]
def stl_Text (N : Nat) (x : List (List D3)) : Option (List UInt8 × Int) :=
 jn (fun (v0 : List UInt8) =>
  some (v0, 0))
 fun v1 =>
 fixN (fun v2 (v3 : (List UInt8) × Int) =>
  cnd (ilt v3.2 (len x))
   (jn (fun (v4 : List UInt8) =>
    v2 (v4, w64 (iadd v3.2 1)))
   fun v5 =>
   grd (inb v3.2 (len x)) <|
   bnd (q17 N (lget x (toN v3.2) [])) fun v6 =>
   cnd (ine v6 0)
    (some (([] : List UInt8), v6))
    (jn (fun (v7 : List UInt8) =>
     fixN (fun v8 (v9 : (List UInt8) × Int × UInt8 × Bool × Bool) =>
      cnd (ilt v9.2.1 (len (lget x (toN v3.2) [])))
       (grd (inb v9.2.1 (len (lget x (toN v3.2) [])))
        (jn (fun (v10 : List UInt8) =>
         jn (fun (v11 : List UInt8) =>
          jn (fun (v12 : List UInt8) =>
           bnd (q30 N (lget (lget x (toN v3.2) []) (toN v9.2.1) ([], ((0, (false, false)), []))).1) fun v13 =>
           grd (room (iadd (len v12) (len v13.1)) 1) <|
           v8 (lapp v12 v13.1, w64 (iadd v9.2.1 1), (lget (lget x (toN v3.2) []) (toN v9.2.1) ([], ((0, (false, false)), []))).2.1))
          fun v14 =>
          cnd (bneb (lget (lget x (toN v3.2) []) (toN v9.2.1) ([], ((0, (false, false)), []))).2.1.2.2 v9.2.2.2.2)
           (bnd (stl_on N ((lget (lget x (toN v3.2) []) (toN v9.2.1) ([], ((0, (false, false)), []))).2.1.2.2, 130, 131)) fun v15 =>
           grd (room (iadd (len v11) (len ([v15] : List UInt8))) 1) <|
           v14 (lapp v11 ([v15] : List UInt8)))
           (v14 v11))
         fun v16 =>
         cnd (bneb (lget (lget x (toN v3.2) []) (toN v9.2.1) ([], ((0, (false, false)), []))).2.1.2.1 v9.2.2.2.1)
          (bnd (stl_on N ((lget (lget x (toN v3.2) []) (toN v9.2.1) ([], ((0, (false, false)), []))).2.1.2.1, 128, 129)) fun v17 =>
          grd (room (iadd (len v10) (len ([v17] : List UInt8))) 1) <|
          v16 (lapp v10 ([v17] : List UInt8)))
          (v16 v10))
        fun v18 =>
        cnd (ine (n8 (lget (lget x (toN v3.2) []) (toN v9.2.1) ([], ((0, (false, false)), []))).2.1.1) (n8 v9.2.2.1))
         (bnd (q18 N (lget (lget x (toN v3.2) []) (toN v9.2.1) ([], ((0, (false, false)), []))).2.1.1) fun v19 =>
         grd (room (iadd (len v9.1) (len ([v19] : List UInt8))) 1) <|
         v18 (lapp v9.1 ([v19] : List UInt8)))
         (v18 v9.1)))
       (v5 v9.1)) N (v7, 0, 0, false, false))
    fun v20 =>
    cnd (ilt 0 v3.2)
     (grd (room (iadd (len v3.1) (len ([138] : List UInt8))) 1)
      (v20 (lapp v3.1 ([138] : List UInt8))))
     (v20 v3.1)))
   (v1 v3.1)) N (([] : List UInt8), 0)
def ps_q31 : List PK := [.k (.v Y8 []), .k (.v Y8 [])]
def rs_q31 : List Kd := [.v (.bool) []]
def q31 (N : Nat) (x : List UInt8 × List UInt8) : Option (Bool) :=
 cnd (ine (len x.1) (len x.2))
  (some false)
  (jn (fun (v0 : Unit) =>
   some true)
  fun v1 =>
  fixN (fun v2 (v3 : Int) =>
   cnd (ilt v3 (len x.1))
    (grd (inb v3 (len x.1))
     (grd (inb v3 (len x.2))
      (cnd (ine (n8 (lget x.1 (toN v3) 0)) (n8 (lget x.2 (toN v3) 0)))
       (some false)
       (v2 (w64 (iadd v3 1))))))
    (v1 ())) N 0)
def ps_q32 : List PK := [.k (.v (.str) [])]
def rs_q32 : List Kd := [.v (.bool) []]
def q32 (N : Nat) (x : List UInt8) : Option (Bool) :=
 cnd (ilt (len x) 1)
  (some false)
  (cnd (ilt 16 (len x))
   (some false)
   (grd (inb 0 (len x))
    (cnd (ilt (n8 (lget x (toN 0) 0)) (n8 65))
     (some false)
     (grd (inb 0 (len x))
      (cnd (ilt (n8 90) (n8 (lget x (toN 0) 0)))
       (some false)
       (jn (fun (v0 : Unit) =>
        some true)
       fun v1 =>
       fixN (fun v2 (v3 : Int) =>
        cnd (ilt v3 (len x))
         (jn (fun (v4 : Unit) =>
          v2 (w64 (iadd v3 1)))
         fun v5 =>
         grd (inb v3 (len x)) <|
         cnd (ilt (n8 (lget x (toN v3) 0)) (n8 65))
          (cnd (ilt (n8 (lget x (toN v3) 0)) (n8 48))
           (cnd (ine (n8 (lget x (toN v3) 0)) (n8 95))
            (cnd (ine (n8 (lget x (toN v3) 0)) (n8 45))
             (some false)
             (v5 ()))
            (v5 ()))
           (cnd (ilt (n8 57) (n8 (lget x (toN v3) 0)))
            (cnd (ine (n8 (lget x (toN v3) 0)) (n8 95))
             (cnd (ine (n8 (lget x (toN v3) 0)) (n8 45))
              (some false)
              (v5 ()))
             (v5 ()))
            (v5 ())))
          (cnd (ilt (n8 90) (n8 (lget x (toN v3) 0)))
           (cnd (ilt (n8 (lget x (toN v3) 0)) (n8 48))
            (cnd (ine (n8 (lget x (toN v3) 0)) (n8 95))
             (cnd (ine (n8 (lget x (toN v3) 0)) (n8 45))
              (some false)
              (v5 ()))
             (v5 ()))
            (cnd (ilt (n8 57) (n8 (lget x (toN v3) 0)))
             (cnd (ine (n8 (lget x (toN v3) 0)) (n8 95))
              (cnd (ine (n8 (lget x (toN v3) 0)) (n8 45))
               (some false)
               (v5 ()))
              (v5 ()))
             (v5 ())))
           (v5 ())))
         (v1 ())) N 0))))))
def ps_q33 : List PK := [.k (.v (.u8) [])]
def rs_q33 : List Kd := [.v (.st (.pair (.str) (.pair (.int .i64) (.pair (.int .i64) (.bool))))) []]
def q33 (N : Nat) (x : UInt8) : Option ((List UInt8) × Int × Int × Bool) :=
 grd (ieq (len (lrep 8 (([] : List UInt8), 0, 0, false))) (ofN 8)) <|
 cnd (ile 8 (w64 (n8 x)))
  (some (([] : List UInt8), 0, 0, false))
  (grd (inb (n8 x) (ofN 8))
   (grd (ilt (n8 x) (len ([(([] : List UInt8), 0, 0, false), (([50, 51, 46, 57, 55, 54] : List UInt8), 5005, 24, false), (([50, 52] : List UInt8), 5000, 24, false), (([50, 53] : List UInt8), 4800, 25, false), (([50, 57, 46, 57, 55] : List UInt8), 4004, 30, true), (([51, 48] : List UInt8), 4000, 30, false), (([53, 48] : List UInt8), 2400, 50, false), (([53, 57, 46, 57, 52] : List UInt8), 2002, 60, true)] : List ((List UInt8) × Int × Int × Bool))))
    (some (lget ([(([] : List UInt8), 0, 0, false), (([50, 51, 46, 57, 55, 54] : List UInt8), 5005, 24, false), (([50, 52] : List UInt8), 5000, 24, false), (([50, 53] : List UInt8), 4800, 25, false), (([50, 57, 46, 57, 55] : List UInt8), 4004, 30, true), (([51, 48] : List UInt8), 4000, 30, false), (([53, 48] : List UInt8), 2400, 50, false), (([53, 57, 46, 57, 52] : List UInt8), 2002, 60, true)] : List ((List UInt8) × Int × Int × Bool)) (toN (n8 x)) ([], (0, (0, false)))))))
def ps_q34 : List PK := [.k (.v (.u8) [])]
def rs_q34 : List Kd := [.v (.bool) []]
def q34 (N : Nat) (x : UInt8) : Option (Bool) :=
 bnd (q33 N x) fun v0 =>
 some (ilt 0 v0.2.1)
def ps_q35 : List PK := [.k (.v (.u8) [])]
def rs_q35 : List Kd := [.v (.bool) []]
def q35 (N : Nat) (x : UInt8) : Option (Bool) :=
 bnd (q33 N x) fun v0 =>
 some v0.2.2.2
def ps_q36 : List PK := [.k (.v (.u8) []), .k (.v (.bool) [])]
def rs_q36 : List Kd := [.v (.int .i64) []]
def q36 (N : Nat) (x : UInt8 × Bool) : Option (Int) :=
 bnd (q34 N x.1) fun v0 =>
 cnd (bnot v0)
  (some 13)
  (cnd x.2
   (bnd (q35 N x.1) fun v1 =>
   cnd (bnot v1)
    (some 13)
    (some 0))
   (some 0))
def ps_q37 : List PK := [.k (.v Y3 [])]
def rs_q37 : List Kd := [.v (.int .i64) []]
def q37 (N : Nat) (x : D7) : Option (Int) :=
 jn (fun (v0 : Unit) =>
  bnd (q36 N (x.2.2.1, x.2.2.2.1)) fun v1 =>
  cnd (ine v1 0)
   (some v1)
   (cnd (ilt x.2.2.2.2.1 0)
    (some 2)
    (cnd (ilt 1099511627776 x.2.2.2.2.1)
     (some 2)
     (some 0))))
 fun v2 =>
 bnd (q14 N x.1) fun v3 =>
 cnd (bnot v3)
  (some 10)
  (cnd (ilt 400 (len x.1))
   (some 9)
   (cnd (sne x.2.1 ([] : List UInt8))
    (bnd (q32 N x.2.1) fun v4 =>
    cnd (bnot v4)
     (some 5)
     (v2 ()))
    (v2 ())))
def ps_q38 : List PK := [.k (.v (.int .i64) []), .k (.v (.int .i64) []), .k (.v (.int .i64) [])]
def rs_q38 : List Kd := [.v (.bool) []]
def q38 (N : Nat) (x : Int × Int × Int) : Option (Bool) :=
 cnd (ile x.2.1 x.1)
  (some (ile x.1 x.2.2))
  (some false)
def ps_q39 : List PK := [.k (.v Y6 [])]
def rs_q39 : List Kd := [.v (.int .i64) []]
def q39 (N : Nat) (x : D4) : Option (Int) :=
 bnd (q32 N x.1) fun v0 =>
 cnd (bnot v0)
  (some 5)
  (bnd (q38 N (x.2.1, 0, 14)) fun v1 =>
  cnd (bnot v1)
   (some 2)
   (bnd (q38 N (x.2.2.1, 1, w64 (isub 15 x.2.1))) fun v2 =>
   cnd (bnot v2)
    (some 2)
    (bnd (q38 N (x.2.2.2.1, 0, 31)) fun v3 =>
    cnd (bnot v3)
     (some 2)
     (bnd (q38 N (x.2.2.2.2.1, 1, w64 (isub 32 x.2.2.2.1))) fun v4 =>
     cnd (bnot v4)
      (some 2)
      (cnd (ilt (n8 x.2.2.2.2.2.1) (n8 1))
       (some 3)
       (cnd (ilt (n8 3) (n8 x.2.2.2.2.2.1))
        (some 3)
        (some 0)))))))
def ps_q40 : List PK := [.k (.v (.slice Y6) [])]
def rs_q40 : List Kd := [.v (.int .i64) []]
def q40 (N : Nat) (x : List D4) : Option (Int) :=
 cnd (ilt 16 (len x))
  (some 9)
  (jn (fun (v0 : Unit) =>
   some 0)
  fun v1 =>
  fixN (fun v2 (v3 : Int) =>
   cnd (ilt v3 (len x))
    (grd (inb v3 (len x))
     (bnd (q39 N (lget x (toN v3) ([], (0, (0, (0, (0, (0, false)))))))) fun v4 =>
     cnd (ine v4 0)
      (some v4)
      (jn (fun (v5 : Unit) =>
       cnd (ilt 0 v3)
        (grd (inb (w64 (isub v3 1)) (len x))
         (cnd (slt (lget x (toN v3) ([], (0, (0, (0, (0, (0, false))))))).1 (lget x (toN (w64 (isub v3 1))) ([], (0, (0, (0, (0, (0, false))))))).1)
          (some 8)
          (v2 (w64 (iadd v3 1)))))
        (v2 (w64 (iadd v3 1))))
      fun v6 =>
      cnd (ilt 0 v3)
       (grd (inb (w64 (isub v3 1)) (len x))
        (cnd (seq (lget x (toN v3) ([], (0, (0, (0, (0, (0, false))))))).1 (lget x (toN (w64 (isub v3 1))) ([], (0, (0, (0, (0, (0, false))))))).1)
         (some 7)
         (v6 ())))
       (v6 ()))))
    (v1 ())) N 0)
def ps_q41 : List PK := []
def rs_q41 : List Kd := [.v Y6 []]
def q41 (N : Nat) (x : Unit) : Option D4 :=
 some (([] : List UInt8), 11, 4, 0, 32, 2, true)
def ps_q42 : List PK := [.k (.v (.slice Y6) []), .k (.v (.str) [])]
def rs_q42 : List Kd := [.v Y6 [], .v (.bool) []]
def q42 (N : Nat) (x : (List D4) × List UInt8) : Option (D4 × Bool) :=
 cnd (seq x.2 ([] : List UInt8))
  (bnd (q41 N ()) fun v0 =>
  some (v0, true))
  (jn (fun (v1 : Unit) =>
   some ((([] : List UInt8), 0, 0, 0, 0, 0, false), false))
  fun v2 =>
  fixN (fun v3 (v4 : Int) =>
   cnd (ilt v4 (len x.1))
    (grd (inb v4 (len x.1))
     (cnd (seq (lget x.1 (toN v4) ([], (0, (0, (0, (0, (0, false))))))).1 x.2)
      (some (lget x.1 (toN v4) ([], (0, (0, (0, (0, (0, false)))))), true))
      (v3 (w64 (iadd v4 1)))))
    (v2 ())) N 0)
def ps_q43 : List PK := [.k (.v (.st (.pair (.int .i64) (.int .i64))) [])]
def rs_q43 : List Kd := [.v (.bool) []]
def q43 (N : Nat) (x : Int × Int) : Option (Bool) :=
 cnd (ile 0 x.1)
  (cnd (ilt x.1 x.2)
   (some (ile x.2 5184000))
   (some false))
  (some false)
def ps_q44 : List PK := []
def rs_q44 : List Kd := [.v (.slice (.str)) [0]]
def q44 (N : Nat) (x : Unit) : Option (List (List UInt8)) :=
 some ([([68, 73, 65, 76, 79, 71, 85, 69] : List UInt8), ([83, 79, 85, 78, 68] : List UInt8), ([84, 73, 84, 76, 69] : List UInt8), ([77, 85, 83, 73, 67] : List UInt8)] : List (List UInt8))
def ps_q45 : List PK := [.k (.v (.u8) [])]
def rs_q45 : List Kd := [.v (.str) []]
def q45 (N : Nat) (x : UInt8) : Option (List UInt8) :=
 cnd (ilt (n8 x) (n8 1))
  (some ([] : List UInt8))
  (cnd (ilt (n8 4) (n8 x))
   (some ([] : List UInt8))
   (bnd (q44 N ()) fun v0 =>
   grd (inb (n8 (b8 (isub (n8 x) (n8 1)))) (len v0)) <|
   some (lget v0 (toN (n8 (b8 (isub (n8 x) (n8 1))))) [])))
def ps_strings_Builder_copyCheck : List PK := [.k (.b 230 (.st (.pair (.nptr) Y8)) [1])]
def rs_strings_Builder_copyCheck : List Kd := []
def strings_Builder_copyCheck (N : Nat) (x : Unit × List UInt8) : Option (Unit × List UInt8) := hand_strings_Builder_copyCheck N x
def ps_q46 : List PK := [.k (.b 230 (.st (.pair (.nptr) Y8)) [1]), .k (.v (.str) [])]
def rs_q46 : List Kd := [.v (.int .i64) [], .v (.nif) []]
def q46 (N : Nat) (x : (Unit × List UInt8) × List UInt8) : Option (Int × Unit × Unit × List UInt8) :=
 bnd (strings_Builder_copyCheck N ((), x.1.2)) fun v0 =>
 grd (room (iadd (len v0.2) (len x.2)) 1) <|
 some (len x.2, (), (), lapp v0.2 x.2)
def ps_q47 : List PK := [.k (.v (.st Y5) [])]
def rs_q47 : List Kd := [.v (.str) []]
def q47 (N : Nat) (x : List D3) : Option (List UInt8) :=
 jn (fun (v0 : Unit × List UInt8) =>
  some v0.2)
 fun v1 =>
 fixN (fun v2 (v3 : Int × Unit × List UInt8) =>
  cnd (ilt v3.1 (len x))
   (grd (inb v3.1 (len x))
    (bnd (q46 N (((), v3.2.2), (lget x (toN v3.1) ([], ((0, (false, false)), []))).1)) fun v4 =>
    v2 (w64 (iadd v3.1 1), (), v4.2.2.2)))
   (v1 ((), v3.2.2))) N (0, (), ([] : List UInt8))
def ps_q48 : List PK := [.k (.v (.str) [])]
def rs_q48 : List Kd := [.v (.int .u32) [], .v (.int .u32) []]
def q48 (N : Nat) (x : List UInt8) : Option (Int × Int) :=
 jn (fun (v0 : Int) =>
  jn (fun (v1 : Int) =>
   some (v0, v1))
  fun v2 =>
  fixN (fun v3 (v4 : Int × Int × Int) =>
   cnd (ilt 0 v4.2.2)
    (cnd (ine (bitb .and .i64 v4.2.2 1) 0)
     (v3 (wr .u32 (imul v4.1 v4.2.1), wr .u32 (imul v4.2.1 v4.2.1), shrk .i64 v4.2.2 1))
     (v3 (v4.1, wr .u32 (imul v4.2.1 v4.2.1), shrk .i64 v4.2.2 1)))
    (v2 v4.1)) N (1, 16777619, len x))
 fun v5 =>
 fixN (fun v6 (v7 : Int × Int) =>
  cnd (ilt v7.2 (len x))
   (grd (inb v7.2 (len x))
    (v6 (wr .u32 (iadd (wr .u32 (imul v7.1 16777619)) (wr .u32 (n8 (lget x (toN v7.2) 0)))), w64 (iadd v7.2 1))))
   (v5 v7.1)) N (0, 0)
def ps_q49 : List PK := [.k (.v (.str) []), .k (.v (.str) [])]
def rs_q49 : List Kd := [.v (.int .i64) []]
def q49 (N : Nat) (x : List UInt8 × List UInt8) : Option (Int) :=
 bnd (q48 N x.2) fun v0 =>
 jn (fun (v1 : Int) =>
  jn (fun (v2 : Unit) =>
   jn (fun (v3 : Unit) =>
    some (-1))
   fun v4 =>
   fixN (fun v5 (v6 : Int × Int) =>
    cnd (ilt v6.2 (len x.1))
     (grd (inb v6.2 (len x.1))
      (grd (inb (w64 (isub v6.2 (len x.2))) (len x.1))
       (cnd (ieq (wr .u32 (isub (wr .u32 (iadd (wr .u32 (imul v6.1 16777619)) (wr .u32 (n8 (lget x.1 (toN v6.2) 0))))) (wr .u32 (imul v0.2 (wr .u32 (n8 (lget x.1 (toN (w64 (isub v6.2 (len x.2)))) 0))))))) v0.1)
        (grd (in3 (w64 (isub (w64 (iadd v6.2 1)) (len x.2))) (w64 (iadd v6.2 1)) (len x.1))
         (cnd (seq (ldrop (toN (w64 (isub (w64 (iadd v6.2 1)) (len x.2)))) (ltake (toN (w64 (iadd v6.2 1))) x.1)) x.2)
          (some (w64 (isub (w64 (iadd v6.2 1)) (len x.2))))
          (v5 (wr .u32 (isub (wr .u32 (iadd (wr .u32 (imul v6.1 16777619)) (wr .u32 (n8 (lget x.1 (toN v6.2) 0))))) (wr .u32 (imul v0.2 (wr .u32 (n8 (lget x.1 (toN (w64 (isub v6.2 (len x.2)))) 0)))))), w64 (iadd v6.2 1)))))
        (v5 (wr .u32 (isub (wr .u32 (iadd (wr .u32 (imul v6.1 16777619)) (wr .u32 (n8 (lget x.1 (toN v6.2) 0))))) (wr .u32 (imul v0.2 (wr .u32 (n8 (lget x.1 (toN (w64 (isub v6.2 (len x.2)))) 0)))))), w64 (iadd v6.2 1))))))
     (v4 ())) N (v1, len x.2))
  fun v7 =>
  cnd (ieq v1 v0.1)
   (grd (in2 (len x.2) (len x.1))
    (cnd (seq (ltake (toN (len x.2)) x.1) x.2)
     (some 0)
     (v7 ())))
   (v7 ()))
 fun v8 =>
 fixN (fun v9 (v10 : Int × Int) =>
  cnd (ilt v10.2 (len x.2))
   (grd (inb v10.2 (len x.1))
    (v9 (wr .u32 (iadd (wr .u32 (imul v10.1 16777619)) (wr .u32 (n8 (lget x.1 (toN v10.2) 0)))), w64 (iadd v10.2 1))))
   (v8 v10.1)) N (0, 0)
def ps_q50 : List PK := [.k (.v (.str) []), .k (.v (.str) [])]
def rs_q50 : List Kd := [.v (.int .i64) []]
def q50 (N : Nat) (x : List UInt8 × List UInt8) : Option (Int) :=
 cnd (ieq (len x.2) 0)
  (some 0)
  (cnd (seq x.2 x.1)
   (some 0)
   (cnd (ieq (len x.2) 1)
    (grd (inb 0 (len x.2))
     (bnd (q22 N (x.1, lget x.2 (toN 0) 0)) fun v0 =>
     some v0))
    (cnd (ile (len x.1) (len x.2))
     (some (-1))
     none)))
def ps_q51 : List PK := [.k (.v (.str) []), .k (.v (.str) [])]
def rs_q51 : List Kd := [.v (.int .i64) []]
def q51 (N : Nat) (x : List UInt8 × List UInt8) : Option (Int) :=
 bnd (q50 N x) fun v0 =>
 some v0
def ps_strings_Contains : List PK := [.k (.v (.str) []), .k (.v (.str) [])]
def rs_strings_Contains : List Kd := [.v (.bool) []]
def strings_Contains (N : Nat) (x : List UInt8 × List UInt8) : Option (Bool) := hand_strings_Contains N x
def ps_q52 : List PK := [.k (.v (.str) [])]
def rs_q52 : List Kd := [.v (.int .i64) []]
def q52 (N : Nat) (x : List UInt8) : Option (Int) :=
 jn (fun (v0 : Int) =>
  some v0)
 fun v1 =>
 fixN (fun v2 (v3 : Int × (List UInt8) × Int) =>
  cnd (nlt (toN v3.2.2) (nlen v3.2.1))
   (v2 (w64 (iadd v3.1 1), v3.2.1, ofN (nadd (toN v3.2.2) (decW v3.2.1 (toN v3.2.2)))))
   (v1 v3.1)) N (0, x, ofN 0)
def ps_q53 : List PK := [.k (.v (.str) [])]
def rs_q53 : List Kd := [.v (.int .i64) []]
def q53 (N : Nat) (x : List UInt8) : Option (Int) :=
 bnd (q14 N x) fun v0 =>
 cnd (bnot v0)
  (some (-1))
  (bnd (q52 N x) fun v1 =>
  some v1)
def ps_q54 : List PK := [.k (.v (.st Y5) [])]
def rs_q54 : List Kd := [.v (.int .i64) []]
def q54 (N : Nat) (x : List D3) : Option (Int) :=
 jn (fun (v0 : Int) =>
  some v0)
 fun v1 =>
 fixN (fun v2 (v3 : Int × Int) =>
  cnd (ilt v3.2 (len x))
   (grd (inb v3.2 (len x))
    (bnd (q53 N (lget x (toN v3.2) ([], ((0, (false, false)), []))).1) fun v4 =>
    cnd (ilt v4 0)
     (some (-1))
     (v2 (w64 (iadd v3.1 v4), w64 (iadd v3.2 1)))))
   (v1 v3.1)) N (0, 0)
def ps_q55 : List PK := [.k (.v (.st Y5) [])]
def rs_q55 : List Kd := [.v (.int .i64) []]
def q55 (N : Nat) (x : List D3) : Option (Int) :=
 bnd (q17 N x) fun v0 =>
 cnd (ine v0 0)
  (some v0)
  (bnd (q47 N x) fun v1 =>
  cnd (seq v1 ([] : List UInt8))
   (some 4)
   (grd (inb 0 (len v1))
    (cnd (ieq (n8 (lget v1 (toN 0) 0)) (n8 32))
     (some 4)
     (grd (inb (w64 (isub (len v1) 1)) (len v1))
      (cnd (ieq (n8 (lget v1 (toN (w64 (isub (len v1) 1))) 0)) (n8 32))
       (some 4)
       (bnd (strings_Contains N (v1, ([32, 32] : List UInt8))) fun v2 =>
       cnd v2
        (some 4)
        (bnd (q54 N x) fun v3 =>
        cnd (ilt 32 v3)
         (some 11)
         (some 0))))))))
def ps_q56 : List PK := [.k (.v Y1 [])]
def rs_q56 : List Kd := [.v (.slice (.int .i64)) [0]]
def q56 (N : Nat) (x : D1) : Option (List Int) :=
 jn (fun (v0 : List Int) =>
  some v0)
 fun v1 =>
 fixN (fun v2 (v3 : (List Int) × Int) =>
  cnd (ilt v3.2 (len x.2.2.2.2.2))
   (grd (inb v3.2 (len x.2.2.2.2.2))
    (bnd (q54 N (lget x.2.2.2.2.2 (toN v3.2) [])) fun v4 =>
    grd (room (iadd (len v3.1) (len ([v4] : List Int))) 8) <|
    v2 (lapp v3.1 ([v4] : List Int), w64 (iadd v3.2 1))))
   (v1 v3.1)) N (([] : List Int), 0)
def ps_q57 : List PK := [.k (.v Y6 [])]
def rs_q57 : List Kd := [.v (.bool) []]
def q57 (N : Nat) (x : D4) : Option (Bool) :=
 bnd (q41 N ()) fun v0 =>
 cnd (band (seq x.1 v0.1) (band (ieq x.2.1 v0.2.1) (band (ieq x.2.2.1 v0.2.2.1) (band (ieq x.2.2.2.1 v0.2.2.2.1) (band (ieq x.2.2.2.2.1 v0.2.2.2.2.1) (band (ieq (n8 x.2.2.2.2.2.1) (n8 v0.2.2.2.2.2.1)) (beqb x.2.2.2.2.2.2 v0.2.2.2.2.2.2)))))))
  (some true)
  (bnd (q39 N x) fun v1 =>
  some (ieq v1 0))
def ps_q58 : List PK := [.k (.v Y6 []), .k (.v (.slice (.int .i64)) [])]
def rs_q58 : List Kd := [.v (.slice (.st (.pair (.int .i64) (.pair (.int .i64) (.int .i64))))) [0], .v (.int .i64) []]
def q58 (N : Nat) (x : D4 × List Int) : Option ((List (Int × Int × Int)) × Int) :=
 bnd (q57 N x.1) fun v0 =>
 cnd (bnot v0)
  (some (([] : List (Int × Int × Int)), 1))
  (cnd (ilt x.1.2.2.1 (len x.2))
   (some (([] : List (Int × Int × Int)), 9))
   (jn (fun (v1 : Int) =>
    jn (fun (v2 : List (Int × Int × Int)) =>
     some (v2, 0))
    fun v3 =>
    fixN (fun v4 (v5 : (List (Int × Int × Int)) × Int) =>
     cnd (ilt v5.2 (len x.2))
      (grd (inb v5.2 (len x.2))
       (cnd (ilt (lget x.2 (toN v5.2) 0) 0)
        (some (([] : List (Int × Int × Int)), 2))
        (cnd (ilt x.1.2.2.2.2.1 (lget x.2 (toN v5.2) 0))
         (some (([] : List (Int × Int × Int)), 11))
         (cnd (ieq (n8 x.1.2.2.2.2.2.1) (n8 3))
          (grd (room (iadd (len v5.1) (len ([(w64 (iadd v1 v5.2), w64 (iadd x.1.2.2.2.1 (w64 (isub x.1.2.2.2.2.1 (lget x.2 (toN v5.2) 0)))), lget x.2 (toN v5.2) 0)] : List (Int × Int × Int)))) 24)
           (v4 (lapp v5.1 ([(w64 (iadd v1 v5.2), w64 (iadd x.1.2.2.2.1 (w64 (isub x.1.2.2.2.2.1 (lget x.2 (toN v5.2) 0)))), lget x.2 (toN v5.2) 0)] : List (Int × Int × Int)), w64 (iadd v5.2 1))))
          (cnd (ieq (n8 x.1.2.2.2.2.2.1) (n8 2))
           (grd (room (iadd (len v5.1) (len ([(w64 (iadd v1 v5.2), w64 (iadd x.1.2.2.2.1 (w64 (idiv (w64 (isub x.1.2.2.2.2.1 (lget x.2 (toN v5.2) 0))) 2))), lget x.2 (toN v5.2) 0)] : List (Int × Int × Int)))) 24)
            (v4 (lapp v5.1 ([(w64 (iadd v1 v5.2), w64 (iadd x.1.2.2.2.1 (w64 (idiv (w64 (isub x.1.2.2.2.2.1 (lget x.2 (toN v5.2) 0))) 2))), lget x.2 (toN v5.2) 0)] : List (Int × Int × Int)), w64 (iadd v5.2 1))))
           (grd (room (iadd (len v5.1) (len ([(w64 (iadd v1 v5.2), x.1.2.2.2.1, lget x.2 (toN v5.2) 0)] : List (Int × Int × Int)))) 24)
            (v4 (lapp v5.1 ([(w64 (iadd v1 v5.2), x.1.2.2.2.1, lget x.2 (toN v5.2) 0)] : List (Int × Int × Int)), w64 (iadd v5.2 1)))))))))
      (v3 v5.1)) N (([] : List (Int × Int × Int)), 0))
   fun v6 =>
   cnd x.1.2.2.2.2.2.2
    (v6 (w64 (iadd x.1.2.1 (w64 (isub x.1.2.2.1 (len x.2))))))
    (v6 x.1.2.1)))
def ps_q59 : List PK := [.k (.v Y1 []), .k (.v (.slice Y6) [])]
def rs_q59 : List Kd := [.v (.int .i64) []]
def q59 (N : Nat) (x : D1 × List D4) : Option (Int) :=
 bnd (q42 N (x.2, x.1.2.2.1)) fun v0 =>
 cnd (ilt x.1.1 1)
  (some 2)
  (cnd (ilt 1099511627776 x.1.1)
   (some 2)
   (bnd (q43 N x.1.2.1) fun v1 =>
   cnd (bnot v1)
    (some 2)
    (cnd (bnot v0.2)
     (some 6)
     (bnd (q45 N x.1.2.2.2.1) fun v2 =>
     cnd (seq v2 ([] : List UInt8))
      (some 3)
      (jn (fun (v3 : Bool) =>
       cnd v3
        (some 5)
        (cnd (ieq (len x.1.2.2.2.2.2) 0)
         (some 9)
         (cnd (ilt 4 (len x.1.2.2.2.2.2))
          (some 9)
          (jn (fun (v4 : Unit) =>
           bnd (q56 N x.1) fun v5 =>
           bnd (q58 N (v0.1, v5)) fun v6 =>
           some v6.2)
          fun v7 =>
          fixN (fun v8 (v9 : Int) =>
           cnd (ilt v9 (len x.1.2.2.2.2.2))
            (grd (inb v9 (len x.1.2.2.2.2.2))
             (bnd (q55 N (lget x.1.2.2.2.2.2 (toN v9) [])) fun v10 =>
             cnd (ine v10 0)
              (some v10)
              (v8 (w64 (iadd v9 1)))))
            (v7 ())) N 0))))
      fun v11 =>
      cnd (sne x.1.2.2.2.2.1 ([] : List UInt8))
       (bnd (q32 N x.1.2.2.2.2.1) fun v12 =>
       v11 (bnot v12))
       (v11 false))))))
def ps_q60 : List PK := [.k (.v (.int .i64) [])]
def rs_q60 : List Kd := [.v (.bool) []]
def q60 (N : Nat) (x : Int) : Option (Bool) :=
 some (ine x x)
def ps_q61 : List PK := [.k (.v (.int .i64) []), .k (.v (.int .i64) [])]
def rs_q61 : List Kd := [.v (.int .i64) []]
def q61 (N : Nat) (x : Int × Int) : Option (Int) :=
 bnd (q60 N x.1) fun v0 =>
 bnd (q60 N x.2) fun v1 =>
 cnd v0
  (cnd v1
   (some 0)
   (some (-1)))
  (cnd v1
   (some 1)
   (cnd (ilt x.1 x.2)
    (some (-1))
    (cnd (ilt x.2 x.1)
     (some 1)
     (some 0))))
def ps_q62 : List PK := [.k (.v (.slice (.int .i64)) [])]
def rs_q62 : List Kd := [.v (.int .i64) []]
def q62 (N : Nat) (x : List Int) : Option (Int) :=
 jn (fun (v0 : Unit) =>
  some 0)
 fun v1 =>
 fixN (fun v2 (v3 : Int) =>
  cnd (ilt v3 (len x))
   (grd (inb v3 (len x))
    (cnd (ine (lget x (toN v3) 0) 0)
     (some (lget x (toN v3) 0))
     (v2 (w64 (iadd v3 1)))))
   (v1 ())) N 0
def ps_q63 : List PK := [.k (.v Y1 []), .k (.v Y1 [])]
def rs_q63 : List Kd := [.v (.bool) []]
def q63 (N : Nat) (x : D1 × Int × (Int × Int) × (List UInt8) × UInt8 × (List UInt8) × List (List D3)) : Option (Bool) :=
 bnd (q61 N (x.1.2.1.1, x.2.2.1.1)) fun v0 =>
 bnd (q61 N (x.1.1, x.2.1)) fun v1 =>
 bnd (q62 N ([v0, v1] : List Int)) fun v2 =>
 some (ilt v2 0)
def ps_q64 : List PK := [.k (.v Y1 [])]
def rs_q64 : List Kd := [.v (.int .i64) []]
def q64 (N : Nat) (x : D1) : Option (Int) :=
 jn (fun (v0 : Int) =>
  some v0)
 fun v1 =>
 bnd (q56 N x) fun v2 =>
 fixN (fun v3 (v4 : Int × Int) =>
  cnd (ilt v4.2 (len v2))
   (grd (inb v4.2 (len v2))
    (cnd (ilt (lget v2 (toN v4.2) 0) 0)
     (some (-1))
     (v3 (w64 (iadd v4.1 (lget v2 (toN v4.2) 0)), w64 (iadd v4.2 1)))))
   (v1 v4.1)) N (imax (w64 (isub (len x.2.2.2.2.2) 1)) 0, 0)
def ps_q65 : List PK := [.k (.v Y3 []), .k (.v Y9 []), .k (.m (.int .i64) (.int .i64))]
def rs_q65 : List Kd := [.v (.int .i64) []]
def q65 (N : Nat) (x : D7 × D5 × List (Int × Int)) : Option (Int × List (Int × Int)) :=
 cnd (ilt x.2.1.2.1 1)
  (some (2, x.2.2))
  (cnd (ilt x.1.2.2.2.2.1 x.2.1.2.1)
   (some (2, x.2.2))
   (cnd x.2.1.2.2.2.2.2.2.2
    (cnd (ine x.2.1.2.2.1 0)
     (some (2, x.2.2))
     (cnd (ine x.2.1.2.2.2.1 0)
      (some (2, x.2.2))
      (some (0, x.2.2))))
    (cnd (bnot (mhas ieq x.2.2 x.2.1.2.1))
     (some (6, x.2.2))
     (cnd (ilt x.2.1.2.2.1 0)
      (some (2, x.2.2))
      (cnd (ile x.2.1.2.2.2.1 x.2.1.2.2.1)
       (some (2, x.2.2))
       (grd (inb (mget ieq 0 x.2.2 x.2.1.2.1) (len x.1.2.2.2.2.2.2.1))
        (bnd (q64 N (lget x.1.2.2.2.2.2.2.1 (toN (mget ieq 0 x.2.2 x.2.1.2.1)) (0, ((0, 0), ([], (0, ([], []))))))) fun v0 =>
        cnd (ilt v0 x.2.1.2.2.2.1)
         (some (2, x.2.2))
         (some (0, x.2.2)))))))))
def ps_q66 : List PK := [.k (.v Y3 []), .k (.m (.int .i64) (.int .i64))]
def rs_q66 : List Kd := [.v (.int .i64) []]
def q66 (N : Nat) (x : D7 × List (Int × Int)) : Option (Int × List (Int × Int)) :=
 cnd (ilt 64 (len x.1.2.2.2.2.2.2.2))
  (some (9, x.2))
  (jn (fun (v0 : List (Int × Int)) =>
   some (0, v0))
  fun v1 =>
  fixN (fun v2 (v3 : Int × List (Int × Int)) =>
   cnd (ilt v3.1 (len x.1.2.2.2.2.2.2.2))
    (grd (inb v3.1 (len x.1.2.2.2.2.2.2.2))
     (jn (fun (v4 : Unit) =>
      bnd (q65 N (x.1, lget x.1.2.2.2.2.2.2.2 (toN v3.1) (0, (0, (0, (0, ([], ([], (false, false))))))), v3.2)) fun v5 =>
      cnd (ine v5.1 0)
       (some v5)
       (bnd (q32 N (lget x.1.2.2.2.2.2.2.2 (toN v3.1) (0, (0, (0, (0, ([], ([], (false, false)))))))).2.2.2.2.1) fun v6 =>
       cnd (bnot v6)
        (some (5, v5.2))
        (bnd (q14 N (lget x.1.2.2.2.2.2.2.2 (toN v3.1) (0, (0, (0, (0, ([], ([], (false, false)))))))).2.2.2.2.2.1) fun v7 =>
        cnd (bnot v7)
         (some (10, v5.2))
         (cnd (seq (lget x.1.2.2.2.2.2.2.2 (toN v3.1) (0, (0, (0, (0, ([], ([], (false, false)))))))).2.2.2.2.2.1 ([] : List UInt8))
          (some (4, v5.2))
          (cnd (ilt 400 (len (lget x.1.2.2.2.2.2.2.2 (toN v3.1) (0, (0, (0, (0, ([], ([], (false, false)))))))).2.2.2.2.2.1))
           (some (9, v5.2))
           (v2 (w64 (iadd v3.1 1), v5.2)))))))
     fun v8 =>
     cnd (ilt (lget x.1.2.2.2.2.2.2.2 (toN v3.1) (0, (0, (0, (0, ([], ([], (false, false)))))))).1 1)
      (some (2, v3.2))
      (cnd (ilt x.1.2.2.2.2.1 (lget x.1.2.2.2.2.2.2.2 (toN v3.1) (0, (0, (0, (0, ([], ([], (false, false)))))))).1)
       (some (2, v3.2))
       (cnd (ilt 0 v3.1)
        (grd (inb (w64 (isub v3.1 1)) (len x.1.2.2.2.2.2.2.2))
         (cnd (ile (lget x.1.2.2.2.2.2.2.2 (toN v3.1) (0, (0, (0, (0, ([], ([], (false, false)))))))).1 (lget x.1.2.2.2.2.2.2.2 (toN (w64 (isub v3.1 1))) (0, (0, (0, (0, ([], ([], (false, false)))))))).1)
          (some (8, v3.2))
          (cnd (mhas ieq v3.2 (lget x.1.2.2.2.2.2.2.2 (toN v3.1) (0, (0, (0, (0, ([], ([], (false, false)))))))).1)
           (some (7, v3.2))
           (v8 ()))))
        (cnd (mhas ieq v3.2 (lget x.1.2.2.2.2.2.2.2 (toN v3.1) (0, (0, (0, (0, ([], ([], (false, false)))))))).1)
         (some (7, v3.2))
         (v8 ()))))))
    (v1 v3.2)) N (0, x.2))
def ps_q67 : List PK := [.k (.v Y3 [])]
def rs_q67 : List Kd := [.v (.int .i64) []]
def q67 (N : Nat) (x : D7) : Option (Int) :=
 bnd (q37 N x) fun v0 =>
 cnd (ine v0 0)
  (some v0)
  (bnd (q40 N x.2.2.2.2.2.1) fun v1 =>
  cnd (ine v1 0)
   (some v1)
   (cnd (ilt 400 (len x.2.2.2.2.2.2.1))
    (some 9)
    (jn (fun (v2 : List (Int × Int)) =>
     bnd (q66 N (x, v2)) fun v3 =>
     some v3.1)
    fun v4 =>
    fixN (fun v5 (v6 : Int × List (Int × Int)) =>
     cnd (ilt v6.1 (len x.2.2.2.2.2.2.1))
      (grd (inb v6.1 (len x.2.2.2.2.2.2.1))
       (bnd (q59 N (lget x.2.2.2.2.2.2.1 (toN v6.1) (0, ((0, 0), ([], (0, ([], []))))), x.2.2.2.2.2.1)) fun v7 =>
       cnd (ine v7 0)
        (some v7)
        (cnd (ilt x.2.2.2.2.1 (lget x.2.2.2.2.2.2.1 (toN v6.1) (0, ((0, 0), ([], (0, ([], [])))))).1)
         (some 2)
         (cnd (ilt 0 v6.1)
          (grd (inb (w64 (isub v6.1 1)) (len x.2.2.2.2.2.2.1))
           (bnd (q63 N (lget x.2.2.2.2.2.2.1 (toN (w64 (isub v6.1 1))) (0, ((0, 0), ([], (0, ([], []))))), lget x.2.2.2.2.2.2.1 (toN v6.1) (0, ((0, 0), ([], (0, ([], []))))))) fun v8 =>
           cnd (bnot v8)
            (some 8)
            (cnd (mhas ieq v6.2 (lget x.2.2.2.2.2.2.1 (toN v6.1) (0, ((0, 0), ([], (0, ([], [])))))).1)
             (some 7)
             (v5 (w64 (iadd v6.1 1), mput ieq v6.2 (lget x.2.2.2.2.2.2.1 (toN v6.1) (0, ((0, 0), ([], (0, ([], [])))))).1 v6.1)))))
          (cnd (mhas ieq v6.2 (lget x.2.2.2.2.2.2.1 (toN v6.1) (0, ((0, 0), ([], (0, ([], [])))))).1)
           (some 7)
           (v5 (w64 (iadd v6.1 1), mput ieq v6.2 (lget x.2.2.2.2.2.2.1 (toN v6.1) (0, ((0, 0), ([], (0, ([], [])))))).1 v6.1)))))))
      (v4 v6.2)) N (0, ([] : List (Int × Int))))))
def ps_q68 : List PK := [.k (.v Y1 []), .k (.v (.slice Y6) [])]
def rs_q68 : List Kd := [.v (.slice (.st (.pair (.int .i64) (.pair (.int .i64) (.int .i64))))) [0], .v (.int .i64) []]
def q68 (N : Nat) (x : D1 × List D4) : Option ((List (Int × Int × Int)) × Int) :=
 bnd (q42 N (x.2, x.1.2.2.1)) fun v0 =>
 cnd (bnot v0.2)
  (some (([] : List (Int × Int × Int)), 6))
  (bnd (q56 N x.1) fun v1 =>
  jn (fun (v2 : Unit) =>
   bnd (q58 N (v0.1, v1)) fun v3 =>
   some v3)
  fun v4 =>
  fixN (fun v5 (v6 : Int) =>
   cnd (ilt v6 (len v1))
    (grd (inb v6 (len v1))
     (cnd (ilt (lget v1 (toN v6) 0) 0)
      (some (([] : List (Int × Int × Int)), 10))
      (v5 (w64 (iadd v6 1)))))
    (v4 ())) N 0)
def ps_q69 : List PK := [.k (.v Y3 []), .k (.v Y1 [])]
def rs_q69 : List Kd := [.v (.st (.pair (.int .i64) (.u8))) []]
def q69 (N : Nat) (x : D7 × Int × (Int × Int) × (List UInt8) × UInt8 × (List UInt8) × List (List D3)) : Option (Int × UInt8) :=
 bnd (q68 N (x.2, x.1.2.2.2.2.2.1)) fun v0 =>
 bnd (q42 N (x.1.2.2.2.2.2.1, x.2.2.2.1)) fun v1 =>
 grd (inb 0 (len v0.1)) <|
 some ((lget v0.1 (toN 0) (0, (0, 0))).1, v1.1.2.2.2.2.2.1)
def ps_q70 : List PK := [.k (.v (.int .i64) [])]
def rs_q70 : List Kd := [.v (.str) []]
def q70 (N : Nat) (x : Int) : Option (List UInt8) :=
 cnd (ilt x 10)
  (grd (in3 x (w64 (iadd x 1)) (len ([48, 49, 50, 51, 52, 53, 54, 55, 56, 57, 97, 98, 99, 100, 101, 102, 103, 104, 105, 106, 107, 108, 109, 110, 111, 112, 113, 114, 115, 116, 117, 118, 119, 120, 121, 122] : List UInt8)))
   (some (ldrop (toN x) (ltake (toN (w64 (iadd x 1))) ([48, 49, 50, 51, 52, 53, 54, 55, 56, 57, 97, 98, 99, 100, 101, 102, 103, 104, 105, 106, 107, 108, 109, 110, 111, 112, 113, 114, 115, 116, 117, 118, 119, 120, 121, 122] : List UInt8)))))
  (grd (in3 (w64 (imul x 2)) (w64 (iadd (w64 (imul x 2)) 2)) (len ([48, 48, 48, 49, 48, 50, 48, 51, 48, 52, 48, 53, 48, 54, 48, 55, 48, 56, 48, 57, 49, 48, 49, 49, 49, 50, 49, 51, 49, 52, 49, 53, 49, 54, 49, 55, 49, 56, 49, 57, 50, 48, 50, 49, 50, 50, 50, 51, 50, 52, 50, 53, 50, 54, 50, 55, 50, 56, 50, 57, 51, 48, 51, 49, 51, 50, 51, 51, 51, 52, 51, 53, 51, 54, 51, 55, 51, 56, 51, 57, 52, 48, 52, 49, 52, 50, 52, 51, 52, 52, 52, 53, 52, 54, 52, 55, 52, 56, 52, 57, 53, 48, 53, 49, 53, 50, 53, 51, 53, 52, 53, 53, 53, 54, 53, 55, 53, 56, 53, 57, 54, 48, 54, 49, 54, 50, 54, 51, 54, 52, 54, 53, 54, 54, 54, 55, 54, 56, 54, 57, 55, 48, 55, 49, 55, 50, 55, 51, 55, 52, 55, 53, 55, 54, 55, 55, 55, 56, 55, 57, 56, 48, 56, 49, 56, 50, 56, 51, 56, 52, 56, 53, 56, 54, 56, 55, 56, 56, 56, 57, 57, 48, 57, 49, 57, 50, 57, 51, 57, 52, 57, 53, 57, 54, 57, 55, 57, 56, 57, 57] : List UInt8)))
   (some (ldrop (toN (w64 (imul x 2))) (ltake (toN (w64 (iadd (w64 (imul x 2)) 2))) ([48, 48, 48, 49, 48, 50, 48, 51, 48, 52, 48, 53, 48, 54, 48, 55, 48, 56, 48, 57, 49, 48, 49, 49, 49, 50, 49, 51, 49, 52, 49, 53, 49, 54, 49, 55, 49, 56, 49, 57, 50, 48, 50, 49, 50, 50, 50, 51, 50, 52, 50, 53, 50, 54, 50, 55, 50, 56, 50, 57, 51, 48, 51, 49, 51, 50, 51, 51, 51, 52, 51, 53, 51, 54, 51, 55, 51, 56, 51, 57, 52, 48, 52, 49, 52, 50, 52, 51, 52, 52, 52, 53, 52, 54, 52, 55, 52, 56, 52, 57, 53, 48, 53, 49, 53, 50, 53, 51, 53, 52, 53, 53, 53, 54, 53, 55, 53, 56, 53, 57, 54, 48, 54, 49, 54, 50, 54, 51, 54, 52, 54, 53, 54, 54, 54, 55, 54, 56, 54, 57, 55, 48, 55, 49, 55, 50, 55, 51, 55, 52, 55, 53, 55, 54, 55, 55, 55, 56, 55, 57, 56, 48, 56, 49, 56, 50, 56, 51, 56, 52, 56, 53, 56, 54, 56, 55, 56, 56, 56, 57, 57, 48, 57, 49, 57, 50, 57, 51, 57, 52, 57, 53, 57, 54, 57, 55, 57, 56, 57, 57] : List UInt8)))))
def ps_q71 : List PK := [.k (.v (.int .u64) [])]
def rs_q71 : List Kd := [.v (.int .i64) []]
def q71 (N : Nat) (x : Int) : Option (Int) :=
 jn (fun (v0 : Int × Int) =>
  jn (fun (v1 : Int × Int) =>
   cnd (ile 256 v1.1)
    (grd (inb (n8 (b8 (shrk .u64 v1.1 8))) (len ([0, 1, 2, 2, 3, 3, 3, 3, 4, 4, 4, 4, 4, 4, 4, 4, 5, 5, 5, 5, 5, 5, 5, 5, 5, 5, 5, 5, 5, 5, 5, 5, 6, 6, 6, 6, 6, 6, 6, 6, 6, 6, 6, 6, 6, 6, 6, 6, 6, 6, 6, 6, 6, 6, 6, 6, 6, 6, 6, 6, 6, 6, 6, 6, 7, 7, 7, 7, 7, 7, 7, 7, 7, 7, 7, 7, 7, 7, 7, 7, 7, 7, 7, 7, 7, 7, 7, 7, 7, 7, 7, 7, 7, 7, 7, 7, 7, 7, 7, 7, 7, 7, 7, 7, 7, 7, 7, 7, 7, 7, 7, 7, 7, 7, 7, 7, 7, 7, 7, 7, 7, 7, 7, 7, 7, 7, 7, 7, 8, 8, 8, 8, 8, 8, 8, 8, 8, 8, 8, 8, 8, 8, 8, 8, 8, 8, 8, 8, 8, 8, 8, 8, 8, 8, 8, 8, 8, 8, 8, 8, 8, 8, 8, 8, 8, 8, 8, 8, 8, 8, 8, 8, 8, 8, 8, 8, 8, 8, 8, 8, 8, 8, 8, 8, 8, 8, 8, 8, 8, 8, 8, 8, 8, 8, 8, 8, 8, 8, 8, 8, 8, 8, 8, 8, 8, 8, 8, 8, 8, 8, 8, 8, 8, 8, 8, 8, 8, 8, 8, 8, 8, 8, 8, 8, 8, 8, 8, 8, 8, 8, 8, 8, 8, 8, 8, 8, 8, 8, 8, 8, 8, 8, 8, 8, 8, 8, 8, 8, 8, 8, 8, 8, 8, 8, 8, 8] : List UInt8)))
     (some (w64 (iadd (w64 (iadd v1.2 8)) (w64 (n8 (lget ([0, 1, 2, 2, 3, 3, 3, 3, 4, 4, 4, 4, 4, 4, 4, 4, 5, 5, 5, 5, 5, 5, 5, 5, 5, 5, 5, 5, 5, 5, 5, 5, 6, 6, 6, 6, 6, 6, 6, 6, 6, 6, 6, 6, 6, 6, 6, 6, 6, 6, 6, 6, 6, 6, 6, 6, 6, 6, 6, 6, 6, 6, 6, 6, 7, 7, 7, 7, 7, 7, 7, 7, 7, 7, 7, 7, 7, 7, 7, 7, 7, 7, 7, 7, 7, 7, 7, 7, 7, 7, 7, 7, 7, 7, 7, 7, 7, 7, 7, 7, 7, 7, 7, 7, 7, 7, 7, 7, 7, 7, 7, 7, 7, 7, 7, 7, 7, 7, 7, 7, 7, 7, 7, 7, 7, 7, 7, 7, 8, 8, 8, 8, 8, 8, 8, 8, 8, 8, 8, 8, 8, 8, 8, 8, 8, 8, 8, 8, 8, 8, 8, 8, 8, 8, 8, 8, 8, 8, 8, 8, 8, 8, 8, 8, 8, 8, 8, 8, 8, 8, 8, 8, 8, 8, 8, 8, 8, 8, 8, 8, 8, 8, 8, 8, 8, 8, 8, 8, 8, 8, 8, 8, 8, 8, 8, 8, 8, 8, 8, 8, 8, 8, 8, 8, 8, 8, 8, 8, 8, 8, 8, 8, 8, 8, 8, 8, 8, 8, 8, 8, 8, 8, 8, 8, 8, 8, 8, 8, 8, 8, 8, 8, 8, 8, 8, 8, 8, 8, 8, 8, 8, 8, 8, 8, 8, 8, 8, 8, 8, 8, 8, 8, 8, 8, 8, 8] : List UInt8) (toN (n8 (b8 (shrk .u64 v1.1 8)))) 0)))))))
    (grd (inb (n8 (b8 v1.1)) (len ([0, 1, 2, 2, 3, 3, 3, 3, 4, 4, 4, 4, 4, 4, 4, 4, 5, 5, 5, 5, 5, 5, 5, 5, 5, 5, 5, 5, 5, 5, 5, 5, 6, 6, 6, 6, 6, 6, 6, 6, 6, 6, 6, 6, 6, 6, 6, 6, 6, 6, 6, 6, 6, 6, 6, 6, 6, 6, 6, 6, 6, 6, 6, 6, 7, 7, 7, 7, 7, 7, 7, 7, 7, 7, 7, 7, 7, 7, 7, 7, 7, 7, 7, 7, 7, 7, 7, 7, 7, 7, 7, 7, 7, 7, 7, 7, 7, 7, 7, 7, 7, 7, 7, 7, 7, 7, 7, 7, 7, 7, 7, 7, 7, 7, 7, 7, 7, 7, 7, 7, 7, 7, 7, 7, 7, 7, 7, 7, 8, 8, 8, 8, 8, 8, 8, 8, 8, 8, 8, 8, 8, 8, 8, 8, 8, 8, 8, 8, 8, 8, 8, 8, 8, 8, 8, 8, 8, 8, 8, 8, 8, 8, 8, 8, 8, 8, 8, 8, 8, 8, 8, 8, 8, 8, 8, 8, 8, 8, 8, 8, 8, 8, 8, 8, 8, 8, 8, 8, 8, 8, 8, 8, 8, 8, 8, 8, 8, 8, 8, 8, 8, 8, 8, 8, 8, 8, 8, 8, 8, 8, 8, 8, 8, 8, 8, 8, 8, 8, 8, 8, 8, 8, 8, 8, 8, 8, 8, 8, 8, 8, 8, 8, 8, 8, 8, 8, 8, 8, 8, 8, 8, 8, 8, 8, 8, 8, 8, 8, 8, 8, 8, 8, 8, 8, 8, 8] : List UInt8)))
     (some (w64 (iadd v1.2 (w64 (n8 (lget ([0, 1, 2, 2, 3, 3, 3, 3, 4, 4, 4, 4, 4, 4, 4, 4, 5, 5, 5, 5, 5, 5, 5, 5, 5, 5, 5, 5, 5, 5, 5, 5, 6, 6, 6, 6, 6, 6, 6, 6, 6, 6, 6, 6, 6, 6, 6, 6, 6, 6, 6, 6, 6, 6, 6, 6, 6, 6, 6, 6, 6, 6, 6, 6, 7, 7, 7, 7, 7, 7, 7, 7, 7, 7, 7, 7, 7, 7, 7, 7, 7, 7, 7, 7, 7, 7, 7, 7, 7, 7, 7, 7, 7, 7, 7, 7, 7, 7, 7, 7, 7, 7, 7, 7, 7, 7, 7, 7, 7, 7, 7, 7, 7, 7, 7, 7, 7, 7, 7, 7, 7, 7, 7, 7, 7, 7, 7, 7, 8, 8, 8, 8, 8, 8, 8, 8, 8, 8, 8, 8, 8, 8, 8, 8, 8, 8, 8, 8, 8, 8, 8, 8, 8, 8, 8, 8, 8, 8, 8, 8, 8, 8, 8, 8, 8, 8, 8, 8, 8, 8, 8, 8, 8, 8, 8, 8, 8, 8, 8, 8, 8, 8, 8, 8, 8, 8, 8, 8, 8, 8, 8, 8, 8, 8, 8, 8, 8, 8, 8, 8, 8, 8, 8, 8, 8, 8, 8, 8, 8, 8, 8, 8, 8, 8, 8, 8, 8, 8, 8, 8, 8, 8, 8, 8, 8, 8, 8, 8, 8, 8, 8, 8, 8, 8, 8, 8, 8, 8, 8, 8, 8, 8, 8, 8, 8, 8, 8, 8, 8, 8, 8, 8, 8, 8, 8, 8] : List UInt8) (toN (n8 (b8 v1.1))) 0))))))))
  fun v2 =>
  cnd (ile 65536 v0.1)
   (v2 (shrk .u64 v0.1 16, w64 (iadd v0.2 16)))
   (v2 v0))
 fun v3 =>
 cnd (ile 4294967296 x)
  (v3 (shrk .u64 x 32, 32))
  (v3 (x, 0))
def ps_q72 : List PK := [.k (.v (.int .i64) [])]
def rs_q72 : List Kd := [.v (.int .i64) []]
def q72 (N : Nat) (x : Int) : Option (Int) :=
 some (shrk .i64 (w64 (imul x 78913)) 18)
def ps_q73 : List PK := [.k (.v (.bool) [])]
def rs_q73 : List Kd := [.v (.int .i64) []]
def q73 (N : Nat) (x : Bool) : Option (Int) :=
 cnd x
  (some 1)
  (some 0)
def ps_q74 : List PK := [.k (.v (.int .i64) [])]
def rs_q74 : List Kd := [.v (.bool) []]
def q74 (N : Nat) (x : Int) : Option (Bool) :=
 some (ieq (bitb .and .i64 x (w64 (isub x 1))) 0)
def ps_q75 : List PK := [.k (.v (.int .u32) [])]
def rs_q75 : List Kd := [.v (.int .i64) []]
def q75 (N : Nat) (x : Int) : Option (Int) :=
 cnd (ieq x 0)
  (some 32)
  none
def ps_q76 : List PK := [.k (.v (.int .u64) [])]
def rs_q76 : List Kd := [.v (.int .i64) []]
def q76 (N : Nat) (x : Int) : Option (Int) :=
 cnd (ieq x 0)
  (some 64)
  none
def ps_q77 : List PK := [.k (.v (.int .u64) [])]
def rs_q77 : List Kd := [.v (.int .i64) []]
def q77 (N : Nat) (x : Int) : Option (Int) :=
 bnd (q76 N x) fun v0 =>
 some v0
def ps_q78 : List PK := [.k (.v (.int .i64) []), .k (.v (.int .i64) [])]
def rs_q78 : List Kd := [.v (.str) []]
def q78 (N : Nat) (x : Int × Int) : Option (List UInt8) :=
 cnd (ieq x.2 10)
  (cnd (ile 0 x.1)
   (cnd (ilt x.1 100)
    (bnd (q70 N x.1) fun v0 =>
    some v0)
    none)
   none)
  none
def ps_q79 : List PK := [.k (.v (.int .i64) []), .k (.v (.int .i64) [])]
def rs_q79 : List Kd := [.v (.str) []]
def q79 (N : Nat) (x : Int × Int) : Option (List UInt8) :=
 bnd (q78 N x) fun v0 =>
 some v0
def ps_q80 : List PK := [.k (.v (.int .i64) [])]
def rs_q80 : List Kd := [.v (.str) []]
def q80 (N : Nat) (x : Int) : Option (List UInt8) :=
 bnd (q79 N (x, 10)) fun v0 =>
 some v0
def ps_q81 : List PK := [.k (.v (.st (.pair (.int .i64) (.u8))) [])]
def rs_q81 : List Kd := [.v Y6 []]
def q81 (N : Nat) (x : Int × UInt8) : Option D4 :=
 bnd (q80 N x.1) fun v0 =>
 jn (fun (v1 : List UInt8) =>
  grd (catOk (iadd (len ([82] : List UInt8)) (len v1))) <|
  grd (in3 (n8 (b8 (isub (n8 x.2) (n8 1)))) (n8 x.2) (len ([76, 67, 82] : List UInt8))) <|
  grd (catOk (iadd (len (lapp ([82] : List UInt8) v1)) (len (ldrop (toN (n8 (b8 (isub (n8 x.2) (n8 1))))) (ltake (toN (n8 x.2)) ([76, 67, 82] : List UInt8)))))) <|
  some (lapp (lapp ([82] : List UInt8) v1) (ldrop (toN (n8 (b8 (isub (n8 x.2) (n8 1))))) (ltake (toN (n8 x.2)) ([76, 67, 82] : List UInt8))), x.1, w64 (isub 15 x.1), 0, 32, x.2, false))
 fun v2 =>
 cnd (ilt x.1 10)
  (grd (catOk (iadd (len ([48] : List UInt8)) (len v0)))
   (v2 (lapp ([48] : List UInt8) v0)))
  (v2 v0)
def ps_stl_add : List PK := [.k (.v (.slice Y6) []), .k (.v Y6 [])]
def rs_stl_add : List Kd := [.v (.slice Y6) []]
def stl_add (N : Nat) (x : (List D4) × (List UInt8) × Int × Int × Int × Int × UInt8 × Bool) : Option (List D4) :=
 jn (fun (v0 : Int) =>
  jn (fun (v1 : Unit) =>
   grd (in2 v0 (len x.1)) <|
   grd (room (iadd (len ([] : List D4)) (len (ltake (toN v0) x.1))) 56) <|
   grd (room (iadd (len (lapp ([] : List D4) (ltake (toN v0) x.1))) (len ([x.2] : List D4))) 56) <|
   grd (in2 v0 (len x.1)) <|
   grd (room (iadd (len (lapp (lapp ([] : List D4) (ltake (toN v0) x.1)) ([x.2] : List D4))) (len (ldrop (toN v0) x.1))) 56) <|
   some (lapp (lapp (lapp ([] : List D4) (ltake (toN v0) x.1)) ([x.2] : List D4)) (ldrop (toN v0) x.1)))
  fun v2 =>
  cnd (ilt v0 (len x.1))
   (grd (inb v0 (len x.1))
    (cnd (seq (lget x.1 (toN v0) ([], (0, (0, (0, (0, (0, false))))))).1 x.2.1)
     (some x.1)
     (v2 ())))
   (v2 ()))
 fun v3 =>
 fixN (fun v4 (v5 : Int) =>
  cnd (ilt v5 (len x.1))
   (grd (inb v5 (len x.1))
    (cnd (slt (lget x.1 (toN v5) ([], (0, (0, (0, (0, (0, false))))))).1 x.2.1)
     (v4 (w64 (iadd v5 1)))
     (v3 v5)))
   (v3 v5)) N 0
def ps_q82 : List PK := [.k (.v Y5 [])]
def rs_q82 : List Kd := [.v (.st Y5) [0]]
def q82 (N : Nat) (x : List D3) : Option (List D3) :=
 jn (fun (v0 : List D3) =>
  some v0)
 fun v1 =>
 fixN (fun v2 (v3 : Int × List D3) =>
  cnd (ilt v3.1 (len x))
   (grd (inb v3.1 (len x))
    (cnd (seq (lget x (toN v3.1) ([], ((0, (false, false)), []))).1 ([] : List UInt8))
     (v2 (w64 (iadd v3.1 1), v3.2))
     (cnd (ilt 0 (len v3.2))
      (grd (inb (w64 (isub (len v3.2) 1)) (len v3.2))
       (bnd (q16 N (lget v3.2 (toN (w64 (isub (len v3.2) 1))) ([], ((0, (false, false)), [])), lget x (toN v3.1) ([], ((0, (false, false)), [])))) fun v4 =>
       cnd v4
        (grd (inb (w64 (isub (len v3.2) 1)) (len v3.2))
         (grd (catOk (iadd (len (lget v3.2 (toN (w64 (isub (len v3.2) 1))) ([], ((0, (false, false)), []))).1) (len (lget x (toN v3.1) ([], ((0, (false, false)), []))).1)))
          (grd (inb (w64 (isub (len v3.2) 1)) (len v3.2))
           (v2 (w64 (iadd v3.1 1), lset v3.2 (toN (w64 (isub (len v3.2) 1))) (lapp (lget v3.2 (toN (w64 (isub (len v3.2) 1))) ([], ((0, (false, false)), []))).1 (lget x (toN v3.1) ([], ((0, (false, false)), []))).1, (lget v3.2 (toN (w64 (isub (len v3.2) 1))) ([], ((0, (false, false)), []))).2))))))
        (grd (room (iadd (len v3.2) (len ([lget x (toN v3.1) ([], ((0, (false, false)), []))] : List D3))) 40)
         (v2 (w64 (iadd v3.1 1), lapp v3.2 ([lget x (toN v3.1) ([], ((0, (false, false)), []))] : List D3))))))
      (grd (room (iadd (len v3.2) (len ([lget x (toN v3.1) ([], ((0, (false, false)), []))] : List D3))) 40)
       (v2 (w64 (iadd v3.1 1), lapp v3.2 ([lget x (toN v3.1) ([], ((0, (false, false)), []))] : List D3)))))))
   (v1 v3.2)) N (0, ([] : List D3))
def ps_q83 : List PK := [.k (.v (.st Y5) [])]
def rs_q83 : List Kd := [.v (.st Y5) [0]]
def q83 (N : Nat) (x : List D3) : Option (List D3) :=
 bnd (q82 N x) fun v0 =>
 some v0
def ps_stl_bare : List PK := [.k (.v (.slice (.st Y5)) [])]
def rs_stl_bare : List Kd := [.v (.slice (.st Y5)) [0]]
def stl_bare (N : Nat) (x : List (List D3)) : Option (List (List D3)) :=
 jn (fun (v0 : List (List D3)) =>
  some v0)
 fun v1 =>
 fixN (fun v2 (v3 : (List (List D3)) × Int) =>
  cnd (ilt v3.2 (len x))
   (jn (fun (v4 : List (List D3)) =>
    v2 (v4, w64 (iadd v3.2 1)))
   fun v5 =>
   grd (inb v3.2 (len x)) <|
   jn (fun (v6 : List D3) =>
    bnd (q83 N v6) fun v7 =>
    grd (room (iadd (len v3.1) (len ([v7] : List (List D3)))) 24) <|
    v5 (lapp v3.1 ([v7] : List (List D3))))
   fun v8 =>
   fixN (fun v9 (v10 : Int × List D3) =>
    cnd (ilt v10.1 (len (lget x (toN v3.2) [])))
     (grd (inb v10.1 (len (lget x (toN v3.2) [])))
      (grd (room (iadd (len v10.2) (len ([((lget (lget x (toN v3.2) []) (toN v10.1) ([], ((0, (false, false)), []))).1, (lget (lget x (toN v3.2) []) (toN v10.1) ([], ((0, (false, false)), []))).2.1, ([] : List UInt8))] : List D3))) 40)
       (v9 (w64 (iadd v10.1 1), lapp v10.2 ([((lget (lget x (toN v3.2) []) (toN v10.1) ([], ((0, (false, false)), []))).1, (lget (lget x (toN v3.2) []) (toN v10.1) ([], ((0, (false, false)), []))).2.1, ([] : List UInt8))] : List D3)))))
     (v8 v10.2)) N (0, ([] : List D3)))
   (v1 v3.1)) N (([] : List (List D3)), 0)
def ps_q84 : List PK := [.k (.v Y3 [])]
def rs_q84 : List Kd := [.v Y3 [6, 7]]
def q84 (N : Nat) (x : D7) : Option D7 :=
 bnd (q67 N x) fun v0 =>
 cnd (ine v0 0)
  (some (([] : List UInt8), ([] : List UInt8), 0, false, 0, ([] : List D4), ([] : List D1), ([] : List D5)))
  (jn (fun (v1 : D7) =>
   some v1)
  fun v2 =>
  fixN (fun v3 (v4 : Int × (List UInt8) × (List UInt8) × UInt8 × Bool × Int × (List D4) × (List D1) × List D5) =>
   cnd (ilt v4.1 (len x.2.2.2.2.2.2.1))
    (grd (inb v4.1 (len x.2.2.2.2.2.2.1))
     (bnd (q69 N (x, lget x.2.2.2.2.2.2.1 (toN v4.1) (0, ((0, 0), ([], (0, ([], []))))))) fun v5 =>
     bnd (q81 N v5) fun v6 =>
     bnd (stl_add N (v4.2.2.2.2.2.2.1, v6)) fun v7 =>
     bnd (stl_bare N (lget x.2.2.2.2.2.2.1 (toN v4.1) (0, ((0, 0), ([], (0, ([], [])))))).2.2.2.2.2) fun v8 =>
     grd (room (iadd (len v4.2.2.2.2.2.2.2.1) (len ([(w64 (iadd v4.1 1), (lget x.2.2.2.2.2.2.1 (toN v4.1) (0, ((0, 0), ([], (0, ([], [])))))).2.1, v6.1, 1, ([] : List UInt8), v8)] : List D1))) 88) <|
     v3 (w64 (iadd v4.1 1), v4.2.1, v4.2.2.1, v4.2.2.2.1, v4.2.2.2.2.1, v4.2.2.2.2.2.1, v7, lapp v4.2.2.2.2.2.2.2.1 ([(w64 (iadd v4.1 1), (lget x.2.2.2.2.2.2.1 (toN v4.1) (0, ((0, 0), ([], (0, ([], [])))))).2.1, v6.1, 1, ([] : List UInt8), v8)] : List D1), v4.2.2.2.2.2.2.2.2)))
    (v2 v4.2)) N (0, x.1, x.2.1, x.2.2.1, x.2.2.2.1, len x.2.2.2.2.2.2.1, ([] : List D4), ([] : List D1), ([] : List D5)))
def ps_l24_awake : List PK := []
def rs_l24_awake : List Kd := [.v (.bool) []]
def l24_awake (N : Nat) (x : Unit) : Option (Bool) :=
 bnd (stl_Text N ([([(([97] : List UInt8), (4, true, false), ([] : List UInt8)), (([32, 98] : List UInt8), (0, false, false), ([] : List UInt8))] : List D3)] : List (List D3))) fun v0 =>
 cnd (ine v0.2 0)
  (some false)
  (bnd (q31 N (v0.1, ([1, 128, 97, 7, 129, 32, 98] : List UInt8))) fun v1 =>
  cnd (bnot v1)
   (some false)
   (grd (inb 0 (len ([([(([97] : List UInt8), (4, true, false), ([] : List UInt8)), (([32, 98] : List UInt8), (0, false, false), ([] : List UInt8))] : List D3)] : List (List D3))))
    (grd (inb 0 (len ([([(([97] : List UInt8), (4, true, false), ([] : List UInt8)), (([32, 98] : List UInt8), (0, false, false), ([] : List UInt8))] : List D3)] : List (List D3))))
     (bnd (q84 N (([] : List UInt8), ([] : List UInt8), 3, false, 4, ([] : List D4), ([(4, (0, 50), ([] : List UInt8), 1, ([] : List UInt8), ([lget ([([(([97] : List UInt8), (4, true, false), ([] : List UInt8)), (([32, 98] : List UInt8), (0, false, false), ([] : List UInt8))] : List D3)] : List (List D3)) (toN 0) [], lget ([([(([97] : List UInt8), (4, true, false), ([] : List UInt8)), (([32, 98] : List UInt8), (0, false, false), ([] : List UInt8))] : List D3)] : List (List D3)) (toN 0) []] : List (List D3)))] : List D1), ([] : List D5))) fun v2 =>
     cnd (ieq (len v2.2.2.2.2.2.1) 1)
      (grd (inb 0 (len v2.2.2.2.2.2.1))
       (some (band (seq (lget v2.2.2.2.2.2.1 (toN 0) ([], (0, (0, (0, (0, (0, false))))))).1 ([82, 49, 51, 67] : List UInt8)) (band (ieq (lget v2.2.2.2.2.2.1 (toN 0) ([], (0, (0, (0, (0, (0, false))))))).2.1 13) (band (ieq (lget v2.2.2.2.2.2.1 (toN 0) ([], (0, (0, (0, (0, (0, false))))))).2.2.1 2) (band (ieq (lget v2.2.2.2.2.2.1 (toN 0) ([], (0, (0, (0, (0, (0, false))))))).2.2.2.1 0) (band (ieq (lget v2.2.2.2.2.2.1 (toN 0) ([], (0, (0, (0, (0, (0, false))))))).2.2.2.2.1 32) (band (ieq (n8 (lget v2.2.2.2.2.2.1 (toN 0) ([], (0, (0, (0, (0, (0, false))))))).2.2.2.2.2.1) (n8 2)) (beqb (lget v2.2.2.2.2.2.1 (toN 0) ([], (0, (0, (0, (0, (0, false))))))).2.2.2.2.2.2 false)))))))))
      (some false)))))
def ps_l24_few : List PK := [.k (.v Y3 [])]
def rs_l24_few : List Kd := [.v Y3 []]
def l24_few (N : Nat) (x : D7) : Option D7 :=
 grd (in2 (imin (len x.2.2.2.2.2.2.1) 5) (len x.2.2.2.2.2.2.1)) <|
 grd (in2 (imin (len x.2.2.2.2.2.2.2) 4) (len x.2.2.2.2.2.2.2)) <|
 grd (in2 (imin (len x.2.2.2.2.2.1) 6) (len x.2.2.2.2.2.1)) <|
 some (x.1, x.2.1, x.2.2.1, x.2.2.2.1, x.2.2.2.2.1, ltake (toN (imin (len x.2.2.2.2.2.1) 6)) x.2.2.2.2.2.1, ltake (toN (imin (len x.2.2.2.2.2.2.1) 5)) x.2.2.2.2.2.2.1, ltake (toN (imin (len x.2.2.2.2.2.2.2) 4)) x.2.2.2.2.2.2.2)
def ps_q85 : List PK := [.k (.v (.u8) []), .k (.v (.bool) [])]
def rs_q85 : List Kd := [.v (.int .i64) []]
def q85 (N : Nat) (x : UInt8 × Bool) : Option (Int) :=
 bnd (q34 N x.1) fun v0 =>
 cnd (bnot v0)
  (some 3)
  (cnd x.2
   (bnd (q35 N x.1) fun v1 =>
   cnd (bnot v1)
    (some 13)
    (some 0))
   (some 0))
def ps_q86 : List PK := [.k (.v (.u8) [])]
def rs_q86 : List Kd := [.v (.int .i64) []]
def q86 (N : Nat) (x : UInt8) : Option (Int) :=
 bnd (q33 N x) fun v0 =>
 some v0.2.2.1
def ps_q87 : List PK := [.k (.v (.u8) []), .k (.v (.bool) [])]
def rs_q87 : List Kd := [.v (.int .i64) []]
def q87 (N : Nat) (x : UInt8 × Bool) : Option (Int) :=
 cnd (bnot x.2)
  (some 0)
  (cnd (ieq (n8 x.1) (n8 7))
   (some 4)
   (some 2))
def ps_q88 : List PK := [.k (.v (.u8) []), .k (.v (.bool) [])]
def rs_q88 : List Kd := [.v (.int .i64) []]
def q88 (N : Nat) (x : UInt8 × Bool) : Option (Int) :=
 bnd (q85 N x) fun v0 =>
 cnd (ine v0 0)
  (some 0)
  (bnd (q86 N x.1) fun v1 =>
  bnd (q87 N x) fun v2 =>
  some (w64 (isub (w64 (imul 86400 v1)) (w64 (imul 1296 v2)))))
def ps_q89 : List PK := [.k (.v Y3 [])]
def rs_q89 : List Kd := [.v (.int .i64) [], .v (.int .i64) []]
def q89 (N : Nat) (x : D7) : Option (Int × Int) :=
 bnd (q67 N x) fun v0 =>
 cnd (ine v0 0)
  (some ((-1), v0))
  (jn (fun (v1 : Unit) =>
   jn (fun (v2 : Unit) =>
    some ((-1), 0))
   fun v3 =>
   fixN (fun v4 (v5 : (List D4) × Int) =>
    cnd (ilt v5.2 (len x.2.2.2.2.2.2.1))
     (grd (inb v5.2 (len x.2.2.2.2.2.2.1))
      (bnd (q88 N (x.2.2.1, false)) fun v6 =>
      cnd (ile v6 (lget x.2.2.2.2.2.2.1 (toN v5.2) (0, ((0, 0), ([], (0, ([], [])))))).2.1.2)
       (some (v5.2, 2))
       (bnd (q69 N (x, lget x.2.2.2.2.2.2.1 (toN v5.2) (0, ((0, 0), ([], (0, ([], []))))))) fun v7 =>
       bnd (q81 N v7) fun v8 =>
       bnd (stl_add N (v5.1, v8)) fun v9 =>
       cnd (ilt 16 (len v9))
        (some (v5.2, 9))
        (v4 (v9, w64 (iadd v5.2 1))))))
     (v3 ())) N (([] : List D4), 0))
  fun v10 =>
  cnd (ine (n8 x.2.2.1) (n8 3))
   (cnd (ine (n8 x.2.2.1) (n8 5))
    (some ((-1), 13))
    (v10 ()))
   (v10 ()))
def ps_q90 : List PK := [.k (.v (.u8) []), .k (.v (.bool) []), .k (.v (.int .i64) [])]
def rs_q90 : List Kd := [.v Y7 [], .v (.int .i64) []]
def q90 (N : Nat) (x : UInt8 × Bool × Int) : Option (D6 × Int) :=
 bnd (q85 N (x.1, x.2.1)) fun v0 =>
 cnd (ine v0 0)
  (some ((0, 0, 0, 0, false), v0))
  (cnd (ilt x.2.2 0)
   (some ((0, 0, 0, 0, false), 2))
   (bnd (q88 N (x.1, x.2.1)) fun v1 =>
   cnd (ile v1 x.2.2)
    (some ((0, 0, 0, 0, false), 2))
    (bnd (q86 N x.1) fun v2 =>
    bnd (q87 N (x.1, x.2.1)) fun v3 =>
    grd (ine (w64 (isub (w64 (imul 600 v2)) (w64 (imul 9 v3)))) 0) <|
    grd (ine (w64 (isub (w64 (imul 600 v2)) (w64 (imul 9 v3)))) 0) <|
    jn (fun (v4 : Int) =>
     grd (ine v2 0) <|
     grd (ine v2 0) <|
     some ((w64 (idiv (w64 (idiv v4 v2)) 3600), imod (w64 (idiv (w64 (idiv v4 v2)) 60)) 60, imod (w64 (idiv v4 v2)) 60, imod v4 v2, x.2.1), 0))
    fun v5 =>
    cnd (ile (w64 (imul 60 v2)) (imod x.2.2 (w64 (isub (w64 (imul 600 v2)) (w64 (imul 9 v3))))))
     (grd (ine (w64 (isub (w64 (imul 60 v2)) v3)) 0)
      (v5 (w64 (iadd (w64 (iadd x.2.2 (w64 (imul (w64 (imul 9 v3)) (w64 (idiv x.2.2 (w64 (isub (w64 (imul 600 v2)) (w64 (imul 9 v3)))))))))) (w64 (imul v3 (w64 (iadd (w64 (idiv (w64 (isub (imod x.2.2 (w64 (isub (w64 (imul 600 v2)) (w64 (imul 9 v3))))) (w64 (imul 60 v2)))) (w64 (isub (w64 (imul 60 v2)) v3)))) 1))))))))
     (v5 (w64 (iadd x.2.2 (w64 (imul (w64 (imul 9 v3)) (w64 (idiv x.2.2 (w64 (isub (w64 (imul 600 v2)) (w64 (imul 9 v3))))))))))))))
def ps_q91 : List PK := [.k (.v Y7 [])]
def rs_q91 : List Kd := [.v (.int .i64) []]
def q91 (N : Nat) (x : D6) : Option (Int) :=
 cnd (ilt x.1 0)
  (some 2)
  (cnd (ilt 23 x.1)
   (some 2)
   (cnd (ilt x.2.1 0)
    (some 2)
    (cnd (ilt 59 x.2.1)
     (some 2)
     (cnd (ilt x.2.2.1 0)
      (some 2)
      (cnd (ilt 59 x.2.2.1)
       (some 2)
       (cnd (ilt x.2.2.2.1 0)
        (some 2)
        (cnd (ilt 29 x.2.2.2.1)
         (some 2)
         (some 0))))))))
def ps_bytealg_IndexByte : List PK := [.k (.v Y8 []), .k (.v (.u8) [])]
def rs_bytealg_IndexByte : List Kd := [.v (.int .i64) []]
def bytealg_IndexByte (N : Nat) (x : List UInt8 × UInt8) : Option (Int) := hand_bytealg_IndexByte N x
def ps_q92 : List PK := [.k (.v Y8 []), .k (.v (.u8) [])]
def rs_q92 : List Kd := [.v (.int .i64) []]
def q92 (N : Nat) (x : List UInt8 × UInt8) : Option (Int) :=
 bnd (bytealg_IndexByte N x) fun v0 =>
 some v0
def ps_q93 : List PK := [.k (.v Y2 [])]
def rs_q93 : List Kd := [.v (.int .i64) []]
def q93 (N : Nat) (x : D2) : Option (Int) :=
 cnd (ilt x.1 0)
  (some 2)
  (cnd (ilt 255 x.1)
   (some 2)
   (cnd (ilt x.2.1 0)
    (some 2)
    (cnd (ilt 65535 x.2.1)
     (some 2)
     (jn (fun (v0 : Bool) =>
      cnd v0
       (some 3)
       (bnd (q91 N x.2.2.2.2.1) fun v1 =>
       cnd (ine v1 0)
        (some 2)
        (bnd (q91 N x.2.2.2.2.2.1) fun v2 =>
        cnd (ine v2 0)
         (some 2)
         (cnd x.2.2.2.2.1.2.2.2.2
          (some 13)
          (cnd x.2.2.2.2.2.1.2.2.2.2
           (some 13)
           (cnd (ilt x.2.2.2.2.2.2.1 0)
            (some 2)
            (cnd (ile 15 x.2.2.2.2.2.2.1)
             (some 2)
             (cnd (ilt (n8 x.2.2.2.2.2.2.2.1) (n8 1))
              (some 3)
              (cnd (ilt (n8 3) (n8 x.2.2.2.2.2.2.2.1))
               (some 3)
               (cnd (ilt 112 (len x.2.2.2.2.2.2.2.2.2))
                (some 9)
                (bnd (q92 N (x.2.2.2.2.2.2.2.2.2, 143)) fun v3 =>
                cnd (ile 0 v3)
                 (some 4)
                 (some 0))))))))))))
     fun v4 =>
     cnd (ile (n8 240) (n8 x.2.2.1))
      (cnd (ilt (n8 x.2.2.1) (n8 255))
       (v4 true)
       (v4 (ilt (n8 3) (n8 x.2.2.2.1))))
      (v4 (ilt (n8 3) (n8 x.2.2.2.1)))))))
def ps_q94 : List PK := [.k (.v Y8 [])]
def rs_q94 : List Kd := [.v Y8 [0]]
def q94 (N : Nat) (x : List UInt8) : Option (List UInt8) :=
 cnd (ine (len x) 0)
  (grd (room (iadd (len ([] : List UInt8)) (len x)) 1)
   (some (lapp ([] : List UInt8) x)))
  (univ fun v0 =>
  cnd v0
   (some ([] : List UInt8))
   (grd (room (iadd (len ([] : List UInt8)) (len x)) 1)
    (some (lapp ([] : List UInt8) x))))
def ps_q95 : List PK := [.k (.v Y2 []), .k (.v Y8 [])]
def rs_q95 : List Kd := [.v (.slice Y2) [0], .v (.int .i64) []]
def q95 (N : Nat) (x : D2 × List UInt8) : Option ((List D2) × Int) :=
 bnd (q93 N (x.1.1, x.1.2.1, 0, x.1.2.2.2.1, x.1.2.2.2.2.1, x.1.2.2.2.2.2.1, x.1.2.2.2.2.2.2.1, x.1.2.2.2.2.2.2.2.1, x.1.2.2.2.2.2.2.2.2.1, ([] : List UInt8))) fun v0 =>
 cnd (ine v0 0)
  (some (([] : List D2), v0))
  (cnd (ilt 241 (imax 1 (w64 (idiv (w64 (isub (w64 (iadd (len x.2) 112)) 1)) 112))))
   (some (([] : List D2), 9))
   (bnd (q92 N (x.2, 143)) fun v1 =>
   cnd (ile 0 v1)
    (some (([] : List D2), 4))
    (jn (fun (v2 : List D2) =>
     some (v2, 0))
    fun v3 =>
    fixN (fun v4 (v5 : (List D2) × Int) =>
     cnd (ilt v5.2 (imax 1 (w64 (idiv (w64 (isub (w64 (iadd (len x.2) 112)) 1)) 112))))
      (jn (fun (v6 : D2) =>
       grd (in3 (w64 (imul v5.2 112)) (imin (len x.2) (w64 (imul (w64 (iadd v5.2 1)) 112))) (len x.2)) <|
       bnd (q94 N (ldrop (toN (w64 (imul v5.2 112))) (ltake (toN (imin (len x.2) (w64 (imul (w64 (iadd v5.2 1)) 112)))) x.2))) fun v7 =>
       grd (room (iadd (len v5.1) (len ([(v6.1, v6.2.1, v6.2.2.1, v6.2.2.2.1, v6.2.2.2.2.1, v6.2.2.2.2.2.1, v6.2.2.2.2.2.2.1, v6.2.2.2.2.2.2.2.1, v6.2.2.2.2.2.2.2.2.1, v7)] : List D2))) 144) <|
       v4 (lapp v5.1 ([(v6.1, v6.2.1, v6.2.2.1, v6.2.2.2.1, v6.2.2.2.2.1, v6.2.2.2.2.2.1, v6.2.2.2.2.2.2.1, v6.2.2.2.2.2.2.2.1, v6.2.2.2.2.2.2.2.2.1, v7)] : List D2), w64 (iadd v5.2 1)))
      fun v8 =>
      cnd (ieq v5.2 (w64 (isub (imax 1 (w64 (idiv (w64 (isub (w64 (iadd (len x.2) 112)) 1)) 112))) 1)))
       (v8 (x.1.1, x.1.2.1, 255, x.1.2.2.2.1, x.1.2.2.2.2.1, x.1.2.2.2.2.2.1, x.1.2.2.2.2.2.2.1, x.1.2.2.2.2.2.2.2.1, x.1.2.2.2.2.2.2.2.2.1, ([] : List UInt8)))
       (v8 (x.1.1, x.1.2.1, b8 v5.2, x.1.2.2.2.1, x.1.2.2.2.2.1, x.1.2.2.2.2.2.1, x.1.2.2.2.2.2.2.1, x.1.2.2.2.2.2.2.2.1, x.1.2.2.2.2.2.2.2.2.1, ([] : List UInt8))))
      (v3 v5.1)) N (([] : List D2), 0))))
def ps_q96 : List PK := [.k (.v (.u8) []), .k (.v Y7 [])]
def rs_q96 : List Kd := [.v (.int .i64) []]
def q96 (N : Nat) (x : UInt8 × Int × Int × Int × Int × Bool) : Option (Int) :=
 bnd (q85 N (x.1, x.2.2.2.2.2)) fun v0 =>
 cnd (ine v0 0)
  (some v0)
  (cnd (ilt x.2.1 0)
   (some 2)
   (cnd (ilt 23 x.2.1)
    (some 2)
    (cnd (ilt x.2.2.1 0)
     (some 2)
     (cnd (ilt 59 x.2.2.1)
      (some 2)
      (cnd (ilt x.2.2.2.1 0)
       (some 2)
       (cnd (ilt 59 x.2.2.2.1)
        (some 2)
        (cnd (ilt x.2.2.2.2.1 0)
         (some 2)
         (bnd (q86 N x.1) fun v1 =>
         cnd (ile v1 x.2.2.2.2.1)
          (some 2)
          (cnd (ieq x.2.2.2.1 0)
           (cnd (ine (imod x.2.2.1 10) 0)
            (bnd (q87 N (x.1, x.2.2.2.2.2)) fun v2 =>
            cnd (ilt x.2.2.2.2.1 v2)
             (some 6)
             (some 0))
            (some 0))
           (some 0))))))))))
def ps_q97 : List PK := [.k (.v Y4 [])]
def rs_q97 : List Kd := [.v (.int .i64) []]
def q97 (N : Nat) (x : UInt8 × (List UInt8) × (List UInt8) × Int × Int × D6 × D6 × Int × Int) : Option (Int) :=
 jn (fun (v0 : Bool) =>
  cnd v0
   (some 13)
   (jn (fun (v1 : Bool) =>
    cnd v1
     (some 5)
     (bnd (q14 N x.2.2.1) fun v2 =>
     cnd (bnot v2)
      (some 10)
      (cnd (ilt 400 (len x.2.2.1))
       (some 9)
       (cnd (ilt x.2.2.2.1 0)
        (some 2)
        (cnd (ilt 99999 x.2.2.2.1)
         (some 2)
         (cnd (ilt x.2.2.2.2.1 0)
          (some 2)
          (cnd (ilt 99999 x.2.2.2.2.1)
           (some 2)
           (cnd (ilt x.2.2.2.2.2.2.2.1 0)
            (some 2)
            (cnd (ilt 99 x.2.2.2.2.2.2.2.1)
             (some 2)
             (cnd (ilt x.2.2.2.2.2.2.2.2 0)
              (some 2)
              (cnd (ilt 99 x.2.2.2.2.2.2.2.2)
               (some 2)
               (cnd (ilt x.2.2.2.1 x.2.2.2.2.1)
                (some 8)
                (jn (fun (v3 : Unit) =>
                 cnd x.2.2.2.2.2.1.2.2.2.2
                  (some 13)
                  (cnd x.2.2.2.2.2.2.1.2.2.2.2
                   (some 13)
                   (some 0)))
                fun v4 =>
                fixN (fun v5 (v6 : Int) =>
                 cnd (ilt v6 2)
                  (grd (inb v6 (ofN 2))
                   (bnd (q96 N (x.1, lget ([x.2.2.2.2.2.1, x.2.2.2.2.2.2.1] : List D6) (toN v6) (0, (0, (0, (0, false)))))) fun v7 =>
                   cnd (ine v7 0)
                    (some v7)
                    (v5 (w64 (iadd v6 1)))))
                  (v4 ())) N 0)))))))))))))
   fun v8 =>
   cnd (sne x.2.1 ([] : List UInt8))
    (bnd (q32 N x.2.1) fun v9 =>
    v8 (bnot v9))
    (v8 false)))
 fun v10 =>
 cnd (ine (n8 x.1) (n8 3))
  (v10 (ine (n8 x.1) (n8 5)))
  (v10 false)
def ps_q98 : List PK := [.k (.v (.int .u32) []), .k (.v (.int .u32) [])]
def rs_q98 : List Kd := [.v (.int .u32) [], .v (.int .u32) []]
def q98 (N : Nat) (x : Int × Int) : Option (Int × Int) :=
 some (wr .u32 (shrk .u64 (wr .u64 (imul (wr .u64 x.1) (wr .u64 x.2))) 32), wr .u32 (wr .u64 (imul (wr .u64 x.1) (wr .u64 x.2))))
def ps_q99 : List PK := [.k (.v (.int .u64) []), .k (.v (.int .u64) [])]
def rs_q99 : List Kd := [.v (.int .u64) [], .v (.int .u64) []]
def q99 (N : Nat) (x : Int × Int) : Option (Int × Int) :=
 some (wr .u64 (iadd (wr .u64 (iadd (wr .u64 (imul (shrk .u64 x.1 32) (shrk .u64 x.2 32))) (shrk .u64 (wr .u64 (iadd (wr .u64 (imul (shrk .u64 x.1 32) (bitb .and .u64 x.2 4294967295))) (shrk .u64 (wr .u64 (imul (bitb .and .u64 x.1 4294967295) (bitb .and .u64 x.2 4294967295))) 32))) 32))) (shrk .u64 (wr .u64 (iadd (bitb .and .u64 (wr .u64 (iadd (wr .u64 (imul (shrk .u64 x.1 32) (bitb .and .u64 x.2 4294967295))) (shrk .u64 (wr .u64 (imul (bitb .and .u64 x.1 4294967295) (bitb .and .u64 x.2 4294967295))) 32))) 4294967295) (wr .u64 (imul (bitb .and .u64 x.1 4294967295) (shrk .u64 x.2 32))))) 32)), wr .u64 (imul x.1 x.2))
def ps_bits_Mul : List PK := [.k (.v (.int .u64) []), .k (.v (.int .u64) [])]
def rs_bits_Mul : List Kd := [.v (.int .u64) [], .v (.int .u64) []]
def bits_Mul (N : Nat) (x : Int × Int) : Option (Int × Int) :=
 bnd (q99 N x) fun v0 =>
 some v0
def ps_q100 : List PK := [.k (.v Y8 []), .k (.v (.int .i64) [])]
def rs_q100 : List Kd := [.v Y8 [0]]
def q100 (N : Nat) (x : List UInt8 × Int) : Option (List UInt8) :=
 cnd (ieq x.2 0)
  (some ([] : List UInt8))
  (cnd (ilt x.2 0)
   none
   (bnd (bits_Mul N (wr .u64 (len x.1), wr .u64 x.2)) fun v0 =>
   cnd (ilt 0 v0.1)
    none
    (cnd (ilt 9223372036854775807 v0.2)
     none
     (cnd (ieq (len x.1) 0)
      (some ([] : List UInt8))
      (jn (fun (v1 : Int) =>
       grd (mkOk (w64 v0.2) (w64 v0.2) 1) <|
       univL (toN (w64 v0.2)) fun v2 =>
       grd (in3 (w64 v0.2) (w64 v0.2) (len v2)) <|
       jn (fun (v3 : List UInt8) =>
        some v3)
       fun v4 =>
       fixN (fun v5 (v6 : Int × List UInt8) =>
        cnd (ilt v6.1 (w64 v0.2))
         (grd (in2 v6.1 (ofN (nlen v6.2)))
          (grd (in2 (imin v6.1 v1) (ofN (nlen v6.2)))
           (v5 (w64 (iadd v6.1 (imin (len (cutl v6.2 0 (toN (imin v6.1 v1)))) (ofN (nsub (nlen v6.2) (toN v6.1))))), putl v6.2 (toN v6.1) (ltake (nsub (nlen v6.2) (toN v6.1)) (cutl v6.2 0 (toN (imin v6.1 v1))))))))
         (v4 v6.2)) N (imin (len x.1) (len (ltake (toN (w64 v0.2)) v2)), putl (ltake (toN (w64 v0.2)) v2) 0 (ltake (nlen (ltake (toN (w64 v0.2)) v2)) x.1)))
      fun v7 =>
      cnd (ilt 8192 (w64 v0.2))
       (grd (ine (len x.1) 0)
        (cnd (ieq (w64 (imul (w64 (idiv 8192 (len x.1))) (len x.1))) 0)
         (v7 (len x.1))
         (v7 (w64 (imul (w64 (idiv 8192 (len x.1))) (len x.1))))))
       (v7 (w64 v0.2)))))))
def ps_q101 : List PK := [.k (.v (.u8) [])]
def rs_q101 : List Kd := [.v (.str) []]
def q101 (N : Nat) (x : UInt8) : Option (List UInt8) :=
 cnd (ieq (n8 x) (n8 5))
  (some ([83, 84, 76, 51, 48, 46, 48, 49] : List UInt8))
  (some ([83, 84, 76, 50, 53, 46, 48, 49] : List UInt8))
def ps_q102 : List PK := [.k (.v (.int .i64) []), .k (.v (.int .i64) [])]
def rs_q102 : List Kd := [.v (.str) []]
def q102 (N : Nat) (x : Int × Int) : Option (List UInt8) :=
 grd (mkOk x.2 x.2 1) <|
 jn (fun (v0 : List UInt8) =>
  some v0)
 fun v1 =>
 fixN (fun v2 (v3 : Int × Int × List UInt8) =>
  cnd (ile 0 v3.2.1)
   (grd (inb v3.2.1 (len v3.2.2))
    (v2 (w64 (idiv v3.1 10), w64 (isub v3.2.1 1), lset v3.2.2 (toN v3.2.1) (b8 (w64 (iadd 48 (imod v3.1 10)))))))
   (v1 v3.2.2)) N (x.1, w64 (isub x.2 1), lrep (toN x.2) 0)
def ps_q103 : List PK := [.k (.v Y7 [])]
def rs_q103 : List Kd := [.v (.str) []]
def q103 (N : Nat) (x : D6) : Option (List UInt8) :=
 bnd (q102 N (x.1, 2)) fun v0 =>
 bnd (q102 N (x.2.1, 2)) fun v1 =>
 grd (catOk (iadd (len v0) (len v1))) <|
 bnd (q102 N (x.2.2.1, 2)) fun v2 =>
 grd (catOk (iadd (len (lapp v0 v1)) (len v2))) <|
 bnd (q102 N (x.2.2.2.1, 2)) fun v3 =>
 grd (catOk (iadd (len (lapp (lapp v0 v1) v2)) (len v3))) <|
 some (lapp (lapp (lapp v0 v1) v2) v3)
def ps_q104 : List PK := [.k (.v Y4 [])]
def rs_q104 : List Kd := [.v Y8 [0], .v (.int .i64) []]
def q104 (N : Nat) (x : UInt8 × (List UInt8) × (List UInt8) × Int × Int × D6 × D6 × Int × Int) : Option (List UInt8 × Int) :=
 bnd (q97 N x) fun v0 =>
 cnd (ine v0 0)
  (some (([] : List UInt8), v0))
  (bnd (q30 N x.2.2.1) fun v1 =>
  grd (ilt 0 (len ([32] : List UInt8))) <|
  bnd (q100 N (([32] : List UInt8), 1024)) fun v2 =>
  bnd (q101 N x.1) fun v3 =>
  grd (in2 8 (ofN (nlen (putl v2 0 (ltake (nlen v2) v3))))) <|
  grd (in2 24 (ofN (nlen (putl (putl v2 0 (ltake (nlen v2) v3)) (toN 8) (ltake (nsub (nlen (putl v2 0 (ltake (nlen v2) v3))) (toN 8)) x.2.1))))) <|
  bnd (q102 N (len v1.1, 3)) fun v4 =>
  bnd (q102 N (x.2.2.2.1, 5)) fun v5 =>
  grd (catOk (iadd (len v4) (len v5))) <|
  bnd (q102 N (x.2.2.2.2.1, 5)) fun v6 =>
  grd (catOk (iadd (len (lapp v4 v5)) (len v6))) <|
  bnd (q103 N x.2.2.2.2.2.1) fun v7 =>
  grd (catOk (iadd (len (lapp (lapp v4 v5) v6)) (len v7))) <|
  bnd (q103 N x.2.2.2.2.2.2.1) fun v8 =>
  grd (catOk (iadd (len (lapp (lapp (lapp v4 v5) v6) v7)) (len v8))) <|
  bnd (q102 N (x.2.2.2.2.2.2.2.1, 2)) fun v9 =>
  grd (catOk (iadd (len (lapp (lapp (lapp (lapp v4 v5) v6) v7) v8)) (len v9))) <|
  bnd (q102 N (x.2.2.2.2.2.2.2.2, 2)) fun v10 =>
  grd (catOk (iadd (len (lapp (lapp (lapp (lapp (lapp v4 v5) v6) v7) v8) v9)) (len v10))) <|
  grd (in2 64 (ofN (nlen (putl (putl (putl v2 0 (ltake (nlen v2) v3)) (toN 8) (ltake (nsub (nlen (putl v2 0 (ltake (nlen v2) v3))) (toN 8)) x.2.1)) (toN 24) (ltake (nsub (nlen (putl (putl v2 0 (ltake (nlen v2) v3)) (toN 8) (ltake (nsub (nlen (putl v2 0 (ltake (nlen v2) v3))) (toN 8)) x.2.1))) (toN 24)) (lapp (lapp (lapp (lapp (lapp (lapp v4 v5) v6) v7) v8) v9) v10)))))) <|
  some (putl (putl (putl (putl v2 0 (ltake (nlen v2) v3)) (toN 8) (ltake (nsub (nlen (putl v2 0 (ltake (nlen v2) v3))) (toN 8)) x.2.1)) (toN 24) (ltake (nsub (nlen (putl (putl v2 0 (ltake (nlen v2) v3)) (toN 8) (ltake (nsub (nlen (putl v2 0 (ltake (nlen v2) v3))) (toN 8)) x.2.1))) (toN 24)) (lapp (lapp (lapp (lapp (lapp (lapp v4 v5) v6) v7) v8) v9) v10))) (toN 64) (ltake (nsub (nlen (putl (putl (putl v2 0 (ltake (nlen v2) v3)) (toN 8) (ltake (nsub (nlen (putl v2 0 (ltake (nlen v2) v3))) (toN 8)) x.2.1)) (toN 24) (ltake (nsub (nlen (putl (putl v2 0 (ltake (nlen v2) v3)) (toN 8) (ltake (nsub (nlen (putl v2 0 (ltake (nlen v2) v3))) (toN 8)) x.2.1))) (toN 24)) (lapp (lapp (lapp (lapp (lapp (lapp v4 v5) v6) v7) v8) v9) v10)))) (toN 64)) v1.1), 0))
def ps_tape_Put : List PK := [.k (.v Y2 [])]
def rs_tape_Put : List Kd := [.v Y8 [0], .v (.int .i64) []]
def tape_Put (N : Nat) (x : D2) : Option (List UInt8 × Int) :=
 bnd (q93 N x) fun v0 =>
 cnd (ine v0 0)
  (some (([] : List UInt8), v0))
  (jn (fun (v1 : UInt8) =>
   grd (room (iadd (len ([b8 x.1, b8 x.2.1, b8 (shrk .i64 x.2.1 8), x.2.2.1, x.2.2.2.1, b8 x.2.2.2.2.1.1, b8 x.2.2.2.2.1.2.1, b8 x.2.2.2.2.1.2.2.1, b8 x.2.2.2.2.1.2.2.2.1, b8 x.2.2.2.2.2.1.1, b8 x.2.2.2.2.2.1.2.1, b8 x.2.2.2.2.2.1.2.2.1, b8 x.2.2.2.2.2.1.2.2.2.1, b8 x.2.2.2.2.2.2.1, x.2.2.2.2.2.2.2.1, v1] : List UInt8)) (len x.2.2.2.2.2.2.2.2.2)) 1) <|
   bnd (q100 N (([143] : List UInt8), w64 (isub 128 (len (lapp ([b8 x.1, b8 x.2.1, b8 (shrk .i64 x.2.1 8), x.2.2.1, x.2.2.2.1, b8 x.2.2.2.2.1.1, b8 x.2.2.2.2.1.2.1, b8 x.2.2.2.2.1.2.2.1, b8 x.2.2.2.2.1.2.2.2.1, b8 x.2.2.2.2.2.1.1, b8 x.2.2.2.2.2.1.2.1, b8 x.2.2.2.2.2.1.2.2.1, b8 x.2.2.2.2.2.1.2.2.2.1, b8 x.2.2.2.2.2.2.1, x.2.2.2.2.2.2.2.1, v1] : List UInt8) x.2.2.2.2.2.2.2.2.2))))) fun v2 =>
   grd (room (iadd (len (lapp ([b8 x.1, b8 x.2.1, b8 (shrk .i64 x.2.1 8), x.2.2.1, x.2.2.2.1, b8 x.2.2.2.2.1.1, b8 x.2.2.2.2.1.2.1, b8 x.2.2.2.2.1.2.2.1, b8 x.2.2.2.2.1.2.2.2.1, b8 x.2.2.2.2.2.1.1, b8 x.2.2.2.2.2.1.2.1, b8 x.2.2.2.2.2.1.2.2.1, b8 x.2.2.2.2.2.1.2.2.2.1, b8 x.2.2.2.2.2.2.1, x.2.2.2.2.2.2.2.1, v1] : List UInt8) x.2.2.2.2.2.2.2.2.2)) (len v2)) 1) <|
   some (lapp (lapp ([b8 x.1, b8 x.2.1, b8 (shrk .i64 x.2.1 8), x.2.2.1, x.2.2.2.1, b8 x.2.2.2.2.1.1, b8 x.2.2.2.2.1.2.1, b8 x.2.2.2.2.1.2.2.1, b8 x.2.2.2.2.1.2.2.2.1, b8 x.2.2.2.2.2.1.1, b8 x.2.2.2.2.2.1.2.1, b8 x.2.2.2.2.2.1.2.2.1, b8 x.2.2.2.2.2.1.2.2.2.1, b8 x.2.2.2.2.2.2.1, x.2.2.2.2.2.2.2.1, v1] : List UInt8) x.2.2.2.2.2.2.2.2.2) v2, 0))
  fun v3 =>
  cnd x.2.2.2.2.2.2.2.2.1
   (v3 1)
   (v3 0))
def ps_q105 : List PK := [.k (.v Y4 []), .k (.v (.slice Y2) [])]
def rs_q105 : List Kd := [.v Y8 [0], .v (.int .i64) []]
def q105 (N : Nat) (x : (UInt8 × (List UInt8) × (List UInt8) × Int × Int × D6 × D6 × Int × Int) × List D2) : Option (List UInt8 × Int) :=
 bnd (q104 N x.1) fun v0 =>
 cnd (ine v0.2 0)
  (some (([] : List UInt8), v0.2))
  (cnd (ine (len x.2) x.1.2.2.2.1)
   (some (([] : List UInt8), 1))
   (jn (fun (v1 : List UInt8) =>
    some (v1, 0))
   fun v2 =>
   fixN (fun v3 (v4 : (List UInt8) × Int) =>
    cnd (ilt v4.2 (len x.2))
     (grd (inb v4.2 (len x.2))
      (bnd (tape_Put N (lget x.2 (toN v4.2) (0, (0, (0, (0, ((0, (0, (0, (0, false)))), ((0, (0, (0, (0, false)))), (0, (0, (false, []))))))))))) fun v5 =>
      cnd (ine v5.2 0)
       (some (([] : List UInt8), v5.2))
       (grd (room (iadd (len v4.1) (len v5.1)) 1)
        (v3 (lapp v4.1 v5.1, w64 (iadd v4.2 1))))))
     (v2 v4.1)) N (v0.1, 0)))
def ps_q106 : List PK := [.k (.v Y3 [])]
def rs_q106 : List Kd := [.v Y8 [0], .v (.int .i64) []]
def q106 (N : Nat) (x : D7) : Option (List UInt8 × Int) :=
 bnd (q89 N x) fun v0 =>
 cnd (ine v0.2 0)
  (some (([] : List UInt8), v0.2))
  (jn (fun (v1 : (List D2) × UInt8 × (List UInt8) × (List UInt8) × Int × Int × D6 × D6 × Int × Int) =>
   bnd (q105 N ((v1.2.1, v1.2.2.1, v1.2.2.2.1, len v1.1, v1.2.2.2.2.2), v1.1)) fun v2 =>
   some v2)
  fun v3 =>
  fixN (fun v4 (v5 : (List D2) × Int × UInt8 × (List UInt8) × (List UInt8) × Int × Int × D6 × D6 × Int × Int) =>
   cnd (ilt v5.2.1 (len x.2.2.2.2.2.2.1))
    (grd (inb v5.2.1 (len x.2.2.2.2.2.2.1))
     (bnd (q69 N (x, lget x.2.2.2.2.2.2.1 (toN v5.2.1) (0, ((0, 0), ([], (0, ([], []))))))) fun v6 =>
     bnd (q90 N (x.2.2.1, false, (lget x.2.2.2.2.2.2.1 (toN v5.2.1) (0, ((0, 0), ([], (0, ([], [])))))).2.1.1)) fun v7 =>
     bnd (q90 N (x.2.2.1, false, (lget x.2.2.2.2.2.2.1 (toN v5.2.1) (0, ((0, 0), ([], (0, ([], [])))))).2.1.2)) fun v8 =>
     jn (fun (v9 : UInt8 × (List UInt8) × (List UInt8) × Int × Int × D6 × D6 × Int × Int) =>
      bnd (stl_Text N (lget x.2.2.2.2.2.2.1 (toN v5.2.1) (0, ((0, 0), ([], (0, ([], [])))))).2.2.2.2.2) fun v10 =>
      bnd (q95 N ((0, v5.2.1, 0, 0, v7.1, v8.1, v6.1, v6.2, false, ([] : List UInt8)), v10.1)) fun v11 =>
      cnd (ine v11.2 0)
       (some (([] : List UInt8), v11.2))
       (grd (room (iadd (len v5.1) (len v11.1)) 144)
        (v4 (lapp v5.1 v11.1, w64 (iadd v5.2.1 1), v9))))
     fun v12 =>
     cnd (ieq v5.2.1 0)
      (v12 (v5.2.2.1, v5.2.2.2.1, v5.2.2.2.2.1, v5.2.2.2.2.2.1, v5.2.2.2.2.2.2.1, v5.2.2.2.2.2.2.2.1, v7.1, v5.2.2.2.2.2.2.2.2.2))
      (v12 v5.2.2)))
    (v3 (v5.1, v5.2.2))) N (([] : List D2), 0, x.2.2.1, x.2.1, x.1, 0, len x.2.2.2.2.2.2.1, (0, 0, 0, 0, false), (0, 0, 0, 0, false), 15, 32))
def ps_q107 : List PK := [.k (.v Y8 [])]
def rs_q107 : List Kd := [.v (.int .i64) []]
def q107 (N : Nat) (x : List UInt8) : Option (Int) :=
 jn (fun (v0 : Int) =>
  some v0)
 fun v1 =>
 fixN (fun v2 (v3 : Int × Int) =>
  cnd (ilt v3.2 (len x))
   (grd (inb v3.2 (len x))
    (cnd (ilt (n8 (lget x (toN v3.2) 0)) (n8 48))
     (some 0)
     (cnd (ilt (n8 57) (n8 (lget x (toN v3.2) 0)))
      (some 0)
      (v2 (w64 (iadd (w64 (imul 10 v3.1)) (w64 (n8 (b8 (isub (n8 (lget x (toN v3.2) 0)) (n8 48)))))), w64 (iadd v3.2 1))))))
   (v1 v3.1)) N (0, 0)
def ps_q108 : List PK := [.k (.v Y8 [])]
def rs_q108 : List Kd := [.v Y7 []]
def q108 (N : Nat) (x : List UInt8) : Option D6 :=
 grd (in2 2 (len x)) <|
 bnd (q107 N (ltake (toN 2) x)) fun v0 =>
 grd (in3 2 4 (len x)) <|
 bnd (q107 N (ldrop (toN 2) (ltake (toN 4) x))) fun v1 =>
 grd (in3 4 6 (len x)) <|
 bnd (q107 N (ldrop (toN 4) (ltake (toN 6) x))) fun v2 =>
 grd (in3 6 8 (len x)) <|
 bnd (q107 N (ldrop (toN 6) (ltake (toN 8) x))) fun v3 =>
 some (v0, v1, v2, v3, false)
def ps_q109 : List PK := [.k (.v Y8 []), .k (.v (.u8) [])]
def rs_q109 : List Kd := [.v Y8 []]
def q109 (N : Nat) (x : List UInt8 × UInt8) : Option (List UInt8) :=
 jn (fun (v0 : List UInt8) =>
  some v0)
 fun v1 =>
 fixN (fun v2 (v3 : List UInt8) =>
  cnd (ilt 0 (len v3))
   (grd (inb (w64 (isub (len v3) 1)) (len v3))
    (cnd (ieq (n8 (lget v3 (toN (w64 (isub (len v3) 1))) 0)) (n8 x.2))
     (grd (in2 (w64 (isub (len v3) 1)) (len v3))
      (v2 (ltake (toN (w64 (isub (len v3) 1))) v3)))
     (v1 v3)))
   (v1 v3)) N x.1
def ps_q110 : List PK := [.k (.v Y8 []), .k (.b 242 (.arr 256 (.bool)) [])]
def rs_q110 : List Kd := [.v Y8 []]
def q110 (N : Nat) (x : List UInt8 × List Bool) : Option (List UInt8 × List Bool) :=
 jn (fun (v0 : Unit) =>
  some (x.1, ([lget x.2 0 false, lget x.2 1 false, lget x.2 2 false, lget x.2 3 false, lget x.2 4 false, lget x.2 5 false, lget x.2 6 false, lget x.2 7 false, lget x.2 8 false, lget x.2 9 false, lget x.2 10 false, lget x.2 11 false, lget x.2 12 false, lget x.2 13 false, lget x.2 14 false, lget x.2 15 false, lget x.2 16 false, lget x.2 17 false, lget x.2 18 false, lget x.2 19 false, lget x.2 20 false, lget x.2 21 false, lget x.2 22 false, lget x.2 23 false, lget x.2 24 false, lget x.2 25 false, lget x.2 26 false, lget x.2 27 false, lget x.2 28 false, lget x.2 29 false, lget x.2 30 false, lget x.2 31 false, lget x.2 32 false, lget x.2 33 false, lget x.2 34 false, lget x.2 35 false, lget x.2 36 false, lget x.2 37 false, lget x.2 38 false, lget x.2 39 false, lget x.2 40 false, lget x.2 41 false, lget x.2 42 false, lget x.2 43 false, lget x.2 44 false, lget x.2 45 false, lget x.2 46 false, lget x.2 47 false, lget x.2 48 false, lget x.2 49 false, lget x.2 50 false, lget x.2 51 false, lget x.2 52 false, lget x.2 53 false, lget x.2 54 false, lget x.2 55 false, lget x.2 56 false, lget x.2 57 false, lget x.2 58 false, lget x.2 59 false, lget x.2 60 false, lget x.2 61 false, lget x.2 62 false, lget x.2 63 false, lget x.2 64 false, lget x.2 65 false, lget x.2 66 false, lget x.2 67 false, lget x.2 68 false, lget x.2 69 false, lget x.2 70 false, lget x.2 71 false, lget x.2 72 false, lget x.2 73 false, lget x.2 74 false, lget x.2 75 false, lget x.2 76 false, lget x.2 77 false, lget x.2 78 false, lget x.2 79 false, lget x.2 80 false, lget x.2 81 false, lget x.2 82 false, lget x.2 83 false, lget x.2 84 false, lget x.2 85 false, lget x.2 86 false, lget x.2 87 false, lget x.2 88 false, lget x.2 89 false, lget x.2 90 false, lget x.2 91 false, lget x.2 92 false, lget x.2 93 false, lget x.2 94 false, lget x.2 95 false, lget x.2 96 false, lget x.2 97 false, lget x.2 98 false, lget x.2 99 false, lget x.2 100 false, lget x.2 101 false, lget x.2 102 false, lget x.2 103 false, lget x.2 104 false, lget x.2 105 false, lget x.2 106 false, lget x.2 107 false, lget x.2 108 false, lget x.2 109 false, lget x.2 110 false, lget x.2 111 false, lget x.2 112 false, lget x.2 113 false, lget x.2 114 false, lget x.2 115 false, lget x.2 116 false, lget x.2 117 false, lget x.2 118 false, lget x.2 119 false, lget x.2 120 false, lget x.2 121 false, lget x.2 122 false, lget x.2 123 false, lget x.2 124 false, lget x.2 125 false, lget x.2 126 false, lget x.2 127 false, lget x.2 128 false, lget x.2 129 false, lget x.2 130 false, lget x.2 131 false, lget x.2 132 false, lget x.2 133 false, lget x.2 134 false, lget x.2 135 false, lget x.2 136 false, lget x.2 137 false, lget x.2 138 false, lget x.2 139 false, lget x.2 140 false, lget x.2 141 false, lget x.2 142 false, lget x.2 143 false, lget x.2 144 false, lget x.2 145 false, lget x.2 146 false, lget x.2 147 false, lget x.2 148 false, lget x.2 149 false, lget x.2 150 false, lget x.2 151 false, lget x.2 152 false, lget x.2 153 false, lget x.2 154 false, lget x.2 155 false, lget x.2 156 false, lget x.2 157 false, lget x.2 158 false, lget x.2 159 false, lget x.2 160 false, lget x.2 161 false, lget x.2 162 false, lget x.2 163 false, lget x.2 164 false, lget x.2 165 false, lget x.2 166 false, lget x.2 167 false, lget x.2 168 false, lget x.2 169 false, lget x.2 170 false, lget x.2 171 false, lget x.2 172 false, lget x.2 173 false, lget x.2 174 false, lget x.2 175 false, lget x.2 176 false, lget x.2 177 false, lget x.2 178 false, lget x.2 179 false, lget x.2 180 false, lget x.2 181 false, lget x.2 182 false, lget x.2 183 false, lget x.2 184 false, lget x.2 185 false, lget x.2 186 false, lget x.2 187 false, lget x.2 188 false, lget x.2 189 false, lget x.2 190 false, lget x.2 191 false, lget x.2 192 false, lget x.2 193 false, lget x.2 194 false, lget x.2 195 false, lget x.2 196 false, lget x.2 197 false, lget x.2 198 false, lget x.2 199 false, lget x.2 200 false, lget x.2 201 false, lget x.2 202 false, lget x.2 203 false, lget x.2 204 false, lget x.2 205 false, lget x.2 206 false, lget x.2 207 false, lget x.2 208 false, lget x.2 209 false, lget x.2 210 false, lget x.2 211 false, lget x.2 212 false, lget x.2 213 false, lget x.2 214 false, lget x.2 215 false, lget x.2 216 false, lget x.2 217 false, lget x.2 218 false, lget x.2 219 false, lget x.2 220 false, lget x.2 221 false, lget x.2 222 false, lget x.2 223 false, lget x.2 224 false, lget x.2 225 false, lget x.2 226 false, lget x.2 227 false, lget x.2 228 false, lget x.2 229 false, lget x.2 230 false, lget x.2 231 false, lget x.2 232 false, lget x.2 233 false, lget x.2 234 false, lget x.2 235 false, lget x.2 236 false, lget x.2 237 false, lget x.2 238 false, lget x.2 239 false, lget x.2 240 false, lget x.2 241 false, lget x.2 242 false, lget x.2 243 false, lget x.2 244 false, lget x.2 245 false, lget x.2 246 false, lget x.2 247 false, lget x.2 248 false, lget x.2 249 false, lget x.2 250 false, lget x.2 251 false, lget x.2 252 false, lget x.2 253 false, lget x.2 254 false, lget x.2 255 false] : List Bool)))
 fun v1 =>
 fixN (fun v2 (v3 : Unit) =>
  cnd (ilt 0 (len x.1))
   (grd (inb (w64 (isub (len x.1) 1)) (len x.1))
    none)
   (v1 ())) N ()
def ps_q111 : List PK := [.k (.v (.u8) [])]
def rs_q111 : List Kd := [.v (.bool) []]
def q111 (N : Nat) (x : UInt8) : Option (Bool) :=
 some (ine (n8 (b8 (bitb .and .u8 (n8 x) (n8 192)))) (n8 128))
def ps_q112 : List PK := [.k (.v Y8 [])]
def rs_q112 : List Kd := [.v (.int .i32) [], .v (.int .i64) []]
def q112 (N : Nat) (x : List UInt8) : Option (Int × Int) :=
 cnd (ilt (len x) 1)
  (some (65533, 0))
  (grd (inb 0 (len x))
   (grd (inb (n8 (lget x (toN 0) 0)) (ofN 256))
    (cnd (ile (n8 240) (n8 (lget gl0 (toN (n8 (lget x (toN 0) 0))) 0)))
     (grd (inb 0 (len x))
      (some (bitb .or .i32 (bitb .andNot .i32 (wr .i32 (n8 (lget x (toN 0) 0))) (shrk .i32 (wr .i32 (shlk .i32 (wr .i32 (n8 (lget gl0 (toN (n8 (lget x (toN 0) 0))) 0))) 31)) 31)) (bitb .and .i32 65533 (shrk .i32 (wr .i32 (shlk .i32 (wr .i32 (n8 (lget gl0 (toN (n8 (lget x (toN 0) 0))) 0))) 31)) 31)), 1)))
     (grd (inb (n8 (b8 (shrk .u8 (n8 (lget gl0 (toN (n8 (lget x (toN 0) 0))) 0)) 4))) (ofN 16))
      (cnd (ilt (len x) (w64 (n8 (b8 (bitb .and .u8 (n8 (lget gl0 (toN (n8 (lget x (toN 0) 0))) 0)) (n8 7))))))
       (some (65533, 1))
       (grd (inb 1 (len x))
        (cnd (ilt (n8 (lget x (toN 1) 0)) (n8 (lget gl1 (toN (n8 (b8 (shrk .u8 (n8 (lget gl0 (toN (n8 (lget x (toN 0) 0))) 0)) 4)))) (0, 0)).1))
         (some (65533, 1))
         (cnd (ilt (n8 (lget gl1 (toN (n8 (b8 (shrk .u8 (n8 (lget gl0 (toN (n8 (lget x (toN 0) 0))) 0)) 4)))) (0, 0)).2) (n8 (lget x (toN 1) 0)))
          (some (65533, 1))
          (cnd (ile (w64 (n8 (b8 (bitb .and .u8 (n8 (lget gl0 (toN (n8 (lget x (toN 0) 0))) 0)) (n8 7))))) 2)
           (some (bitb .or .i32 (wr .i32 (shlk .i32 (wr .i32 (n8 (b8 (bitb .and .u8 (n8 (lget x (toN 0) 0)) (n8 31))))) 6)) (wr .i32 (n8 (b8 (bitb .and .u8 (n8 (lget x (toN 1) 0)) (n8 63))))), 2))
           (grd (inb 2 (len x))
            (cnd (ilt (n8 (lget x (toN 2) 0)) (n8 128))
             (some (65533, 1))
             (cnd (ilt (n8 191) (n8 (lget x (toN 2) 0)))
              (some (65533, 1))
              (cnd (ile (w64 (n8 (b8 (bitb .and .u8 (n8 (lget gl0 (toN (n8 (lget x (toN 0) 0))) 0)) (n8 7))))) 3)
               (some (bitb .or .i32 (bitb .or .i32 (wr .i32 (shlk .i32 (wr .i32 (n8 (b8 (bitb .and .u8 (n8 (lget x (toN 0) 0)) (n8 15))))) 12)) (wr .i32 (shlk .i32 (wr .i32 (n8 (b8 (bitb .and .u8 (n8 (lget x (toN 1) 0)) (n8 63))))) 6))) (wr .i32 (n8 (b8 (bitb .and .u8 (n8 (lget x (toN 2) 0)) (n8 63))))), 3))
               (grd (inb 3 (len x))
                (cnd (ilt (n8 (lget x (toN 3) 0)) (n8 128))
                 (some (65533, 1))
                 (cnd (ilt (n8 191) (n8 (lget x (toN 3) 0)))
                  (some (65533, 1))
                  (some (bitb .or .i32 (bitb .or .i32 (bitb .or .i32 (wr .i32 (shlk .i32 (wr .i32 (n8 (b8 (bitb .and .u8 (n8 (lget x (toN 0) 0)) (n8 7))))) 18)) (wr .i32 (shlk .i32 (wr .i32 (n8 (b8 (bitb .and .u8 (n8 (lget x (toN 1) 0)) (n8 63))))) 12))) (wr .i32 (shlk .i32 (wr .i32 (n8 (b8 (bitb .and .u8 (n8 (lget x (toN 2) 0)) (n8 63))))) 6))) (wr .i32 (n8 (b8 (bitb .and .u8 (n8 (lget x (toN 3) 0)) (n8 63))))), 4))))))))))))))))))
def ps_q113 : List PK := [.k (.v Y8 [])]
def rs_q113 : List Kd := [.v (.int .i32) [], .v (.int .i64) []]
def q113 (N : Nat) (x : List UInt8) : Option (Int × Int) :=
 jn (fun (v0 : Unit) =>
  bnd (q112 N x) fun v1 =>
  some v1)
 fun v2 =>
 fixN (fun v3 (v4 : Unit) =>
  cnd (ilt 0 (len x))
   (grd (inb 0 (len x))
    (cnd (ilt (n8 (lget x (toN 0) 0)) (n8 128))
     (some (wr .i32 (n8 (lget x (toN 0) 0)), 1))
     (v2 ())))
   (v2 ())) N ()
def ps_q114 : List PK := [.k (.v Y8 [])]
def rs_q114 : List Kd := [.v (.int .i32) [], .v (.int .i64) []]
def q114 (N : Nat) (x : List UInt8) : Option (Int × Int) :=
 cnd (ieq (len x) 0)
  (some (65533, 0))
  (grd (inb (w64 (isub (len x) 1)) (len x))
   (cnd (ilt (wr .i32 (n8 (lget x (toN (w64 (isub (len x) 1))) 0))) 128)
    (some (wr .i32 (n8 (lget x (toN (w64 (isub (len x) 1))) 0)), 1))
    (jn (fun (v0 : Int) =>
     jn (fun (v1 : Int) =>
      grd (in3 v1 (len x) (len x)) <|
      bnd (q113 N (ldrop (toN v1) (ltake (toN (len x)) x))) fun v2 =>
      cnd (ine (w64 (iadd v1 v2.2)) (len x))
       (some (65533, 1))
       (some v2))
     fun v3 =>
     cnd (ilt v0 0)
      (v3 0)
      (v3 v0))
    fun v4 =>
    fixN (fun v5 (v6 : Int) =>
     cnd (ile (imax (w64 (isub (len x) 4)) 0) v6)
      (grd (inb v6 (len x))
       (bnd (q111 N (lget x (toN v6) 0)) fun v7 =>
       cnd v7
        (v4 v6)
        (v5 (w64 (isub v6 1)))))
      (v4 v6)) N (w64 (isub (w64 (isub (len x) 1)) 1)))))
def ps_q115 : List PK := [.k (.v (.str) []), .k (.v (.int .i32) [])]
def rs_q115 : List Kd := [.v (.bool) []]
def q115 (N : Nat) (x : List UInt8 × Int) : Option (Bool) :=
 jn (fun (v0 : Unit) =>
  some false)
 fun v1 =>
 fixN (fun v2 (v3 : (List UInt8) × Int) =>
  cnd (nlt (toN v3.2) (nlen v3.1))
   (cnd (ieq (decR v3.1 (toN v3.2)) x.2)
    (some true)
    (v2 (v3.1, ofN (nadd (toN v3.2) (decW v3.1 (toN v3.2))))))
   (v1 ())) N (x.1, ofN 0)
def ps_q116 : List PK := [.k (.v Y8 []), .k (.v (.str) [])]
def rs_q116 : List Kd := [.v Y8 []]
def q116 (N : Nat) (x : List UInt8 × List UInt8) : Option (List UInt8) :=
 jn (fun (v0 : List UInt8) =>
  some v0)
 fun v1 =>
 fixN (fun v2 (v3 : List UInt8) =>
  cnd (ilt 0 (len v3))
   (grd (inb (w64 (isub (len v3) 1)) (len v3))
    (cnd (ile 128 (wr .i32 (n8 (lget v3 (toN (w64 (isub (len v3) 1))) 0))))
     (bnd (q114 N v3) fun v4 =>
     bnd (q115 N (x.2, v4.1)) fun v5 =>
     cnd (bnot v5)
      (v1 v3)
      (grd (in2 (w64 (isub (len v3) v4.2)) (len v3))
       (v2 (ltake (toN (w64 (isub (len v3) v4.2))) v3))))
     (bnd (q115 N (x.2, wr .i32 (n8 (lget v3 (toN (w64 (isub (len v3) 1))) 0)))) fun v6 =>
     cnd (bnot v6)
      (v1 v3)
      (grd (in2 (w64 (isub (len v3) 1)) (len v3))
       (v2 (ltake (toN (w64 (isub (len v3) 1))) v3))))))
   (v1 v3)) N x.1
def ps_q117 : List PK := [.k (.v Y8 []), .k (.v (.str) [])]
def rs_q117 : List Kd := [.v Y8 []]
def q117 (N : Nat) (x : List UInt8 × List UInt8) : Option (List UInt8) :=
 cnd (ieq (len x.1) 0)
  (some x.1)
  (cnd (seq x.2 ([] : List UInt8))
   (some x.1)
   (cnd (ieq (len x.2) 1)
    (grd (inb 0 (len x.2))
     (cnd (ilt (n8 (lget x.2 (toN 0) 0)) (n8 128))
      (grd (inb 0 (len x.2))
       (bnd (q109 N (x.1, lget x.2 (toN 0) 0)) fun v0 =>
       some v0))
      none))
    none))
def ps_q118 : List PK := [.k (.v (.int .i32) [])]
def rs_q118 : List Kd := [.v (.int .i32) []]
def q118 (N : Nat) (x : Int) : Option (Int) :=
 bnd (q13 N x) fun v0 =>
 cnd (ilt v0 0)
  (some 0)
  (jn (fun (v1 : Bool) =>
   cnd v1
    (some (wr .i32 (iadd x 32)))
    (cnd (ieq x 338)
     (some 339)
     (some x)))
  fun v2 =>
  cnd (ile 65 x)
   (cnd (ile x 90)
    (v2 (ile x 90))
    (cnd (ile 192 x)
     (v2 (ilt x 223))
     (v2 false)))
   (cnd (ile 192 x)
    (v2 (ilt x 223))
    (v2 false)))
def ps_q119 : List PK := [.k (.v Y8 [])]
def rs_q119 : List Kd := [.v (.int .i32) [], .v (.int .i64) []]
def q119 (N : Nat) (x : List UInt8) : Option (Int × Int) :=
 cnd (ieq (len x) 0)
  (some (0, 0))
  (jn (fun (v0 : Unit) =>
   jn (fun (v1 : Unit) =>
    cnd (ilt (len x) 2)
     (some (0, 0))
     (jn (fun (v2 : Unit) =>
      some (0, 0))
     fun v3 =>
     grd (inb 0 (len x)) <|
     bnd (q20 N (lget x (toN 0) 0)) fun v4 =>
     fixN (fun v5 (v6 : (List UInt8) × Int) =>
      cnd (nlt (toN v6.2) (nlen v6.1))
       (bnd (q118 N (decR v6.1 (toN v6.2))) fun v7 =>
       fixN (fun v8 (v9 : Int) =>
        cnd (ilt v9 2)
         (grd (inb v9 (ofN 2))
          (bnd (q28 N (lget ([decR v6.1 (toN v6.2), v7] : List Int) (toN v9) 0)) fun v10 =>
          grd (inb 1 (len x)) <|
          cnd (ieq v10 (wr .i32 (n8 (lget x (toN 1) 0))))
           (some (lget ([decR v6.1 (toN v6.2), v7] : List Int) (toN v9) 0, 2))
           (v8 (w64 (iadd v9 1)))))
         (v5 (v6.1, ofN (nadd (toN v6.2) (decW v6.1 (toN v6.2)))))) N 0)
       (v3 ())) N (v4, ofN 0)))
   fun v11 =>
   fixN (fun v12 (v13 : Int × (List UInt8) × Int) =>
    cnd (nlt (toN v13.2.2) (nlen v13.2.1))
     (grd (inb v13.1 (len ([161, 162, 163, 164, 165, 166, 167, 168, 169, 170, 171, 172, 173, 174, 175, 176, 180, 183, 185, 186, 187, 189, 191, 213, 225, 233, 234, 241, 249, 250, 251] : List UInt8)))
      (grd (inb 0 (len x))
       (cnd (ieq (n8 (lget ([161, 162, 163, 164, 165, 166, 167, 168, 169, 170, 171, 172, 173, 174, 175, 176, 180, 183, 185, 186, 187, 189, 191, 213, 225, 233, 234, 241, 249, 250, 251] : List UInt8) (toN v13.1) 0)) (n8 (lget x (toN 0) 0)))
        (some (decR v13.2.1 (toN v13.2.2), 1))
        (v12 (w64 (iadd v13.1 1), v13.2.1, ofN (nadd (toN v13.2.2) (decW v13.2.1 (toN v13.2.2))))))))
     (v11 ())) N (0, ([194, 161, 194, 162, 194, 163, 194, 164, 194, 165, 194, 166, 194, 167, 194, 169, 226, 128, 152, 226, 128, 156, 194, 171, 194, 174, 226, 128, 148, 226, 128, 162, 226, 128, 166, 194, 176, 226, 132, 162, 194, 183, 226, 128, 153, 226, 128, 157, 194, 187, 194, 189, 194, 191, 226, 153, 170, 195, 134, 195, 152, 197, 146, 195, 166, 195, 184, 197, 147, 195, 159] : List UInt8), ofN 0))
  fun v14 =>
  grd (inb 0 (len x)) <|
  cnd (ile (n8 32) (n8 (lget x (toN 0) 0)))
   (grd (inb 0 (len x))
    (cnd (ilt (n8 (lget x (toN 0) 0)) (n8 127))
     (grd (inb 0 (len x))
      (some (wr .i32 (n8 (lget x (toN 0) 0)), 1)))
     (v14 ())))
   (v14 ()))
def ps_q120 : List PK := [.k (.v Y8 [0]), .k (.v (.int .i32) [])]
def rs_q120 : List Kd := [.v Y8 [0]]
def q120 (N : Nat) (x : List UInt8 × Int) : Option (List UInt8) :=
 cnd (ile (wr .u32 x.2) 2047)
  (grd (room (iadd (len x.1) (len ([b8 (bitb .or .u8 (n8 192) (n8 (b8 (shrk .i32 x.2 6)))), b8 (bitb .or .u8 (n8 128) (n8 (b8 (bitb .and .u8 (n8 (b8 x.2)) (n8 63)))))] : List UInt8))) 1)
   (some (lapp x.1 ([b8 (bitb .or .u8 (n8 192) (n8 (b8 (shrk .i32 x.2 6)))), b8 (bitb .or .u8 (n8 128) (n8 (b8 (bitb .and .u8 (n8 (b8 x.2)) (n8 63)))))] : List UInt8))))
  (jn (fun (v0 : Bool) =>
   cnd v0
    (grd (room (iadd (len x.1) (len ([b8 (bitb .or .u8 (n8 224) (n8 (b8 (shrk .i32 x.2 12)))), b8 (bitb .or .u8 (n8 128) (n8 (b8 (bitb .and .u8 (n8 (b8 (shrk .i32 x.2 6))) (n8 63))))), b8 (bitb .or .u8 (n8 128) (n8 (b8 (bitb .and .u8 (n8 (b8 x.2)) (n8 63)))))] : List UInt8))) 1)
     (some (lapp x.1 ([b8 (bitb .or .u8 (n8 224) (n8 (b8 (shrk .i32 x.2 12)))), b8 (bitb .or .u8 (n8 128) (n8 (b8 (bitb .and .u8 (n8 (b8 (shrk .i32 x.2 6))) (n8 63))))), b8 (bitb .or .u8 (n8 128) (n8 (b8 (bitb .and .u8 (n8 (b8 x.2)) (n8 63)))))] : List UInt8))))
    (cnd (ilt 65535 (wr .u32 x.2))
     (cnd (ile (wr .u32 x.2) 1114111)
      (grd (room (iadd (len x.1) (len ([b8 (bitb .or .u8 (n8 240) (n8 (b8 (shrk .i32 x.2 18)))), b8 (bitb .or .u8 (n8 128) (n8 (b8 (bitb .and .u8 (n8 (b8 (shrk .i32 x.2 12))) (n8 63))))), b8 (bitb .or .u8 (n8 128) (n8 (b8 (bitb .and .u8 (n8 (b8 (shrk .i32 x.2 6))) (n8 63))))), b8 (bitb .or .u8 (n8 128) (n8 (b8 (bitb .and .u8 (n8 (b8 x.2)) (n8 63)))))] : List UInt8))) 1)
       (some (lapp x.1 ([b8 (bitb .or .u8 (n8 240) (n8 (b8 (shrk .i32 x.2 18)))), b8 (bitb .or .u8 (n8 128) (n8 (b8 (bitb .and .u8 (n8 (b8 (shrk .i32 x.2 12))) (n8 63))))), b8 (bitb .or .u8 (n8 128) (n8 (b8 (bitb .and .u8 (n8 (b8 (shrk .i32 x.2 6))) (n8 63))))), b8 (bitb .or .u8 (n8 128) (n8 (b8 (bitb .and .u8 (n8 (b8 x.2)) (n8 63)))))] : List UInt8))))
      (grd (room (iadd (len x.1) (len ([239, 191, 189] : List UInt8))) 1)
       (some (lapp x.1 ([239, 191, 189] : List UInt8)))))
     (grd (room (iadd (len x.1) (len ([239, 191, 189] : List UInt8))) 1)
      (some (lapp x.1 ([239, 191, 189] : List UInt8))))))
  fun v1 =>
  cnd (ilt (wr .u32 x.2) 55296)
   (v1 (ilt (wr .u32 x.2) 55296))
   (cnd (ilt 57343 (wr .u32 x.2))
    (v1 (ile (wr .u32 x.2) 65535))
    (v1 false)))
def ps_q121 : List PK := [.k (.v Y8 [0]), .k (.v (.int .i32) [])]
def rs_q121 : List Kd := [.v Y8 [0]]
def q121 (N : Nat) (x : List UInt8 × Int) : Option (List UInt8) :=
 cnd (ile (wr .u32 x.2) 127)
  (grd (room (iadd (len x.1) (len ([b8 x.2] : List UInt8))) 1)
   (some (lapp x.1 ([b8 x.2] : List UInt8))))
  (bnd (q120 N x) fun v0 =>
  some v0)
def ps_q122 : List PK := [.k (.b 230 (.st (.pair (.nptr) Y8)) [1]), .k (.v (.int .i32) [])]
def rs_q122 : List Kd := [.v (.int .i64) [], .v (.nif) []]
def q122 (N : Nat) (x : (Unit × List UInt8) × Int) : Option (Int × Unit × Unit × List UInt8) :=
 bnd (strings_Builder_copyCheck N ((), x.1.2)) fun v0 =>
 bnd (q121 N (v0.2, x.2)) fun v1 =>
 some (w64 (isub (len v1) (len v0.2)), (), (), v1)
def ps_q123 : List PK := [.k (.v Y8 [])]
def rs_q123 : List Kd := [.v (.str) [], .v (.int .i64) []]
def q123 (N : Nat) (x : List UInt8) : Option (List UInt8 × Int) :=
 jn (fun (v0 : Unit × List UInt8) =>
  some (v0.2, 0))
 fun v1 =>
 fixN (fun v2 (v3 : (List UInt8) × Unit × List UInt8) =>
  cnd (ilt 0 (len v3.1))
   (bnd (q119 N v3.1) fun v4 =>
   cnd (ieq v4.2 0)
    (some (([] : List UInt8), 4))
    (bnd (q122 N (((), v3.2.2), v4.1)) fun v5 =>
    grd (in2 v4.2 (len v3.1)) <|
    v2 (ldrop (toN v4.2) v3.1, (), v5.2.2.2)))
   (v1 ((), v3.2.2))) N (x, (), ([] : List UInt8))
def ps_q124 : List PK := [.k (.v Y8 []), .k (.v Y8 [])]
def rs_q124 : List Kd := [.v (.bool) []]
def q124 (N : Nat) (x : List UInt8 × List UInt8) : Option (Bool) :=
 some (seq x.1 x.2)
def ps_q125 : List PK := [.k (.v Y8 [])]
def rs_q125 : List Kd := [.v Y4 [], .v (.int .i64) []]
def q125 (N : Nat) (x : List UInt8) : Option ((UInt8 × (List UInt8) × (List UInt8) × Int × Int × D6 × D6 × Int × Int) × Int) :=
 cnd (ine (len x) 1024)
  (some ((0, ([] : List UInt8), ([] : List UInt8), 0, 0, (0, 0, 0, 0, false), (0, 0, 0, 0, false), 0, 0), 4))
  (grd (in3 27 32 (len x))
   (bnd (q107 N (ldrop (toN 27) (ltake (toN 32) x))) fun v0 =>
   grd (in3 32 37 (len x)) <|
   bnd (q107 N (ldrop (toN 32) (ltake (toN 37) x))) fun v1 =>
   grd (in3 37 45 (len x)) <|
   bnd (q108 N (ldrop (toN 37) (ltake (toN 45) x))) fun v2 =>
   grd (in3 45 53 (len x)) <|
   bnd (q108 N (ldrop (toN 45) (ltake (toN 53) x))) fun v3 =>
   grd (in3 53 55 (len x)) <|
   bnd (q107 N (ldrop (toN 53) (ltake (toN 55) x))) fun v4 =>
   grd (in3 55 57 (len x)) <|
   bnd (q107 N (ldrop (toN 55) (ltake (toN 57) x))) fun v5 =>
   jn (fun (v6 : UInt8 × (List UInt8) × (List UInt8) × Int × Int × D6 × D6 × Int × Int) =>
    grd (in3 8 24 (len x)) <|
    bnd (q117 N (ldrop (toN 8) (ltake (toN 24) x), ([32] : List UInt8))) fun v7 =>
    grd (in3 24 27 (len x)) <|
    bnd (q107 N (ldrop (toN 24) (ltake (toN 27) x))) fun v8 =>
    grd (in3 64 (imin (w64 (iadd 64 v8)) 1024) (len x)) <|
    bnd (q123 N (ldrop (toN 64) (ltake (toN (imin (w64 (iadd 64 v8)) 1024)) x))) fun v9 =>
    cnd (ine v9.2 0)
     (some ((0, ([] : List UInt8), ([] : List UInt8), 0, 0, (0, 0, 0, 0, false), (0, 0, 0, 0, false), 0, 0), 4))
     (bnd (q104 N (v6.1, v7, v9.1, v6.2.2.2)) fun v10 =>
     cnd (ine v10.2 0)
      (some ((0, ([] : List UInt8), ([] : List UInt8), 0, 0, (0, 0, 0, 0, false), (0, 0, 0, 0, false), 0, 0), 4))
      (bnd (q124 N (x, v10.1)) fun v11 =>
      cnd (bnot v11)
       (some ((0, ([] : List UInt8), ([] : List UInt8), 0, 0, (0, 0, 0, 0, false), (0, 0, 0, 0, false), 0, 0), 4))
       (some ((v6.1, v7, v9.1, v6.2.2.2), 0)))))
   fun v12 =>
   grd (in2 8 (len x)) <|
   bnd (q101 N 5) fun v13 =>
   cnd (seq (ltake (toN 8) x) v13)
    (v12 (5, ([] : List UInt8), ([] : List UInt8), v0, v1, v2, v3, v4, v5))
    (v12 (3, ([] : List UInt8), ([] : List UInt8), v0, v1, v2, v3, v4, v5))))
def ps_q126 : List PK := [.k (.v Y8 [])]
def rs_q126 : List Kd := [.v Y7 []]
def q126 (N : Nat) (x : List UInt8) : Option D6 :=
 grd (inb 0 (len x)) <|
 grd (inb 1 (len x)) <|
 grd (inb 2 (len x)) <|
 grd (inb 3 (len x)) <|
 some (w64 (n8 (lget x (toN 0) 0)), w64 (n8 (lget x (toN 1) 0)), w64 (n8 (lget x (toN 2) 0)), w64 (n8 (lget x (toN 3) 0)), false)
def ps_q127 : List PK := [.k (.v Y8 [])]
def rs_q127 : List Kd := [.v (.int .u32) [], .v (.int .u32) []]
def q127 (N : Nat) (x : List UInt8) : Option (Int × Int) :=
 jn (fun (v0 : Int) =>
  jn (fun (v1 : Int) =>
   some (v0, v1))
  fun v2 =>
  fixN (fun v3 (v4 : Int × Int × Int) =>
   cnd (ilt 0 v4.2.2)
    (cnd (ine (bitb .and .i64 v4.2.2 1) 0)
     (v3 (wr .u32 (imul v4.1 v4.2.1), wr .u32 (imul v4.2.1 v4.2.1), shrk .i64 v4.2.2 1))
     (v3 (v4.1, wr .u32 (imul v4.2.1 v4.2.1), shrk .i64 v4.2.2 1)))
    (v2 v4.1)) N (1, 16777619, len x))
 fun v5 =>
 fixN (fun v6 (v7 : Int × Int) =>
  cnd (ilt v7.2 (len x))
   (grd (inb v7.2 (len x))
    (v6 (wr .u32 (iadd (wr .u32 (imul v7.1 16777619)) (wr .u32 (n8 (lget x (toN v7.2) 0)))), w64 (iadd v7.2 1))))
   (v5 v7.1)) N (0, 0)
def ps_q128 : List PK := [.k (.v Y8 []), .k (.v Y8 [])]
def rs_q128 : List Kd := [.v (.int .i64) []]
def q128 (N : Nat) (x : List UInt8 × List UInt8) : Option (Int) :=
 bnd (q127 N x.2) fun v0 =>
 jn (fun (v1 : Int) =>
  jn (fun (v2 : Unit) =>
   jn (fun (v3 : Unit) =>
    some (-1))
   fun v4 =>
   fixN (fun v5 (v6 : Int × Int) =>
    cnd (ilt v6.2 (len x.1))
     (grd (inb v6.2 (len x.1))
      (grd (inb (w64 (isub v6.2 (len x.2))) (len x.1))
       (cnd (ieq (wr .u32 (isub (wr .u32 (iadd (wr .u32 (imul v6.1 16777619)) (wr .u32 (n8 (lget x.1 (toN v6.2) 0))))) (wr .u32 (imul v0.2 (wr .u32 (n8 (lget x.1 (toN (w64 (isub v6.2 (len x.2)))) 0))))))) v0.1)
        (grd (in3 (w64 (isub (w64 (iadd v6.2 1)) (len x.2))) (w64 (iadd v6.2 1)) (len x.1))
         (cnd (seq (ldrop (toN (w64 (isub (w64 (iadd v6.2 1)) (len x.2)))) (ltake (toN (w64 (iadd v6.2 1))) x.1)) x.2)
          (some (w64 (isub (w64 (iadd v6.2 1)) (len x.2))))
          (v5 (wr .u32 (isub (wr .u32 (iadd (wr .u32 (imul v6.1 16777619)) (wr .u32 (n8 (lget x.1 (toN v6.2) 0))))) (wr .u32 (imul v0.2 (wr .u32 (n8 (lget x.1 (toN (w64 (isub v6.2 (len x.2)))) 0)))))), w64 (iadd v6.2 1)))))
        (v5 (wr .u32 (isub (wr .u32 (iadd (wr .u32 (imul v6.1 16777619)) (wr .u32 (n8 (lget x.1 (toN v6.2) 0))))) (wr .u32 (imul v0.2 (wr .u32 (n8 (lget x.1 (toN (w64 (isub v6.2 (len x.2)))) 0)))))), w64 (iadd v6.2 1))))))
     (v4 ())) N (v1, len x.2))
  fun v7 =>
  cnd (ieq v1 v0.1)
   (grd (in2 (len x.2) (len x.1))
    (cnd (seq (ltake (toN (len x.2)) x.1) x.2)
     (some 0)
     (v7 ())))
   (v7 ()))
 fun v8 =>
 fixN (fun v9 (v10 : Int × Int) =>
  cnd (ilt v10.2 (len x.2))
   (grd (inb v10.2 (len x.1))
    (v9 (wr .u32 (iadd (wr .u32 (imul v10.1 16777619)) (wr .u32 (n8 (lget x.1 (toN v10.2) 0)))), w64 (iadd v10.2 1))))
   (v8 v10.1)) N (0, 0)
def ps_q129 : List PK := [.k (.v Y8 []), .k (.v Y8 [])]
def rs_q129 : List Kd := [.v (.int .i64) []]
def q129 (N : Nat) (x : List UInt8 × List UInt8) : Option (Int) :=
 cnd (ieq (len x.2) 0)
  (some 0)
  (cnd (ieq (len x.2) 1)
   (grd (inb 0 (len x.2))
    (bnd (q92 N (x.1, lget x.2 (toN 0) 0)) fun v0 =>
    some v0))
   (cnd (ieq (len x.2) (len x.1))
    (bnd (q124 N (x.2, x.1)) fun v1 =>
    cnd v1
     (some 0)
     (some (-1)))
    (cnd (ilt (len x.1) (len x.2))
     (some (-1))
     none)))
def ps_q130 : List PK := [.k (.v Y8 []), .k (.v Y8 [])]
def rs_q130 : List Kd := [.v Y8 [], .v Y8 [], .v (.bool) []]
def q130 (N : Nat) (x : List UInt8 × List UInt8) : Option (List UInt8 × List UInt8 × Bool) :=
 bnd (q129 N x) fun v0 =>
 cnd (ile 0 v0)
  (grd (in2 v0 (len x.1))
   (grd (in2 (w64 (iadd v0 (len x.2))) (len x.1))
    (some (ltake (toN v0) x.1, ldrop (toN (w64 (iadd v0 (len x.2)))) x.1, true))))
  (some (x.1, ([] : List UInt8), false))
def ps_tape_Get : List PK := [.k (.v Y8 [])]
def rs_tape_Get : List Kd := [.v Y2 [], .v (.int .i64) []]
def tape_Get (N : Nat) (x : List UInt8) : Option (D2 × Int) :=
 cnd (ine (len x) 128)
  (some ((0, 0, 0, 0, (0, 0, 0, 0, false), (0, 0, 0, 0, false), 0, 0, false, ([] : List UInt8)), 4))
  (grd (inb 0 (len x))
   (grd (inb 1 (len x))
    (grd (inb 2 (len x))
     (grd (inb 3 (len x))
      (grd (inb 4 (len x))
       (grd (in2 5 (len x))
        (bnd (q126 N (ldrop (toN 5) x)) fun v0 =>
        grd (in2 9 (len x)) <|
        bnd (q126 N (ldrop (toN 9) x)) fun v1 =>
        grd (inb 13 (len x)) <|
        grd (inb 14 (len x)) <|
        grd (inb 15 (len x)) <|
        grd (in2 16 (len x)) <|
        bnd (q130 N (ldrop (toN 16) x, ([143] : List UInt8))) fun v2 =>
        bnd (q94 N v2.1) fun v3 =>
        bnd (tape_Put N (w64 (n8 (lget x (toN 0) 0)), bitb .or .i64 (w64 (n8 (lget x (toN 1) 0))) (w64 (shlk .i64 (w64 (n8 (lget x (toN 2) 0))) 8)), lget x (toN 3) 0, lget x (toN 4) 0, v0, v1, w64 (n8 (lget x (toN 13) 0)), lget x (toN 14) 0, ieq (n8 (lget x (toN 15) 0)) (n8 1), v3)) fun v4 =>
        cnd (ine v4.2 0)
         (some ((0, 0, 0, 0, (0, 0, 0, 0, false), (0, 0, 0, 0, false), 0, 0, false, ([] : List UInt8)), 4))
         (bnd (q124 N (x, v4.1)) fun v5 =>
         cnd (bnot v5)
          (some ((0, 0, 0, 0, (0, 0, 0, 0, false), (0, 0, 0, 0, false), 0, 0, false, ([] : List UInt8)), 4))
          (some ((w64 (n8 (lget x (toN 0) 0)), bitb .or .i64 (w64 (n8 (lget x (toN 1) 0))) (w64 (shlk .i64 (w64 (n8 (lget x (toN 2) 0))) 8)), lget x (toN 3) 0, lget x (toN 4) 0, v0, v1, w64 (n8 (lget x (toN 13) 0)), lget x (toN 14) 0, ieq (n8 (lget x (toN 15) 0)) (n8 1), v3), 0))))))))))
def ps_q131 : List PK := [.k (.v Y8 [])]
def rs_q131 : List Kd := [.v Y4 [], .v (.slice Y2) [0], .v (.int .i64) [], .v (.int .i64) []]
def q131 (N : Nat) (x : List UInt8) : Option ((UInt8 × (List UInt8) × (List UInt8) × Int × Int × D6 × D6 × Int × Int) × (List D2) × Int × Int) :=
 cnd (ilt (len x) 1024)
  (some ((0, ([] : List UInt8), ([] : List UInt8), 0, 0, (0, 0, 0, 0, false), (0, 0, 0, 0, false), 0, 0), ([] : List D2), 0, 4))
  (grd (in2 1024 (len x))
   (bnd (q125 N (ltake (toN 1024) x)) fun v0 =>
   cnd (ine v0.2 0)
    (some ((0, ([] : List UInt8), ([] : List UInt8), 0, 0, (0, 0, 0, 0, false), (0, 0, 0, 0, false), 0, 0), ([] : List D2), 0, v0.2))
    (grd (in2 1024 (len x))
     (cnd (ine (imod (len (ldrop (toN 1024) x)) 128) 0)
      (some ((0, ([] : List UInt8), ([] : List UInt8), 0, 0, (0, 0, 0, 0, false), (0, 0, 0, 0, false), 0, 0), ([] : List D2), 0, 4))
      (cnd (ine (w64 (idiv (len (ldrop (toN 1024) x)) 128)) v0.1.2.2.2.1)
       (some ((0, ([] : List UInt8), ([] : List UInt8), 0, 0, (0, 0, 0, 0, false), (0, 0, 0, 0, false), 0, 0), ([] : List D2), 0, 1))
       (jn (fun (v1 : List D2) =>
        some (v0.1, v1, 0, 0))
       fun v2 =>
       fixN (fun v3 (v4 : (List D2) × Int) =>
        cnd (ilt v4.2 v0.1.2.2.2.1)
         (grd (in3 (w64 (imul v4.2 128)) (w64 (imul (w64 (iadd v4.2 1)) 128)) (len (ldrop (toN 1024) x)))
          (bnd (tape_Get N (ldrop (toN (w64 (imul v4.2 128))) (ltake (toN (w64 (imul (w64 (iadd v4.2 1)) 128))) (ldrop (toN 1024) x)))) fun v5 =>
          cnd (ine v5.2 0)
           (some ((0, ([] : List UInt8), ([] : List UInt8), 0, 0, (0, 0, 0, 0, false), (0, 0, 0, 0, false), 0, 0), ([] : List D2), w64 (iadd v4.2 1), v5.2))
           (grd (room (iadd (len v4.1) (len ([v5.1] : List D2))) 144)
            (v3 (lapp v4.1 ([v5.1] : List D2), w64 (iadd v4.2 1))))))
         (v2 v4.1)) N (([] : List D2), 0)))))))
def ps_q132 : List PK := [.k (.v Y2 []), .k (.v Y2 [])]
def rs_q132 : List Kd := [.v (.bool) []]
def q132 (N : Nat) (x : D2 × Int × Int × UInt8 × UInt8 × D6 × D6 × Int × UInt8 × Bool × List UInt8) : Option (Bool) :=
 cnd (ieq x.1.1 x.2.1)
  (cnd (ieq x.1.2.1 x.2.2.1)
   (cnd (ieq (n8 x.1.2.2.2.1) (n8 x.2.2.2.2.1))
    (cnd (band (ieq x.1.2.2.2.2.1.1 x.2.2.2.2.2.1.1) (band (ieq x.1.2.2.2.2.1.2.1 x.2.2.2.2.2.1.2.1) (band (ieq x.1.2.2.2.2.1.2.2.1 x.2.2.2.2.2.1.2.2.1) (band (ieq x.1.2.2.2.2.1.2.2.2.1 x.2.2.2.2.2.1.2.2.2.1) (beqb x.1.2.2.2.2.1.2.2.2.2 x.2.2.2.2.2.1.2.2.2.2)))))
     (cnd (band (ieq x.1.2.2.2.2.2.1.1 x.2.2.2.2.2.2.1.1) (band (ieq x.1.2.2.2.2.2.1.2.1 x.2.2.2.2.2.2.1.2.1) (band (ieq x.1.2.2.2.2.2.1.2.2.1 x.2.2.2.2.2.2.1.2.2.1) (band (ieq x.1.2.2.2.2.2.1.2.2.2.1 x.2.2.2.2.2.2.1.2.2.2.1) (beqb x.1.2.2.2.2.2.1.2.2.2.2 x.2.2.2.2.2.2.1.2.2.2.2)))))
      (cnd (ieq x.1.2.2.2.2.2.2.1 x.2.2.2.2.2.2.2.1)
       (cnd (ieq (n8 x.1.2.2.2.2.2.2.2.1) (n8 x.2.2.2.2.2.2.2.2.1))
        (some (beqb x.1.2.2.2.2.2.2.2.2.1 x.2.2.2.2.2.2.2.2.2.1))
        (some false))
       (some false))
      (some false))
     (some false))
    (some false))
   (some false))
  (some false)
def ps_q133 : List PK := [.k (.v (.slice Y2) [])]
def rs_q133 : List Kd := [.v Y2 [17], .v Y8 [0], .v (.int .i64) []]
def q133 (N : Nat) (x : List D2) : Option (D2 × List UInt8 × Int) :=
 cnd (ieq (len x) 0)
  (some ((0, 0, 0, 0, (0, 0, 0, 0, false), (0, 0, 0, 0, false), 0, 0, false, ([] : List UInt8)), ([] : List UInt8), 6))
  (jn (fun (v0 : Unit) =>
   jn (fun (v1 : Unit) =>
    jn (fun (v2 : List UInt8) =>
     grd (inb 0 (len x)) <|
     some (((lget x (toN 0) (0, (0, (0, (0, ((0, (0, (0, (0, false)))), ((0, (0, (0, (0, false)))), (0, (0, (false, [])))))))))).1, (lget x (toN 0) (0, (0, (0, (0, ((0, (0, (0, (0, false)))), ((0, (0, (0, (0, false)))), (0, (0, (false, [])))))))))).2.1, 255, (lget x (toN 0) (0, (0, (0, (0, ((0, (0, (0, (0, false)))), ((0, (0, (0, (0, false)))), (0, (0, (false, [])))))))))).2.2.2.1, (lget x (toN 0) (0, (0, (0, (0, ((0, (0, (0, (0, false)))), ((0, (0, (0, (0, false)))), (0, (0, (false, [])))))))))).2.2.2.2.1, (lget x (toN 0) (0, (0, (0, (0, ((0, (0, (0, (0, false)))), ((0, (0, (0, (0, false)))), (0, (0, (false, [])))))))))).2.2.2.2.2.1, (lget x (toN 0) (0, (0, (0, (0, ((0, (0, (0, (0, false)))), ((0, (0, (0, (0, false)))), (0, (0, (false, [])))))))))).2.2.2.2.2.2.1, (lget x (toN 0) (0, (0, (0, (0, ((0, (0, (0, (0, false)))), ((0, (0, (0, (0, false)))), (0, (0, (false, [])))))))))).2.2.2.2.2.2.2.1, (lget x (toN 0) (0, (0, (0, (0, ((0, (0, (0, (0, false)))), ((0, (0, (0, (0, false)))), (0, (0, (false, [])))))))))).2.2.2.2.2.2.2.2.1, ([] : List UInt8)), v2, 0))
    fun v3 =>
    fixN (fun v4 (v5 : (List UInt8) × Int) =>
     cnd (ilt v5.2 (len x))
      (grd (inb v5.2 (len x))
       (jn (fun (v6 : Unit) =>
        grd (room (iadd (len v5.1) (len (lget x (toN v5.2) (0, (0, (0, (0, ((0, (0, (0, (0, false)))), ((0, (0, (0, (0, false)))), (0, (0, (false, [])))))))))).2.2.2.2.2.2.2.2.2)) 1) <|
        v4 (lapp v5.1 (lget x (toN v5.2) (0, (0, (0, (0, ((0, (0, (0, (0, false)))), ((0, (0, (0, (0, false)))), (0, (0, (false, [])))))))))).2.2.2.2.2.2.2.2.2, w64 (iadd v5.2 1)))
       fun v7 =>
       cnd (ilt v5.2 (w64 (isub (len x) 1)))
        (cnd (ilt (len (lget x (toN v5.2) (0, (0, (0, (0, ((0, (0, (0, (0, false)))), ((0, (0, (0, (0, false)))), (0, (0, (false, [])))))))))).2.2.2.2.2.2.2.2.2) 112)
         (some ((0, 0, 0, 0, (0, 0, 0, 0, false), (0, 0, 0, 0, false), 0, 0, false, ([] : List UInt8)), ([] : List UInt8), 4))
         (cnd (ieq v5.2 (w64 (isub (len x) 1)))
          (cnd (ilt 0 (w64 (isub (len x) 1)))
           (cnd (ieq (len (lget x (toN v5.2) (0, (0, (0, (0, ((0, (0, (0, (0, false)))), ((0, (0, (0, (0, false)))), (0, (0, (false, [])))))))))).2.2.2.2.2.2.2.2.2) 0)
            (some ((0, 0, 0, 0, (0, 0, 0, 0, false), (0, 0, 0, 0, false), 0, 0, false, ([] : List UInt8)), ([] : List UInt8), 4))
            (v7 ()))
           (v7 ()))
          (v7 ())))
        (cnd (ieq v5.2 (w64 (isub (len x) 1)))
         (cnd (ilt 0 (w64 (isub (len x) 1)))
          (cnd (ieq (len (lget x (toN v5.2) (0, (0, (0, (0, ((0, (0, (0, (0, false)))), ((0, (0, (0, (0, false)))), (0, (0, (false, [])))))))))).2.2.2.2.2.2.2.2.2) 0)
           (some ((0, 0, 0, 0, (0, 0, 0, 0, false), (0, 0, 0, 0, false), 0, 0, false, ([] : List UInt8)), ([] : List UInt8), 4))
           (v7 ()))
          (v7 ()))
         (v7 ()))))
      (v3 v5.1)) N (([] : List UInt8), 0))
   fun v8 =>
   fixN (fun v9 (v10 : Int) =>
    cnd (ilt v10 (len x))
     (grd (inb v10 (len x))
      (jn (fun (v11 : Int) =>
       cnd (ine (w64 (n8 (lget x (toN v10) (0, (0, (0, (0, ((0, (0, (0, (0, false)))), ((0, (0, (0, (0, false)))), (0, (0, (false, [])))))))))).2.2.1)) v11)
        (some ((0, 0, 0, 0, (0, 0, 0, 0, false), (0, 0, 0, 0, false), 0, 0, false, ([] : List UInt8)), ([] : List UInt8), 8))
        (grd (inb 0 (len x))
         (bnd (q132 N (lget x (toN v10) (0, (0, (0, (0, ((0, (0, (0, (0, false)))), ((0, (0, (0, (0, false)))), (0, (0, (false, []))))))))), lget x (toN 0) (0, (0, (0, (0, ((0, (0, (0, (0, false)))), ((0, (0, (0, (0, false)))), (0, (0, (false, []))))))))))) fun v12 =>
         cnd (bnot v12)
          (some ((0, 0, 0, 0, (0, 0, 0, 0, false), (0, 0, 0, 0, false), 0, 0, false, ([] : List UInt8)), ([] : List UInt8), 8))
          (v9 (w64 (iadd v10 1))))))
      fun v13 =>
      cnd (ieq v10 (w64 (isub (len x) 1)))
       (v13 255)
       (v13 v10)))
     (v8 ())) N 0)
  fun v14 =>
  fixN (fun v15 (v16 : Int) =>
   cnd (ilt v16 (len x))
    (grd (inb v16 (len x))
     (bnd (q93 N (lget x (toN v16) (0, (0, (0, (0, ((0, (0, (0, (0, false)))), ((0, (0, (0, (0, false)))), (0, (0, (false, []))))))))))) fun v17 =>
     cnd (ine v17 0)
      (some ((0, 0, 0, 0, (0, 0, 0, 0, false), (0, 0, 0, 0, false), 0, 0, false, ([] : List UInt8)), ([] : List UInt8), v17))
      (v15 (w64 (iadd v16 1)))))
    (v14 ())) N 0)
def ps_q134 : List PK := [.k (.v (.u8) []), .k (.v Y7 [])]
def rs_q134 : List Kd := [.v (.int .i64) [], .v (.int .i64) []]
def q134 (N : Nat) (x : UInt8 × Int × Int × Int × Int × Bool) : Option (Int × Int) :=
 bnd (q96 N x) fun v0 =>
 cnd (ine v0 0)
  (some (0, v0))
  (bnd (q86 N x.1) fun v1 =>
  bnd (q87 N (x.1, x.2.2.2.2.2)) fun v2 =>
  some (w64 (isub (w64 (iadd (w64 (imul (w64 (iadd (w64 (imul (w64 (iadd (w64 (imul x.2.1 60)) x.2.2.1)) 60)) x.2.2.2.1)) v1)) x.2.2.2.2.1)) (w64 (imul v2 (w64 (isub (w64 (iadd (w64 (imul x.2.1 60)) x.2.2.1)) (w64 (idiv (w64 (iadd (w64 (imul x.2.1 60)) x.2.2.1)) 10))))))), 0))
def ps_q135 : List PK := [.k (.v (.st (.pair (.u8) (.pair (.bool) (.bool)))) []), .k (.v (.u8) [])]
def rs_q135 : List Kd := [.v (.st (.pair (.u8) (.pair (.bool) (.bool)))) [], .v (.bool) []]
def q135 (N : Nat) (x : (UInt8 × Bool × Bool) × UInt8) : Option ((UInt8 × Bool × Bool) × Bool) :=
 jn (fun (v0 : Unit) =>
  jn (fun (v1 : Unit) =>
   some (x.1, false))
  fun v2 =>
  fixN (fun v3 (v4 : UInt8) =>
   cnd (ile (n8 v4) (n8 6))
    (bnd (q18 N v4) fun v5 =>
    cnd (ieq (n8 v5) (n8 x.2))
     (some ((v4, x.1.2), true))
     (v3 (b8 (iadd (n8 v4) (n8 1)))))
    (v2 ())) N 0)
 fun v6 =>
 jn (fun (v7 : Bool) =>
  cnd v7
   (some ((x.1.1, ieq (n8 x.2) (n8 128), x.1.2.2), true))
   (cnd (ieq (n8 x.2) (n8 130))
    (cnd (ieq (n8 x.2) (n8 130))
     (some ((x.1.1, x.1.2.1, ieq (n8 x.2) (n8 130)), true))
     (v6 ()))
    (cnd (ieq (n8 x.2) (n8 131))
     (some ((x.1.1, x.1.2.1, ieq (n8 x.2) (n8 130)), true))
     (v6 ()))))
 fun v8 =>
 cnd (ieq (n8 x.2) (n8 128))
  (v8 (ieq (n8 x.2) (n8 128)))
  (v8 (ieq (n8 x.2) (n8 129)))
def ps_stl_Rows : List PK := [.k (.v Y8 [])]
def rs_stl_Rows : List Kd := [.v (.slice (.st Y5)) [0], .v (.int .i64) []]
def stl_Rows (N : Nat) (x : List UInt8) : Option ((List (List D3)) × Int) :=
 jn (fun (v0 : (List (List D3)) × List D3) =>
  bnd (q83 N v0.2) fun v1 =>
  grd (room (iadd (len v0.1) (len ([v1] : List (List D3)))) 24) <|
  some (lapp v0.1 ([v1] : List (List D3)), 0))
 fun v2 =>
 fixN (fun v3 (v4 : (List UInt8) × (List (List D3)) × (UInt8 × Bool × Bool) × List D3) =>
  cnd (ilt 0 (len v4.1))
   (grd (inb 0 (len v4.1))
    (cnd (ieq (n8 (lget v4.1 (toN 0) 0)) (n8 138))
     (bnd (q83 N v4.2.2.2) fun v5 =>
     grd (room (iadd (len v4.2.1) (len ([v5] : List (List D3)))) 24) <|
     grd (in2 1 (len v4.1)) <|
     v3 (ldrop (toN 1) v4.1, lapp v4.2.1 ([v5] : List (List D3)), (0, false, false), ([] : List D3)))
     (grd (inb 0 (len v4.1))
      (bnd (q135 N (v4.2.2.1, lget v4.1 (toN 0) 0)) fun v6 =>
      cnd v6.2
       (grd (in2 1 (len v4.1))
        (v3 (ldrop (toN 1) v4.1, v4.2.1, v6.1, v4.2.2.2)))
       (bnd (q119 N v4.1) fun v7 =>
       cnd (ieq v7.2 0)
        (some (([] : List (List D3)), 4))
        (grd (room (iadd (len v4.2.2.2) (len ([(enc v7.1, v4.2.2.1, ([] : List UInt8))] : List D3))) 40)
         (grd (in2 v7.2 (len v4.1))
          (v3 (ldrop (toN v7.2) v4.1, v4.2.1, v4.2.2.1, lapp v4.2.2.2 ([(enc v7.1, v4.2.2.1, ([] : List UInt8))] : List D3))))))))))
   (v2 (v4.2.1, v4.2.2.2))) N (x, ([] : List (List D3)), (0, false, false), ([] : List D3))
def ps_q136 : List PK := [.k (.b 121 (.st (.pair Y3 (.int .i64))) [6, 7]), .k (.v (.slice Y2) [])]
def rs_q136 : List Kd := [.v (.int .i64) []]
def q136 (N : Nat) (x : (D7 × Int) × List D2) : Option (Int × D7 × Int) :=
 bnd (q133 N x.2) fun v0 =>
 cnd (ine v0.2.2 0)
  (some (v0.2.2, x.1))
  (cnd (ine v0.1.1 0)
   (some (4, x.1))
   (cnd (ine (n8 v0.1.2.2.2.1) (n8 0))
    (some (4, x.1))
    (cnd (ine v0.1.2.1 x.1.2)
     (some (8, x.1))
     (cnd v0.1.2.2.2.2.2.2.2.2.1
      (some (0, x.1.1, w64 (iadd x.1.2 1)))
      (bnd (q81 N (v0.1.2.2.2.2.2.2.1, v0.1.2.2.2.2.2.2.2.1)) fun v1 =>
      bnd (q134 N (x.1.1.2.2.1, v0.1.2.2.2.2.1)) fun v2 =>
      cnd (ine v2.2 0)
       (some (v2.2, x.1.1, w64 (iadd x.1.2 1)))
       (bnd (q134 N (x.1.1.2.2.1, v0.1.2.2.2.2.2.1)) fun v3 =>
       cnd (ine v3.2 0)
        (some (v3.2, x.1.1, w64 (iadd x.1.2 1)))
        (bnd (stl_Rows N v0.2.1) fun v4 =>
        cnd (ine v4.2 0)
         (some (v4.2, x.1.1, w64 (iadd x.1.2 1)))
         (bnd (stl_add N (x.1.1.2.2.2.2.2.1, v1)) fun v5 =>
         cnd (ile 400 (len x.1.1.2.2.2.2.2.2.1))
          (some (9, x.1.1, w64 (iadd x.1.2 1)))
          (cnd (ilt 16 (len v5))
           (some (9, x.1.1, w64 (iadd x.1.2 1)))
           (bnd (q59 N ((w64 (iadd (len x.1.1.2.2.2.2.2.2.1) 1), (v2.1, v3.1), v1.1, 1, ([] : List UInt8), v4.1), v5)) fun v6 =>
           cnd (ine v6 0)
            (some (v6, x.1.1, w64 (iadd x.1.2 1)))
            (grd (room (iadd (len x.1.1.2.2.2.2.2.2.1) (len ([(w64 (iadd (len x.1.1.2.2.2.2.2.2.1) 1), (v2.1, v3.1), v1.1, 1, ([] : List UInt8), v4.1)] : List D1))) 88)
             (some (0, (x.1.1.1, x.1.1.2.1, x.1.1.2.2.1, x.1.1.2.2.2.1, x.1.1.2.2.2.2.1, v5, lapp x.1.1.2.2.2.2.2.2.1 ([(w64 (iadd (len x.1.1.2.2.2.2.2.2.1) 1), (v2.1, v3.1), v1.1, 1, ([] : List UInt8), v4.1)] : List D1), x.1.1.2.2.2.2.2.2.2), w64 (iadd x.1.2 1))))))))))))))
def ps_q137 : List PK := [.k (.v (.slice (.st Y5)) [])]
def rs_q137 : List Kd := [.v (.slice (.st Y5)) [0]]
def q137 (N : Nat) (x : List (List D3)) : Option (List (List D3)) :=
 cnd (ine (len x) 0)
  (grd (room (iadd (len ([] : List (List D3))) (len x)) 24)
   (some (lapp ([] : List (List D3)) x)))
  (univ fun v0 =>
  cnd v0
   (some ([] : List (List D3)))
   (grd (room (iadd (len ([] : List (List D3))) (len x)) 24)
    (some (lapp ([] : List (List D3)) x))))
def ps_q138 : List PK := [.k (.v Y5 [])]
def rs_q138 : List Kd := [.v Y5 [0]]
def q138 (N : Nat) (x : List D3) : Option (List D3) :=
 cnd (ine (len x) 0)
  (grd (room (iadd (len ([] : List D3)) (len x)) 40)
   (some (lapp ([] : List D3) x)))
  (univ fun v0 =>
  cnd v0
   (some ([] : List D3))
   (grd (room (iadd (len ([] : List D3)) (len x)) 40)
    (some (lapp ([] : List D3) x))))
def ps_q139 : List PK := [.k (.v (.slice (.st Y5)) [])]
def rs_q139 : List Kd := [.v (.slice (.st Y5)) [0]]
def q139 (N : Nat) (x : List (List D3)) : Option (List (List D3)) :=
 bnd (q137 N x) fun v0 =>
 jn (fun (v1 : List (List D3)) =>
  some v1)
 fun v2 =>
 fixN (fun v3 (v4 : Int × List (List D3)) =>
  cnd (ilt v4.1 (len v0))
   (grd (inb v4.1 (len v4.2))
    (bnd (q138 N (lget v4.2 (toN v4.1) [])) fun v5 =>
    grd (inb v4.1 (len v4.2)) <|
    v3 (w64 (iadd v4.1 1), lset v4.2 (toN v4.1) v5)))
   (v2 v4.2)) N (0, v0)
def ps_q140 : List PK := [.k (.v Y1 [])]
def rs_q140 : List Kd := [.v Y1 [6]]
def q140 (N : Nat) (x : D1) : Option D1 :=
 bnd (q139 N x.2.2.2.2.2) fun v0 =>
 some (x.1, x.2.1, x.2.2.1, x.2.2.2.1, x.2.2.2.2.1, v0)
def ps_q141 : List PK := [.k (.v Y1 []), .k (.v Y1 [])]
def rs_q141 : List Kd := [.v (.int .i64) []]
def q141 (N : Nat) (x : D1 × Int × (Int × Int) × (List UInt8) × UInt8 × (List UInt8) × List (List D3)) : Option (Int) :=
 bnd (q61 N (x.1.2.1.1, x.2.2.1.1)) fun v0 =>
 bnd (q61 N (x.1.1, x.2.1)) fun v1 =>
 bnd (q62 N ([v0, v1] : List Int)) fun v2 =>
 some v2
def ps_q142 : List PK := [.k (.r 4 Y1), .k (.v (.int .i64) []), .k (.v (.int .i64) []), .fn 140]
def rs_q142 : List Kd := []
def q142 (N : Nat) (x : (List D1) × Int × Int) : Option (List D1) :=
 fixN (fun v0 (v1 : Int × List D1) =>
  cnd (ilt v1.1 x.2.2)
   (jn (fun (v2 : List D1) =>
    v0 (w64 (iadd v1.1 1), v2))
   fun v3 =>
   fixN (fun v4 (v5 : Int × List D1) =>
    cnd (ilt x.2.1 v5.1)
     (grd (inb v5.1 (len v5.2))
      (grd (inb (w64 (isub v5.1 1)) (len v5.2))
       (bnd (q141 N (lget v5.2 (toN v5.1) (0, ((0, 0), ([], (0, ([], []))))), lget v5.2 (toN (w64 (isub v5.1 1))) (0, ((0, 0), ([], (0, ([], []))))))) fun v6 =>
       cnd (ilt v6 0)
        (grd (inb (w64 (isub v5.1 1)) (len v5.2))
         (grd (inb v5.1 (len v5.2))
          (grd (inb v5.1 (len v5.2))
           (grd (inb (w64 (isub v5.1 1)) (len (lset v5.2 (toN v5.1) (lget v5.2 (toN (w64 (isub v5.1 1))) (0, ((0, 0), ([], (0, ([], [])))))))))
            (v4 (w64 (isub v5.1 1), lset (lset v5.2 (toN v5.1) (lget v5.2 (toN (w64 (isub v5.1 1))) (0, ((0, 0), ([], (0, ([], []))))))) (toN (w64 (isub v5.1 1))) (lget v5.2 (toN v5.1) (0, ((0, 0), ([], (0, ([], []))))))))))))
        (v3 v5.2))))
     (v3 v5.2)) N v1)
   (some v1.2)) N (w64 (iadd x.2.1 1), x.1)
def ps_q143 : List PK := [.k (.r 4 Y1), .k (.v (.int .i64) []), .k (.v (.int .i64) []), .k (.v (.int .i64) []), .fn 140]
def rs_q143 : List Kd := []
def q143 (N : Nat) (x : (List D1) × Int × Int × Int) : Option (List D1) :=
 fixN (fun v0 (v1 : Int × List D1) =>
  cnd (ilt v1.1 x.2.2.2)
   (grd (inb (w64 (iadd x.2.2.1 v1.1)) (len v1.2))
    (grd (inb (w64 (iadd x.2.1 v1.1)) (len v1.2))
     (grd (inb (w64 (iadd x.2.1 v1.1)) (len v1.2))
      (grd (inb (w64 (iadd x.2.2.1 v1.1)) (len (lset v1.2 (toN (w64 (iadd x.2.1 v1.1))) (lget v1.2 (toN (w64 (iadd x.2.2.1 v1.1))) (0, ((0, 0), ([], (0, ([], [])))))))))
       (v0 (w64 (iadd v1.1 1), lset (lset v1.2 (toN (w64 (iadd x.2.1 v1.1))) (lget v1.2 (toN (w64 (iadd x.2.2.1 v1.1))) (0, ((0, 0), ([], (0, ([], []))))))) (toN (w64 (iadd x.2.2.1 v1.1))) (lget v1.2 (toN (w64 (iadd x.2.1 v1.1))) (0, ((0, 0), ([], (0, ([], []))))))))))))
   (some v1.2)) N (0, x.1)
def ps_q144 : List PK := [.k (.r 4 Y1), .k (.v (.int .i64) []), .k (.v (.int .i64) []), .k (.v (.int .i64) []), .fn 140]
def rs_q144 : List Kd := []
def q144 (N : Nat) (x : (List D1) × Int × Int × Int) : Option (List D1) :=
 jn (fun (v0 : Int × List D1) =>
  bnd (q143 N (v0.2, w64 (isub x.2.2.1 v0.1), x.2.2.1, v0.1)) fun v1 =>
  some v1)
 fun v2 =>
 fixN (fun v3 (v4 : Int × Int × List D1) =>
  cnd (ine v4.1 v4.2.1)
   (cnd (ilt v4.2.1 v4.1)
    (bnd (q143 N (v4.2.2, w64 (isub x.2.2.1 v4.1), x.2.2.1, v4.2.1)) fun v5 =>
    v3 (w64 (isub v4.1 v4.2.1), v4.2.1, v5))
    (bnd (q143 N (v4.2.2, w64 (isub x.2.2.1 v4.1), w64 (isub (w64 (iadd x.2.2.1 v4.2.1)) v4.1), v4.1)) fun v6 =>
    v3 (v4.1, w64 (isub v4.2.1 v4.1), v6)))
   (v2 (v4.1, v4.2.2))) N (w64 (isub x.2.2.1 x.2.1), w64 (isub x.2.2.2 x.2.2.1), x.1)
def ps_q145 : List PK := [.k (.r 4 Y1), .k (.v (.int .i64) []), .k (.v (.int .i64) []), .k (.v (.int .i64) []), .fn 140]
def rs_q145 : List Kd := []
def q145_r (N : Nat) : Nat → ((List D1) × Int × Int × Int) → Option (List D1)
 | 0, _ => none
 | D + 1, x => jn (fun (v0 : Unit) =>
   jn (fun (v1 : Unit) =>
    jn (fun (v2 : Int × Int) =>
     jn (fun (v3 : Int) =>
      jn (fun (v4 : List D1) =>
       jn (fun (v5 : List D1) =>
        cnd (ilt (w64 (shrk .u64 (wr .u64 (w64 (iadd x.2.1 x.2.2.2))) 1)) (w64 (isub (w64 (iadd (w64 (shrk .u64 (wr .u64 (w64 (iadd x.2.1 x.2.2.2))) 1)) x.2.2.1)) v3)))
         (cnd (ilt (w64 (isub (w64 (iadd (w64 (shrk .u64 (wr .u64 (w64 (iadd x.2.1 x.2.2.2))) 1)) x.2.2.1)) v3)) x.2.2.2)
          (bnd (q145_r N D (v5, w64 (shrk .u64 (wr .u64 (w64 (iadd x.2.1 x.2.2.2))) 1), w64 (isub (w64 (iadd (w64 (shrk .u64 (wr .u64 (w64 (iadd x.2.1 x.2.2.2))) 1)) x.2.2.1)) v3), x.2.2.2)) fun v6 =>
          some v6)
          (some v5))
         (some v5))
       fun v7 =>
       cnd (ilt x.2.1 v3)
        (cnd (ilt v3 (w64 (shrk .u64 (wr .u64 (w64 (iadd x.2.1 x.2.2.2))) 1)))
         (bnd (q145_r N D (v4, x.2.1, v3, w64 (shrk .u64 (wr .u64 (w64 (iadd x.2.1 x.2.2.2))) 1))) fun v8 =>
         v7 v8)
         (v7 v4))
        (v7 v4))
      fun v9 =>
      cnd (ilt v3 x.2.2.1)
       (cnd (ilt x.2.2.1 (w64 (isub (w64 (iadd (w64 (shrk .u64 (wr .u64 (w64 (iadd x.2.1 x.2.2.2))) 1)) x.2.2.1)) v3)))
        (bnd (q144 N (x.1, v3, x.2.2.1, w64 (isub (w64 (iadd (w64 (shrk .u64 (wr .u64 (w64 (iadd x.2.1 x.2.2.2))) 1)) x.2.2.1)) v3))) fun v10 =>
        v9 v10)
        (v9 x.1))
       (v9 x.1))
     fun v11 =>
     fixN (fun v12 (v13 : Int × Int) =>
      cnd (ilt v13.1 v13.2)
       (grd (inb (w64 (isub (w64 (isub (w64 (iadd (w64 (shrk .u64 (wr .u64 (w64 (iadd x.2.1 x.2.2.2))) 1)) x.2.2.1)) 1)) (w64 (shrk .u64 (wr .u64 (w64 (iadd v13.1 v13.2))) 1)))) (len x.1))
        (grd (inb (w64 (shrk .u64 (wr .u64 (w64 (iadd v13.1 v13.2))) 1)) (len x.1))
         (bnd (q141 N (lget x.1 (toN (w64 (isub (w64 (isub (w64 (iadd (w64 (shrk .u64 (wr .u64 (w64 (iadd x.2.1 x.2.2.2))) 1)) x.2.2.1)) 1)) (w64 (shrk .u64 (wr .u64 (w64 (iadd v13.1 v13.2))) 1))))) (0, ((0, 0), ([], (0, ([], []))))), lget x.1 (toN (w64 (shrk .u64 (wr .u64 (w64 (iadd v13.1 v13.2))) 1))) (0, ((0, 0), ([], (0, ([], []))))))) fun v14 =>
         cnd (bnot (ilt v14 0))
          (v12 (w64 (iadd (w64 (shrk .u64 (wr .u64 (w64 (iadd v13.1 v13.2))) 1)) 1), v13.2))
          (v12 (v13.1, w64 (shrk .u64 (wr .u64 (w64 (iadd v13.1 v13.2))) 1))))))
       (v11 v13.1)) N v2)
    fun v15 =>
    cnd (ilt (w64 (shrk .u64 (wr .u64 (w64 (iadd x.2.1 x.2.2.2))) 1)) x.2.2.1)
     (v15 (w64 (isub (w64 (iadd (w64 (shrk .u64 (wr .u64 (w64 (iadd x.2.1 x.2.2.2))) 1)) x.2.2.1)) x.2.2.2), w64 (shrk .u64 (wr .u64 (w64 (iadd x.2.1 x.2.2.2))) 1)))
     (v15 (x.2.1, x.2.2.1)))
   fun v16 =>
   cnd (ieq (w64 (isub x.2.2.2 x.2.2.1)) 1)
    (jn (fun (v17 : Int) =>
     jn (fun (v18 : List D1) =>
      some v18)
     fun v19 =>
     fixN (fun v20 (v21 : Int × List D1) =>
      cnd (ilt v17 v21.1)
       (grd (inb (w64 (isub v21.1 1)) (len v21.2))
        (grd (inb v21.1 (len v21.2))
         (grd (inb v21.1 (len v21.2))
          (grd (inb (w64 (isub v21.1 1)) (len (lset v21.2 (toN v21.1) (lget v21.2 (toN (w64 (isub v21.1 1))) (0, ((0, 0), ([], (0, ([], [])))))))))
           (v20 (w64 (isub v21.1 1), lset (lset v21.2 (toN v21.1) (lget v21.2 (toN (w64 (isub v21.1 1))) (0, ((0, 0), ([], (0, ([], []))))))) (toN (w64 (isub v21.1 1))) (lget v21.2 (toN v21.1) (0, ((0, 0), ([], (0, ([], []))))))))))))
       (v19 v21.2)) N (x.2.2.1, x.1))
    fun v22 =>
    fixN (fun v23 (v24 : Int × Int) =>
     cnd (ilt v24.1 v24.2)
      (grd (inb x.2.2.1 (len x.1))
       (grd (inb (w64 (shrk .u64 (wr .u64 (w64 (iadd v24.1 v24.2))) 1)) (len x.1))
        (bnd (q141 N (lget x.1 (toN x.2.2.1) (0, ((0, 0), ([], (0, ([], []))))), lget x.1 (toN (w64 (shrk .u64 (wr .u64 (w64 (iadd v24.1 v24.2))) 1))) (0, ((0, 0), ([], (0, ([], []))))))) fun v25 =>
        cnd (bnot (ilt v25 0))
         (v23 (w64 (iadd (w64 (shrk .u64 (wr .u64 (w64 (iadd v24.1 v24.2))) 1)) 1), v24.2))
         (v23 (v24.1, w64 (shrk .u64 (wr .u64 (w64 (iadd v24.1 v24.2))) 1))))))
      (v22 v24.1)) N (x.2.1, x.2.2.1))
    (v16 ()))
  fun v26 =>
  cnd (ieq (w64 (isub x.2.2.1 x.2.1)) 1)
   (jn (fun (v27 : Int) =>
    jn (fun (v28 : List D1) =>
     some v28)
    fun v29 =>
    fixN (fun v30 (v31 : Int × List D1) =>
     cnd (ilt v31.1 (w64 (isub v27 1)))
      (grd (inb (w64 (iadd v31.1 1)) (len v31.2))
       (grd (inb v31.1 (len v31.2))
        (grd (inb v31.1 (len v31.2))
         (grd (inb (w64 (iadd v31.1 1)) (len (lset v31.2 (toN v31.1) (lget v31.2 (toN (w64 (iadd v31.1 1))) (0, ((0, 0), ([], (0, ([], [])))))))))
          (v30 (w64 (iadd v31.1 1), lset (lset v31.2 (toN v31.1) (lget v31.2 (toN (w64 (iadd v31.1 1))) (0, ((0, 0), ([], (0, ([], []))))))) (toN (w64 (iadd v31.1 1))) (lget v31.2 (toN v31.1) (0, ((0, 0), ([], (0, ([], []))))))))))))
      (v29 v31.2)) N (x.2.1, x.1))
   fun v32 =>
   fixN (fun v33 (v34 : Int × Int) =>
    cnd (ilt v34.1 v34.2)
     (grd (inb (w64 (shrk .u64 (wr .u64 (w64 (iadd v34.1 v34.2))) 1)) (len x.1))
      (grd (inb x.2.1 (len x.1))
       (bnd (q141 N (lget x.1 (toN (w64 (shrk .u64 (wr .u64 (w64 (iadd v34.1 v34.2))) 1))) (0, ((0, 0), ([], (0, ([], []))))), lget x.1 (toN x.2.1) (0, ((0, 0), ([], (0, ([], []))))))) fun v35 =>
       cnd (ilt v35 0)
        (v33 (w64 (iadd (w64 (shrk .u64 (wr .u64 (w64 (iadd v34.1 v34.2))) 1)) 1), v34.2))
        (v33 (v34.1, w64 (shrk .u64 (wr .u64 (w64 (iadd v34.1 v34.2))) 1))))))
     (v32 v34.1)) N x.2.2)
   (v26 ())
def q145 (N : Nat) (x : (List D1) × Int × Int × Int) : Option (List D1) := q145_r N N x
def ps_q146 : List PK := [.k (.r 4 Y1), .k (.v (.int .i64) []), .fn 140]
def rs_q146 : List Kd := []
def q146 (N : Nat) (x : (List D1) × Int) : Option (List D1) :=
 jn (fun (v0 : Int × List D1) =>
  bnd (q142 N (v0.2, v0.1, x.2)) fun v1 =>
  fixN (fun v2 (v3 : Int × List D1) =>
   cnd (ilt v3.1 x.2)
    (jn (fun (v4 : Int × List D1) =>
     cnd (ilt (w64 (iadd v4.1 v3.1)) x.2)
      (bnd (q145 N (v4.2, v4.1, w64 (iadd v4.1 v3.1), x.2)) fun v5 =>
      v2 (w64 (imul v3.1 2), v5))
      (v2 (w64 (imul v3.1 2), v4.2)))
    fun v6 =>
    fixN (fun v7 (v8 : Int × Int × List D1) =>
     cnd (ile v8.2.1 x.2)
      (bnd (q145 N (v8.2.2, v8.1, w64 (iadd v8.1 v3.1), v8.2.1)) fun v9 =>
      v7 (v8.2.1, w64 (iadd v8.2.1 (w64 (imul 2 v3.1))), v9))
      (v6 (v8.1, v8.2.2))) N (0, w64 (imul 2 v3.1), v3.2))
    (some v3.2)) N (20, v1))
 fun v10 =>
 fixN (fun v11 (v12 : Int × Int × List D1) =>
  cnd (ile v12.2.1 x.2)
   (bnd (q142 N (v12.2.2, v12.1, v12.2.1)) fun v13 =>
   v11 (v12.2.1, w64 (iadd v12.2.1 20), v13))
   (v10 (v12.1, v12.2.2))) N (0, 20, x.1)
def ps_q147 : List PK := [.k (.r 4 Y1), .fn 140]
def rs_q147 : List Kd := []
def q147 (N : Nat) (x : List D1) : Option (List D1) :=
 bnd (q146 N (x, len x)) fun v0 =>
 some v0
def ps_q148 : List PK := [.k (.v (.slice Y1) [])]
def rs_q148 : List Kd := [.v (.slice Y1) [0]]
def q148 (N : Nat) (x : List D1) : Option (List D1) :=
 jn (fun (v0 : List D1) =>
  bnd (q147 N v0) fun v1 =>
  some v1)
 fun v2 =>
 fixN (fun v3 (v4 : (List D1) × Int) =>
  cnd (ilt v4.2 (len x))
   (grd (inb v4.2 (len x))
    (bnd (q140 N (lget x (toN v4.2) (0, ((0, 0), ([], (0, ([], []))))))) fun v5 =>
    grd (room (iadd (len v4.1) (len ([v5] : List D1))) 88) <|
    v3 (lapp v4.1 ([v5] : List D1), w64 (iadd v4.2 1))))
   (v2 v4.1)) N (([] : List D1), 0)
def ps_q149 : List PK := [.k (.v Y8 [])]
def rs_q149 : List Kd := [.v Y3 [6, 7], .v (.int .i64) [], .v (.int .i64) []]
def q149 (N : Nat) (x : List UInt8) : Option (D7 × Int × Int) :=
 bnd (q131 N x) fun v0 =>
 cnd (ine v0.2.2.2 0)
  (some ((([] : List UInt8), ([] : List UInt8), 0, false, 0, ([] : List D4), ([] : List D1), ([] : List D5)), v0.2.2))
  (jn (fun (v1 : D7 × Int) =>
   bnd (q90 N (v0.1.1, false, 0)) fun v2 =>
   cnd (ine v0.1.2.2.2.2.1 v1.2)
    (some ((([] : List UInt8), ([] : List UInt8), 0, false, 0, ([] : List D4), ([] : List D1), ([] : List D5)), 0, 1))
    (cnd (bnot (band (ieq v0.1.2.2.2.2.2.1.1 v2.1.1) (band (ieq v0.1.2.2.2.2.2.1.2.1 v2.1.2.1) (band (ieq v0.1.2.2.2.2.2.1.2.2.1 v2.1.2.2.1) (band (ieq v0.1.2.2.2.2.2.1.2.2.2.1 v2.1.2.2.2.1) (beqb v0.1.2.2.2.2.2.1.2.2.2.2 v2.1.2.2.2.2))))))
     (some ((([] : List UInt8), ([] : List UInt8), 0, false, 0, ([] : List D4), ([] : List D1), ([] : List D5)), 0, 1))
     (cnd (ine v0.1.2.2.2.2.2.2.2.1 15)
      (some ((([] : List UInt8), ([] : List UInt8), 0, false, 0, ([] : List D4), ([] : List D1), ([] : List D5)), 0, 1))
      (cnd (ine v0.1.2.2.2.2.2.2.2.2 32)
       (some ((([] : List UInt8), ([] : List UInt8), 0, false, 0, ([] : List D4), ([] : List D1), ([] : List D5)), 0, 1))
       (bnd (q148 N v1.1.2.2.2.2.2.2.1) fun v3 =>
       some ((v1.1.1, v1.1.2.1, v1.1.2.2.1, v1.1.2.2.2.1, len v3, v1.1.2.2.2.2.2.1, v3, v1.1.2.2.2.2.2.2.2), 0, 0))))))
  fun v4 =>
  fixN (fun v5 (v6 : (List D2) × Int × D7 × Int) =>
   cnd (ilt v6.2.1 (len v6.1))
    (jn (fun (v7 : Int) =>
     grd (in3 v6.2.1 (w64 (iadd v7 1)) (len v6.1)) <|
     bnd (q136 N (v6.2.2, ldrop (toN v6.2.1) (ltake (toN (w64 (iadd v7 1))) v6.1))) fun v8 =>
     cnd (ine v8.1 0)
      (some ((([] : List UInt8), ([] : List UInt8), 0, false, 0, ([] : List D4), ([] : List D1), ([] : List D5)), w64 (iadd v6.2.1 1), v8.1))
      (v5 (v6.1, w64 (iadd v7 1), v8.2)))
    fun v9 =>
    fixN (fun v10 (v11 : Int) =>
     cnd (ilt v11 (w64 (isub (len v6.1) 1)))
      (grd (inb v11 (len v6.1))
       (cnd (ine (n8 (lget v6.1 (toN v11) (0, (0, (0, (0, ((0, (0, (0, (0, false)))), ((0, (0, (0, (0, false)))), (0, (0, (false, [])))))))))).2.2.1) (n8 255))
        (v10 (w64 (iadd v11 1)))
        (v9 v11)))
      (v9 v11)) N v6.2.1)
    (v4 v6.2.2)) N (v0.2.1, 0, (v0.1.2.2.1, v0.1.2.1, v0.1.1, false, 0, ([] : List D4), ([] : List D1), ([] : List D5)), 0))
def ps_q150 : List PK := [.k (.v Y3 [])]
def rs_q150 : List Kd := [.v (.st (.pair (.str) (.pair (.str) (.pair (.u8) (.pair (.bool) (.int .i64)))))) []]
def q150 (N : Nat) (x : D7) : Option ((List UInt8) × (List UInt8) × UInt8 × Bool × Int) :=
 some (x.1, x.2.1, x.2.2.1, x.2.2.2.1, x.2.2.2.2.1)
def ps_q151 : List PK := [.k (.v (.slice Y6) []), .k (.v (.slice Y6) [])]
def rs_q151 : List Kd := [.v (.bool) []]
def q151 (N : Nat) (x : (List D4) × List D4) : Option (Bool) :=
 cnd (ine (len x.1) (len x.2))
  (some false)
  (jn (fun (v0 : Unit) =>
   some true)
  fun v1 =>
  fixN (fun v2 (v3 : Int) =>
   cnd (ilt v3 (len x.1))
    (grd (inb v3 (len x.1))
     (grd (inb v3 (len x.2))
      (cnd (bnot (band (seq (lget x.1 (toN v3) ([], (0, (0, (0, (0, (0, false))))))).1 (lget x.2 (toN v3) ([], (0, (0, (0, (0, (0, false))))))).1) (band (ieq (lget x.1 (toN v3) ([], (0, (0, (0, (0, (0, false))))))).2.1 (lget x.2 (toN v3) ([], (0, (0, (0, (0, (0, false))))))).2.1) (band (ieq (lget x.1 (toN v3) ([], (0, (0, (0, (0, (0, false))))))).2.2.1 (lget x.2 (toN v3) ([], (0, (0, (0, (0, (0, false))))))).2.2.1) (band (ieq (lget x.1 (toN v3) ([], (0, (0, (0, (0, (0, false))))))).2.2.2.1 (lget x.2 (toN v3) ([], (0, (0, (0, (0, (0, false))))))).2.2.2.1) (band (ieq (lget x.1 (toN v3) ([], (0, (0, (0, (0, (0, false))))))).2.2.2.2.1 (lget x.2 (toN v3) ([], (0, (0, (0, (0, (0, false))))))).2.2.2.2.1) (band (ieq (n8 (lget x.1 (toN v3) ([], (0, (0, (0, (0, (0, false))))))).2.2.2.2.2.1) (n8 (lget x.2 (toN v3) ([], (0, (0, (0, (0, (0, false))))))).2.2.2.2.2.1)) (beqb (lget x.1 (toN v3) ([], (0, (0, (0, (0, (0, false))))))).2.2.2.2.2.2 (lget x.2 (toN v3) ([], (0, (0, (0, (0, (0, false))))))).2.2.2.2.2.2))))))))
       (some false)
       (v2 (w64 (iadd v3 1))))))
    (v1 ())) N 0)
def ps_q152 : List PK := [.k (.v Y5 []), .k (.v Y5 [])]
def rs_q152 : List Kd := [.v (.bool) []]
def q152 (N : Nat) (x : (List D3) × List D3) : Option (Bool) :=
 cnd (ine (len x.1) (len x.2))
  (some false)
  (jn (fun (v0 : Unit) =>
   some true)
  fun v1 =>
  fixN (fun v2 (v3 : Int) =>
   cnd (ilt v3 (len x.1))
    (grd (inb v3 (len x.1))
     (grd (inb v3 (len x.2))
      (cnd (bnot (band (seq (lget x.1 (toN v3) ([], ((0, (false, false)), []))).1 (lget x.2 (toN v3) ([], ((0, (false, false)), []))).1) (band (band (ieq (n8 (lget x.1 (toN v3) ([], ((0, (false, false)), []))).2.1.1) (n8 (lget x.2 (toN v3) ([], ((0, (false, false)), []))).2.1.1)) (band (beqb (lget x.1 (toN v3) ([], ((0, (false, false)), []))).2.1.2.1 (lget x.2 (toN v3) ([], ((0, (false, false)), []))).2.1.2.1) (beqb (lget x.1 (toN v3) ([], ((0, (false, false)), []))).2.1.2.2 (lget x.2 (toN v3) ([], ((0, (false, false)), []))).2.1.2.2))) (seq (lget x.1 (toN v3) ([], ((0, (false, false)), []))).2.2 (lget x.2 (toN v3) ([], ((0, (false, false)), []))).2.2))))
       (some false)
       (v2 (w64 (iadd v3 1))))))
    (v1 ())) N 0)
def ps_q153 : List PK := [.k (.v (.st Y5) []), .k (.v (.st Y5) [])]
def rs_q153 : List Kd := [.v (.bool) []]
def q153 (N : Nat) (x : (List D3) × List D3) : Option (Bool) :=
 bnd (q152 N x) fun v0 =>
 some v0
def ps_q154 : List PK := [.k (.v (.slice (.st Y5)) []), .k (.v (.slice (.st Y5)) []), .fn 63]
def rs_q154 : List Kd := [.v (.bool) []]
def q154 (N : Nat) (x : (List (List D3)) × List (List D3)) : Option (Bool) :=
 cnd (ine (len x.1) (len x.2))
  (some false)
  (jn (fun (v0 : Unit) =>
   some true)
  fun v1 =>
  fixN (fun v2 (v3 : Int) =>
   cnd (ilt v3 (len x.1))
    (grd (inb v3 (len x.1))
     (grd (inb v3 (len x.2))
      (bnd (q153 N (lget x.1 (toN v3) [], lget x.2 (toN v3) [])) fun v4 =>
      cnd (bnot v4)
       (some false)
       (v2 (w64 (iadd v3 1))))))
    (v1 ())) N 0)
def ps_q155 : List PK := [.k (.v (.slice (.st Y5)) []), .k (.v (.slice (.st Y5)) [])]
def rs_q155 : List Kd := [.v (.bool) []]
def q155 (N : Nat) (x : (List (List D3)) × List (List D3)) : Option (Bool) :=
 bnd (q154 N x) fun v0 =>
 some v0
def ps_q156 : List PK := [.k (.v Y1 []), .k (.v Y1 [])]
def rs_q156 : List Kd := [.v (.bool) []]
def q156 (N : Nat) (x : D1 × Int × (Int × Int) × (List UInt8) × UInt8 × (List UInt8) × List (List D3)) : Option (Bool) :=
 cnd (ieq x.1.1 x.2.1)
  (cnd (band (ieq x.1.2.1.1 x.2.2.1.1) (ieq x.1.2.1.2 x.2.2.1.2))
   (cnd (seq x.1.2.2.1 x.2.2.2.1)
    (cnd (ieq (n8 x.1.2.2.2.1) (n8 x.2.2.2.2.1))
     (cnd (seq x.1.2.2.2.2.1 x.2.2.2.2.2.1)
      (bnd (q155 N (x.1.2.2.2.2.2, x.2.2.2.2.2.2)) fun v0 =>
      some v0)
      (some false))
     (some false))
    (some false))
   (some false))
  (some false)
def ps_q157 : List PK := [.k (.v (.slice Y1) []), .k (.v (.slice Y1) []), .fn 43]
def rs_q157 : List Kd := [.v (.bool) []]
def q157 (N : Nat) (x : (List D1) × List D1) : Option (Bool) :=
 cnd (ine (len x.1) (len x.2))
  (some false)
  (jn (fun (v0 : Unit) =>
   some true)
  fun v1 =>
  fixN (fun v2 (v3 : Int) =>
   cnd (ilt v3 (len x.1))
    (grd (inb v3 (len x.1))
     (grd (inb v3 (len x.2))
      (bnd (q156 N (lget x.1 (toN v3) (0, ((0, 0), ([], (0, ([], []))))), lget x.2 (toN v3) (0, ((0, 0), ([], (0, ([], []))))))) fun v4 =>
      cnd (bnot v4)
       (some false)
       (v2 (w64 (iadd v3 1))))))
    (v1 ())) N 0)
def ps_q158 : List PK := [.k (.v (.slice Y9) []), .k (.v (.slice Y9) [])]
def rs_q158 : List Kd := [.v (.bool) []]
def q158 (N : Nat) (x : (List D5) × List D5) : Option (Bool) :=
 cnd (ine (len x.1) (len x.2))
  (some false)
  (jn (fun (v0 : Unit) =>
   some true)
  fun v1 =>
  fixN (fun v2 (v3 : Int) =>
   cnd (ilt v3 (len x.1))
    (grd (inb v3 (len x.1))
     (grd (inb v3 (len x.2))
      (cnd (bnot (band (ieq (lget x.1 (toN v3) (0, (0, (0, (0, ([], ([], (false, false)))))))).1 (lget x.2 (toN v3) (0, (0, (0, (0, ([], ([], (false, false)))))))).1) (band (ieq (lget x.1 (toN v3) (0, (0, (0, (0, ([], ([], (false, false)))))))).2.1 (lget x.2 (toN v3) (0, (0, (0, (0, ([], ([], (false, false)))))))).2.1) (band (ieq (lget x.1 (toN v3) (0, (0, (0, (0, ([], ([], (false, false)))))))).2.2.1 (lget x.2 (toN v3) (0, (0, (0, (0, ([], ([], (false, false)))))))).2.2.1) (band (ieq (lget x.1 (toN v3) (0, (0, (0, (0, ([], ([], (false, false)))))))).2.2.2.1 (lget x.2 (toN v3) (0, (0, (0, (0, ([], ([], (false, false)))))))).2.2.2.1) (band (seq (lget x.1 (toN v3) (0, (0, (0, (0, ([], ([], (false, false)))))))).2.2.2.2.1 (lget x.2 (toN v3) (0, (0, (0, (0, ([], ([], (false, false)))))))).2.2.2.2.1) (band (seq (lget x.1 (toN v3) (0, (0, (0, (0, ([], ([], (false, false)))))))).2.2.2.2.2.1 (lget x.2 (toN v3) (0, (0, (0, (0, ([], ([], (false, false)))))))).2.2.2.2.2.1) (band (beqb (lget x.1 (toN v3) (0, (0, (0, (0, ([], ([], (false, false)))))))).2.2.2.2.2.2.1 (lget x.2 (toN v3) (0, (0, (0, (0, ([], ([], (false, false)))))))).2.2.2.2.2.2.1) (beqb (lget x.1 (toN v3) (0, (0, (0, (0, ([], ([], (false, false)))))))).2.2.2.2.2.2.2 (lget x.2 (toN v3) (0, (0, (0, (0, ([], ([], (false, false)))))))).2.2.2.2.2.2.2)))))))))
       (some false)
       (v2 (w64 (iadd v3 1))))))
    (v1 ())) N 0)
def ps_q159 : List PK := [.k (.v Y3 []), .k (.v Y3 [])]
def rs_q159 : List Kd := [.v (.bool) []]
def q159 (N : Nat) (x : D7 × (List UInt8) × (List UInt8) × UInt8 × Bool × Int × (List D4) × (List D1) × List D5) : Option (Bool) :=
 bnd (q150 N x.1) fun v0 =>
 bnd (q150 N x.2) fun v1 =>
 cnd (band (seq v0.1 v1.1) (band (seq v0.2.1 v1.2.1) (band (ieq (n8 v0.2.2.1) (n8 v1.2.2.1)) (band (beqb v0.2.2.2.1 v1.2.2.2.1) (ieq v0.2.2.2.2 v1.2.2.2.2)))))
  (bnd (q151 N (x.1.2.2.2.2.2.1, x.2.2.2.2.2.2.1)) fun v2 =>
  cnd v2
   (bnd (q157 N (x.1.2.2.2.2.2.2.1, x.2.2.2.2.2.2.2.1)) fun v3 =>
   cnd v3
    (bnd (q158 N (x.1.2.2.2.2.2.2.2, x.2.2.2.2.2.2.2.2)) fun v4 =>
    some v4)
    (some false))
   (some false))
  (some false)
def ps_l24_StlCarries : List PK := [.k (.v Y3 [])]
def rs_l24_StlCarries : List Kd := [.v (.bool) []]
def l24_StlCarries (N : Nat) (x : D7) : Option (Bool) :=
 bnd (l24_awake N ()) fun v0 =>
 cnd (bnot v0)
  (some false)
  (bnd (l24_few N x) fun v1 =>
  bnd (q106 N v1) fun v2 =>
  cnd (ine v2.2 0)
   (some (ieq (len v2.1) 0))
   (bnd (q149 N v2.1) fun v3 =>
   cnd (ieq v3.2.2 0)
    (cnd (ieq v3.2.1 0)
     (bnd (q84 N v1) fun v4 =>
     bnd (q159 N (v3.1, v4)) fun v5 =>
     some v5)
     (some false))
    (some false)))
def ps_q160 : List PK := [.k (.v Y8 [])]
def rs_q160 : List Kd := [.v (.int .i64) []]
def q160 (N : Nat) (x : List UInt8) : Option (Int) :=
 jn (fun (v0 : Int) =>
  some v0)
 fun v1 =>
 fixN (fun v2 (v3 : Int × Int) =>
  cnd (ilt v3.2 (len x))
   (grd (inb v3.2 (len x))
    (cnd (ilt (n8 (lget x (toN v3.2) 0)) (n8 48))
     (some (-1))
     (cnd (ilt (n8 57) (n8 (lget x (toN v3.2) 0)))
      (some (-1))
      (v2 (w64 (iadd (w64 (imul 10 v3.1)) (w64 (n8 (b8 (isub (n8 (lget x (toN v3.2) 0)) (n8 48)))))), w64 (iadd v3.2 1))))))
   (v1 v3.1)) N (0, 0)
def ps_q161 : List PK := [.k (.v Y8 [])]
def rs_q161 : List Kd := [.v Y7 []]
def q161 (N : Nat) (x : List UInt8) : Option D6 :=
 grd (in2 2 (len x)) <|
 bnd (q160 N (ltake (toN 2) x)) fun v0 =>
 grd (in3 2 4 (len x)) <|
 bnd (q160 N (ldrop (toN 2) (ltake (toN 4) x))) fun v1 =>
 grd (in3 4 6 (len x)) <|
 bnd (q160 N (ldrop (toN 4) (ltake (toN 6) x))) fun v2 =>
 grd (in2 6 (len x)) <|
 bnd (q160 N (ldrop (toN 6) x)) fun v3 =>
 some (v0, v1, v2, v3, false)
def ps_q162 : List PK := [.k (.v (.u8) [])]
def rs_q162 : List Kd := [.v (.int .i32) []]
def q162 (N : Nat) (x : UInt8) : Option (Int) :=
 jn (fun (v0 : Unit) =>
  jn (fun (v1 : Unit) =>
   some 0)
  fun v2 =>
  fixN (fun v3 (v4 : Int) =>
   cnd (ilt v4 (len ([161, 162, 163, 164, 165, 166, 167, 168, 169, 170, 171, 172, 173, 174, 175, 176, 180, 183, 185, 186, 187, 189, 191, 213, 225, 233, 234, 241, 249, 250, 251] : List UInt8)))
    (grd (inb v4 (len ([161, 162, 163, 164, 165, 166, 167, 168, 169, 170, 171, 172, 173, 174, 175, 176, 180, 183, 185, 186, 187, 189, 191, 213, 225, 233, 234, 241, 249, 250, 251] : List UInt8)))
     (cnd (ieq (n8 (lget ([161, 162, 163, 164, 165, 166, 167, 168, 169, 170, 171, 172, 173, 174, 175, 176, 180, 183, 185, 186, 187, 189, 191, 213, 225, 233, 234, 241, 249, 250, 251] : List UInt8) (toN v4) 0)) (n8 x))
      (grd (inb v4 (len ([161, 162, 163, 164, 165, 166, 167, 169, 8216, 8220, 171, 174, 8212, 8226, 8230, 176, 8482, 183, 8217, 8221, 187, 189, 191, 9834, 198, 216, 338, 230, 248, 339, 223] : List Int)))
       (some (lget ([161, 162, 163, 164, 165, 166, 167, 169, 8216, 8220, 171, 174, 8212, 8226, 8230, 176, 8482, 183, 8217, 8221, 187, 189, 191, 9834, 198, 216, 338, 230, 248, 339, 223] : List Int) (toN v4) 0)))
      (v3 (w64 (iadd v4 1)))))
    (v2 ())) N 0)
 fun v5 =>
 cnd (ile (n8 32) (n8 x))
  (cnd (ile (n8 x) (n8 126))
   (some (wr .i32 (n8 x)))
   (v5 ()))
  (v5 ())
def ps_q163 : List PK := [.k (.v (.u8) []), .k (.v (.u8) [])]
def rs_q163 : List Kd := [.v (.int .i32) []]
def q163 (N : Nat) (x : UInt8 × UInt8) : Option (Int) :=
 jn (fun (v0 : Bool) =>
  jn (fun (v1 : UInt8) =>
   jn (fun (v2 : Unit) =>
    some 0)
   fun v3 =>
   fixN (fun v4 (v5 : Int) =>
    cnd (ilt v5 (len ([193, 193, 193, 193, 193, 194, 194, 194, 194, 194, 195, 195, 195, 195, 195, 196, 196, 196, 200, 200, 200, 200, 200, 202, 203] : List UInt8)))
     (grd (inb v5 (len ([193, 193, 193, 193, 193, 194, 194, 194, 194, 194, 195, 195, 195, 195, 195, 196, 196, 196, 200, 200, 200, 200, 200, 202, 203] : List UInt8)))
      (cnd (ieq (n8 (lget ([193, 193, 193, 193, 193, 194, 194, 194, 194, 194, 195, 195, 195, 195, 195, 196, 196, 196, 200, 200, 200, 200, 200, 202, 203] : List UInt8) (toN v5) 0)) (n8 x.1))
       (grd (inb v5 (len ([65, 69, 73, 79, 85, 65, 69, 73, 79, 85, 65, 69, 73, 79, 85, 65, 78, 79, 65, 69, 73, 79, 85, 65, 67] : List UInt8)))
        (cnd (ieq (n8 (lget ([65, 69, 73, 79, 85, 65, 69, 73, 79, 85, 65, 69, 73, 79, 85, 65, 78, 79, 65, 69, 73, 79, 85, 65, 67] : List UInt8) (toN v5) 0)) (n8 v1))
         (cnd v0
          (grd (inb v5 (len ([192, 200, 204, 210, 217, 193, 201, 205, 211, 218, 194, 202, 206, 212, 219, 195, 209, 213, 196, 203, 207, 214, 220, 197, 199] : List Int)))
           (some (wr .i32 (iadd (lget ([192, 200, 204, 210, 217, 193, 201, 205, 211, 218, 194, 202, 206, 212, 219, 195, 209, 213, 196, 203, 207, 214, 220, 197, 199] : List Int) (toN v5) 0) 32))))
          (grd (inb v5 (len ([192, 200, 204, 210, 217, 193, 201, 205, 211, 218, 194, 202, 206, 212, 219, 195, 209, 213, 196, 203, 207, 214, 220, 197, 199] : List Int)))
           (some (lget ([192, 200, 204, 210, 217, 193, 201, 205, 211, 218, 194, 202, 206, 212, 219, 195, 209, 213, 196, 203, 207, 214, 220, 197, 199] : List Int) (toN v5) 0))))
         (v4 (w64 (iadd v5 1)))))
       (v4 (w64 (iadd v5 1)))))
     (v3 ())) N 0)
  fun v6 =>
  cnd v0
   (v6 (b8 (isub (n8 x.2) (n8 32))))
   (v6 x.2))
 fun v7 =>
 cnd (ile (n8 97) (n8 x.2))
  (v7 (ile (n8 x.2) (n8 122)))
  (v7 false)
def ps_r22_Get : List PK := [.k (.v Y8 [])]
def rs_r22_Get : List Kd := [.v (.int .i32) [], .v (.int .i64) []]
def r22_Get (N : Nat) (x : List UInt8) : Option (Int × Int) :=
 cnd (ieq (len x) 0)
  (some (0, 0))
  (grd (inb 0 (len x))
   (bnd (q162 N (lget x (toN 0) 0)) fun v0 =>
   cnd (ine v0 0)
    (some (v0, 1))
    (cnd (ilt 1 (len x))
     (grd (inb 0 (len x))
      (grd (inb 1 (len x))
       (bnd (q163 N (lget x (toN 0) 0, lget x (toN 1) 0)) fun v1 =>
       cnd (ine v1 0)
        (some (v1, 2))
        (some (0, 0)))))
     (some (0, 0)))))
def ps_q164 : List PK := []
def rs_q164 : List Kd := [.v (.str) []]
def q164 (N : Nat) (x : Unit) : Option (List UInt8) :=
 some ([32, 33, 34, 35, 36, 37, 38, 39, 40, 41, 42, 43, 44, 45, 46, 47, 48, 49, 50, 51, 52, 53, 54, 55, 56, 57, 58, 59, 60, 61, 62, 63, 64, 65, 66, 67, 68, 69, 70, 71, 72, 73, 74, 75, 76, 77, 78, 79, 80, 81, 82, 83, 84, 85, 86, 87, 88, 89, 90, 91, 92, 93, 94, 95, 96, 97, 98, 99, 100, 101, 102, 103, 104, 105, 106, 107, 108, 109, 110, 111, 112, 113, 114, 115, 116, 117, 118, 119, 120, 121, 122, 123, 124, 125, 126, 194, 161, 194, 162, 194, 163, 194, 164, 194, 165, 194, 166, 194, 167, 194, 169, 194, 171, 194, 174, 194, 176, 194, 183, 194, 187, 194, 189, 194, 191, 195, 128, 195, 129, 195, 130, 195, 131, 195, 132, 195, 133, 195, 134, 195, 135, 195, 136, 195, 137, 195, 138, 195, 139, 195, 140, 195, 141, 195, 142, 195, 143, 195, 145, 195, 146, 195, 147, 195, 148, 195, 149, 195, 150, 195, 152, 195, 153, 195, 154, 195, 155, 195, 156, 195, 159, 195, 160, 195, 161, 195, 162, 195, 163, 195, 164, 195, 165, 195, 166, 195, 167, 195, 168, 195, 169, 195, 170, 195, 171, 195, 172, 195, 173, 195, 174, 195, 175, 195, 177, 195, 178, 195, 179, 195, 180, 195, 181, 195, 182, 195, 184, 195, 185, 195, 186, 195, 187, 195, 188, 197, 146, 197, 147, 226, 128, 148, 226, 128, 152, 226, 128, 153, 226, 128, 156, 226, 128, 157, 226, 128, 162, 226, 128, 166, 226, 132, 162, 226, 153, 170] : List UInt8)
def ps_q165 : List PK := [.k (.v (.int .i32) [])]
def rs_q165 : List Kd := [.v (.int .i64) []]
def q165 (N : Nat) (x : Int) : Option (Int) :=
 jn (fun (v0 : Unit) =>
  jn (fun (v1 : Unit) =>
   some (-1))
  fun v2 =>
  bnd (q164 N ()) fun v3 =>
  fixN (fun v4 (v5 : Int × (List UInt8) × Int) =>
   cnd (nlt (toN v5.2.2) (nlen v5.2.1))
    (cnd (ieq (decR v5.2.1 (toN v5.2.2)) x)
     (some v5.1)
     (v4 (w64 (iadd v5.1 1), v5.2.1, ofN (nadd (toN v5.2.2) (decW v5.2.1 (toN v5.2.2))))))
    (v2 ())) N (0, v3, ofN 0))
 fun v6 =>
 cnd (ile 32 x)
  (cnd (ile x 126)
   (some (w64 (wr .i32 (isub x 32))))
   (v6 ()))
  (v6 ())
def ps_r08_Of : List PK := [.k (.v (.slice (.int .i32)) [])]
def rs_r08_Of : List Kd := [.v (.str) []]
def r08_Of (N : Nat) (x : List Int) : Option (List UInt8) :=
 jn (fun (v0 : List UInt8) =>
  some v0)
 fun v1 =>
 fixN (fun v2 (v3 : (List UInt8) × Int) =>
  cnd (ilt v3.2 (len x))
   (grd (inb v3.2 (len x))
    (bnd (q165 N (lget x (toN v3.2) 0)) fun v4 =>
    cnd (ilt v4 0)
     (some ([] : List UInt8))
     (grd (catOk (iadd (len v3.1) (len (enc (lget x (toN v3.2) 0)))))
      (v2 (lapp v3.1 (enc (lget x (toN v3.2) 0)), w64 (iadd v3.2 1))))))
   (v1 v3.1)) N (([] : List UInt8), 0)
def ps_q166 : List PK := [.k (.v Y8 [])]
def rs_q166 : List Kd := [.v (.str) [], .v (.int .i64) []]
def q166 (N : Nat) (x : List UInt8) : Option (List UInt8 × Int) :=
 jn (fun (v0 : List Int) =>
  bnd (r08_Of N v0) fun v1 =>
  some (v1, 0))
 fun v2 =>
 fixN (fun v3 (v4 : (List UInt8) × List Int) =>
  cnd (ilt 0 (len v4.1))
   (bnd (r22_Get N v4.1) fun v5 =>
   cnd (ieq v5.2 0)
    (some (([] : List UInt8), 4))
    (grd (room (iadd (len v4.2) (len ([v5.1] : List Int))) 4)
     (grd (in2 v5.2 (len v4.1))
      (v3 (ldrop (toN v5.2) v4.1, lapp v4.2 ([v5.1] : List Int))))))
   (v2 v4.2)) N (x, ([] : List Int))
def ps_q167 : List PK := [.k (.v (.u8) [])]
def rs_q167 : List Kd := [.v (.bool) []]
def q167 (N : Nat) (x : UInt8) : Option (Bool) :=
 cnd (ile (n8 48) (n8 x))
  (some (ile (n8 x) (n8 57)))
  (some false)
def ps_r07_Name : List PK := [.k (.v (.str) [])]
def rs_r07_Name : List Kd := [.v (.bool) []]
def r07_Name (N : Nat) (x : List UInt8) : Option (Bool) :=
 cnd (ilt (len x) 1)
  (some false)
  (cnd (ilt 16 (len x))
   (some false)
   (jn (fun (v0 : Unit) =>
    some true)
   fun v1 =>
   fixN (fun v2 (v3 : Int) =>
    cnd (ilt v3 (len x))
     (jn (fun (v4 : Bool) =>
      cnd (bnot v4)
       (cnd (ieq v3 0)
        (some false)
        (grd (inb v3 (len x))
         (bnd (q167 N (lget x (toN v3) 0)) fun v5 =>
         cnd (bnot v5)
          (grd (inb v3 (len x))
           (cnd (ine (n8 (lget x (toN v3) 0)) (n8 95))
            (grd (inb v3 (len x))
             (cnd (ine (n8 (lget x (toN v3) 0)) (n8 45))
              (some false)
              (v2 (w64 (iadd v3 1)))))
            (v2 (w64 (iadd v3 1)))))
          (v2 (w64 (iadd v3 1))))))
       (v2 (w64 (iadd v3 1))))
     fun v6 =>
     grd (inb v3 (len x)) <|
     cnd (ile (n8 65) (n8 (lget x (toN v3) 0)))
      (grd (inb v3 (len x))
       (v6 (ile (n8 (lget x (toN v3) 0)) (n8 90))))
      (v6 false))
     (v1 ())) N 0))
def ps_q168 : List PK := [.k (.v (.str) [])]
def rs_q168 : List Kd := [.v (.bool) []]
def q168 (N : Nat) (x : List UInt8) : Option (Bool) :=
 jn (fun (v0 : Unit) =>
  some true)
 fun v1 =>
 fixN (fun v2 (v3 : (List UInt8) × Int) =>
  cnd (nlt (toN v3.2) (nlen v3.1))
   (bnd (q165 N (decR v3.1 (toN v3.2))) fun v4 =>
   cnd (ilt v4 0)
    (some false)
    (v2 (v3.1, ofN (nadd (toN v3.2) (decW v3.1 (toN v3.2))))))
   (v1 ())) N (x, ofN 0)
def ps_q169 : List PK := [.k (.v (.int .i64) []), .k (.v (.int .i64) []), .k (.v (.int .i64) [])]
def rs_q169 : List Kd := [.v (.bool) []]
def q169 (N : Nat) (x : Int × Int × Int) : Option (Bool) :=
 cnd (ile x.2.1 x.1)
  (some (ile x.1 x.2.2))
  (some false)
def ps_q170 : List PK := [.k (.v (.u8) [])]
def rs_q170 : List Kd := [.v (.bool) []]
def q170 (N : Nat) (x : UInt8) : Option (Bool) :=
 cnd (ile (n8 1) (n8 x))
  (some (ile (n8 x) (n8 7)))
  (some false)
def ps_q171 : List PK := [.k (.v (.u8) [])]
def rs_q171 : List Kd := [.v (.bool) []]
def q171 (N : Nat) (x : UInt8) : Option (Bool) :=
 cnd (ieq (n8 x) (n8 4))
  (some true)
  (some (ieq (n8 x) (n8 7)))
def ps_r03_kind : List PK := [.k (.v (.u8) []), .k (.v (.bool) [])]
def rs_r03_kind : List Kd := [.v (.int .i64) []]
def r03_kind (N : Nat) (x : UInt8 × Bool) : Option (Int) :=
 bnd (q170 N x.1) fun v0 =>
 cnd (bnot v0)
  (some 3)
  (cnd x.2
   (bnd (q171 N x.1) fun v1 =>
   cnd (bnot v1)
    (some 13)
    (some 0))
   (some 0))
def ps_q172 : List PK := [.k (.v (.u8) [])]
def rs_q172 : List Kd := [.v (.int .i64) []]
def q172 (N : Nat) (x : UInt8) : Option (Int) :=
 bnd (q170 N x) fun v0 =>
 cnd (bnot v0)
  (some 0)
  (grd (inb (n8 (b8 (isub (n8 x) (n8 1)))) (len ([24, 24, 25, 30, 30, 50, 60] : List Int)))
   (some (lget ([24, 24, 25, 30, 30, 50, 60] : List Int) (toN (n8 (b8 (isub (n8 x) (n8 1))))) 0)))
def ps_q173 : List PK := [.k (.v (.u8) [])]
def rs_q173 : List Kd := [.v (.int .i64) []]
def q173 (N : Nat) (x : UInt8) : Option (Int) :=
 cnd (ieq (n8 x) (n8 7))
  (some 4)
  (some 2)
def ps_q174 : List PK := [.k (.v (.u8) []), .k (.v Y7 [])]
def rs_q174 : List Kd := [.v (.int .i64) []]
def q174 (N : Nat) (x : UInt8 × Int × Int × Int × Int × Bool) : Option (Int) :=
 bnd (r03_kind N (x.1, x.2.2.2.2.2)) fun v0 =>
 cnd (ine v0 0)
  (some v0)
  (cnd (ilt x.2.1 0)
   (some 2)
   (cnd (ilt 23 x.2.1)
    (some 2)
    (cnd (ilt x.2.2.1 0)
     (some 2)
     (cnd (ilt 59 x.2.2.1)
      (some 2)
      (cnd (ilt x.2.2.2.1 0)
       (some 2)
       (cnd (ilt 59 x.2.2.2.1)
        (some 2)
        (cnd (ilt x.2.2.2.2.1 0)
         (some 2)
         (bnd (q172 N x.1) fun v1 =>
         cnd (ile v1 x.2.2.2.2.1)
          (some 2)
          (cnd x.2.2.2.2.2
           (cnd (ieq x.2.2.2.1 0)
            (cnd (ine (imod x.2.2.1 10) 0)
             (bnd (q173 N x.1) fun v2 =>
             cnd (ilt x.2.2.2.2.1 v2)
              (some 6)
              (some 0))
             (some 0))
            (some 0))
           (some 0))))))))))
def ps_q175 : List PK := [.k (.v Y4 [])]
def rs_q175 : List Kd := [.v (.int .i64) []]
def q175 (N : Nat) (x : UInt8 × (List UInt8) × (List UInt8) × Int × Int × D6 × D6 × Int × Int) : Option (Int) :=
 jn (fun (v0 : Bool) =>
  cnd v0
   (some 13)
   (jn (fun (v1 : Bool) =>
    cnd v1
     (some 5)
     (bnd (q168 N x.2.2.1) fun v2 =>
     cnd (bnot v2)
      (some 10)
      (cnd (ilt 400 (len x.2.2.1))
       (some 9)
       (bnd (q169 N (x.2.2.2.1, 0, 99999)) fun v3 =>
       cnd (bnot v3)
        (some 2)
        (bnd (q169 N (x.2.2.2.2.1, 0, 99999)) fun v4 =>
        cnd (bnot v4)
         (some 2)
         (bnd (q169 N (x.2.2.2.2.2.2.2.1, 0, 99)) fun v5 =>
         cnd (bnot v5)
          (some 2)
          (bnd (q169 N (x.2.2.2.2.2.2.2.2, 0, 99)) fun v6 =>
          cnd (bnot v6)
           (some 2)
           (cnd (ilt x.2.2.2.1 x.2.2.2.2.1)
            (some 8)
            (bnd (q174 N (x.1, x.2.2.2.2.2.1)) fun v7 =>
            cnd (ine v7 0)
             (some v7)
             (bnd (q174 N (x.1, x.2.2.2.2.2.2.1)) fun v8 =>
             cnd (ine v8 0)
              (some v8)
              (cnd x.2.2.2.2.2.1.2.2.2.2
               (some 13)
               (cnd x.2.2.2.2.2.2.1.2.2.2.2
                (some 13)
                (some 0)))))))))))))
   fun v9 =>
   cnd (sne x.2.1 ([] : List UInt8))
    (bnd (r07_Name N x.2.1) fun v10 =>
    v9 (bnot v10))
    (v9 false)))
 fun v11 =>
 cnd (ine (n8 x.1) (n8 3))
  (v11 (ine (n8 x.1) (n8 5)))
  (v11 false)
def ps_q176 : List PK := [.k (.v (.str) [])]
def rs_q176 : List Kd := [.v (.slice (.int .i32)) [0]]
def q176 (N : Nat) (x : List UInt8) : Option (List Int) :=
 jn (fun (v0 : List Int) =>
  some v0)
 fun v1 =>
 fixN (fun v2 (v3 : (List Int) × (List UInt8) × Int) =>
  cnd (nlt (toN v3.2.2) (nlen v3.2.1))
   (grd (room (iadd (len v3.1) (len ([decR v3.2.1 (toN v3.2.2)] : List Int))) 4)
    (v2 (lapp v3.1 ([decR v3.2.1 (toN v3.2.2)] : List Int), v3.2.1, ofN (nadd (toN v3.2.2) (decW v3.2.1 (toN v3.2.2))))))
   (v1 v3.1)) N (([] : List Int), x, ofN 0)
def ps_q177 : List PK := [.k (.v (.str) [])]
def rs_q177 : List Kd := [.v (.slice (.int .i32)) [0]]
def q177 (N : Nat) (x : List UInt8) : Option (List Int) :=
 bnd (q168 N x) fun v0 =>
 cnd (bnot v0)
  (some ([] : List Int))
  (bnd (q176 N x) fun v1 =>
  some v1)
def ps_q178 : List PK := [.k (.v (.int .i32) [])]
def rs_q178 : List Kd := [.v (.bool) []]
def q178 (N : Nat) (x : Int) : Option (Bool) :=
 bnd (q165 N x) fun v0 =>
 some (ile 0 v0)
def ps_r22_Put : List PK := [.k (.v (.int .i32) [])]
def rs_r22_Put : List Kd := [.v Y8 [0]]
def r22_Put (N : Nat) (x : Int) : Option (List UInt8) :=
 bnd (q178 N x) fun v0 =>
 cnd (bnot v0)
  (some ([] : List UInt8))
  (jn (fun (v1 : Unit) =>
   jn (fun (v2 : Unit) =>
    some ([] : List UInt8))
   fun v3 =>
   fixN (fun v4 (v5 : Int) =>
    cnd (ile v5 203)
     (jn (fun (v6 : Unit) =>
      v4 (w64 (iadd v5 1)))
     fun v7 =>
     fixN (fun v8 (v9 : Int) =>
      cnd (ile v9 122)
       (bnd (q163 N (b8 v5, b8 v9)) fun v10 =>
       cnd (ieq v10 x)
        (some ([b8 v5, b8 v9] : List UInt8))
        (v8 (wr .i32 (iadd v9 1))))
       (v7 ())) N 65)
     (v3 ())) N 193)
  fun v11 =>
  fixN (fun v12 (v13 : Int) =>
   cnd (ilt v13 256)
    (bnd (q162 N (b8 v13)) fun v14 =>
    cnd (ieq v14 x)
     (some ([b8 v13] : List UInt8))
     (v12 (w64 (iadd v13 1))))
    (v11 ())) N 0)
def ps_q179 : List PK := [.k (.v (.str) [])]
def rs_q179 : List Kd := [.v Y8 [0], .v (.int .i64) []]
def q179 (N : Nat) (x : List UInt8) : Option (List UInt8 × Int) :=
 bnd (q168 N x) fun v0 =>
 cnd (bnot v0)
  (some (([] : List UInt8), 10))
  (jn (fun (v1 : List UInt8) =>
   some (v1, 0))
  fun v2 =>
  bnd (q177 N x) fun v3 =>
  fixN (fun v4 (v5 : (List UInt8) × Int) =>
   cnd (ilt v5.2 (len v3))
    (grd (inb v5.2 (len v3))
     (bnd (r22_Put N (lget v3 (toN v5.2) 0)) fun v6 =>
     grd (room (iadd (len v5.1) (len v6)) 1) <|
     v4 (lapp v5.1 v6, w64 (iadd v5.2 1))))
    (v2 v5.1)) N (([] : List UInt8), 0))
def ps_r23_fill : List PK := [.k (.v Y8 []), .k (.v (.int .i64) []), .k (.v (.u8) [])]
def rs_r23_fill : List Kd := [.v Y8 [0]]
def r23_fill (N : Nat) (x : List UInt8 × Int × UInt8) : Option (List UInt8) :=
 grd (room (iadd (len ([] : List UInt8)) (len x.1)) 1) <|
 jn (fun (v0 : List UInt8) =>
  some v0)
 fun v1 =>
 fixN (fun v2 (v3 : List UInt8) =>
  cnd (ilt (len v3) x.2.1)
   (grd (room (iadd (len v3) (len ([x.2.2] : List UInt8))) 1)
    (v2 (lapp v3 ([x.2.2] : List UInt8))))
   (v1 v3)) N (lapp ([] : List UInt8) x.1)
def ps_q180 : List PK := [.k (.v (.int .i64) []), .k (.v (.int .i64) [])]
def rs_q180 : List Kd := [.v (.str) []]
def q180_r (N : Nat) : Nat → (Int × Int) → Option (List UInt8)
 | 0, _ => none
 | D + 1, x => cnd (ieq x.2 0)
   (some ([] : List UInt8))
   (bnd (q180_r N D (w64 (idiv x.1 10), w64 (isub x.2 1))) fun v0 =>
   grd (catOk (iadd (len v0) (len ([b8 (w64 (iadd 48 (imod x.1 10)))] : List UInt8)))) <|
   some (lapp v0 ([b8 (w64 (iadd 48 (imod x.1 10)))] : List UInt8)))
def q180 (N : Nat) (x : Int × Int) : Option (List UInt8) := q180_r N N x
def ps_q181 : List PK := [.k (.v Y7 [])]
def rs_q181 : List Kd := [.v (.str) []]
def q181 (N : Nat) (x : D6) : Option (List UInt8) :=
 bnd (q180 N (x.1, 2)) fun v0 =>
 bnd (q180 N (x.2.1, 2)) fun v1 =>
 grd (catOk (iadd (len v0) (len v1))) <|
 bnd (q180 N (x.2.2.1, 2)) fun v2 =>
 grd (catOk (iadd (len (lapp v0 v1)) (len v2))) <|
 bnd (q180 N (x.2.2.2.1, 2)) fun v3 =>
 grd (catOk (iadd (len (lapp (lapp v0 v1) v2)) (len v3))) <|
 some (lapp (lapp (lapp v0 v1) v2) v3)
def ps_q182 : List PK := [.k (.v Y4 [])]
def rs_q182 : List Kd := [.v Y8 [0], .v (.int .i64) []]
def q182 (N : Nat) (x : UInt8 × (List UInt8) × (List UInt8) × Int × Int × D6 × D6 × Int × Int) : Option (List UInt8 × Int) :=
 bnd (q175 N x) fun v0 =>
 cnd (ine v0 0)
  (some (([] : List UInt8), v0))
  (jn (fun (v1 : List UInt8) =>
   bnd (q179 N x.2.2.1) fun v2 =>
   grd (catOk (len v1)) <|
   grd (catOk (len x.2.1)) <|
   bnd (r23_fill N (x.2.1, 16, 32)) fun v3 =>
   grd (room (iadd (len v1) (len v3)) 1) <|
   bnd (q180 N (len v2.1, 3)) fun v4 =>
   bnd (q180 N (x.2.2.2.1, 5)) fun v5 =>
   grd (catOk (iadd (len v4) (len v5))) <|
   bnd (q180 N (x.2.2.2.2.1, 5)) fun v6 =>
   grd (catOk (iadd (len (lapp v4 v5)) (len v6))) <|
   bnd (q181 N x.2.2.2.2.2.1) fun v7 =>
   grd (catOk (iadd (len (lapp (lapp v4 v5) v6)) (len v7))) <|
   bnd (q181 N x.2.2.2.2.2.2.1) fun v8 =>
   grd (catOk (iadd (len (lapp (lapp (lapp v4 v5) v6) v7)) (len v8))) <|
   bnd (q180 N (x.2.2.2.2.2.2.2.1, 2)) fun v9 =>
   grd (catOk (iadd (len (lapp (lapp (lapp (lapp v4 v5) v6) v7) v8)) (len v9))) <|
   bnd (q180 N (x.2.2.2.2.2.2.2.2, 2)) fun v10 =>
   grd (catOk (iadd (len (lapp (lapp (lapp (lapp (lapp v4 v5) v6) v7) v8) v9)) (len v10))) <|
   grd (catOk (len (lapp (lapp (lapp (lapp (lapp (lapp v4 v5) v6) v7) v8) v9) v10))) <|
   bnd (r23_fill N (lapp (lapp (lapp (lapp (lapp (lapp v4 v5) v6) v7) v8) v9) v10, 40, 32)) fun v11 =>
   grd (room (iadd (len (lapp v1 v3)) (len v11)) 1) <|
   grd (room (iadd (len (lapp (lapp v1 v3) v11)) (len v2.1)) 1) <|
   bnd (r23_fill N (lapp (lapp (lapp v1 v3) v11) v2.1, 1024, 32)) fun v12 =>
   some (v12, 0))
  fun v13 =>
  cnd (ieq (n8 x.1) (n8 5))
   (v13 ([83, 84, 76, 51, 48, 46, 48, 49] : List UInt8))
   (v13 ([83, 84, 76, 50, 53, 46, 48, 49] : List UInt8)))
def ps_q183 : List PK := [.k (.v Y8 []), .k (.v Y8 [])]
def rs_q183 : List Kd := [.v (.bool) []]
def q183 (N : Nat) (x : List UInt8 × List UInt8) : Option (Bool) :=
 some (seq x.1 x.2)
def ps_q184 : List PK := [.k (.v Y8 [])]
def rs_q184 : List Kd := [.v Y4 [], .v (.int .i64) []]
def q184 (N : Nat) (x : List UInt8) : Option ((UInt8 × (List UInt8) × (List UInt8) × Int × Int × D6 × D6 × Int × Int) × Int) :=
 cnd (ine (len x) 1024)
  (some ((0, ([] : List UInt8), ([] : List UInt8), 0, 0, (0, 0, 0, 0, false), (0, 0, 0, 0, false), 0, 0), 4))
  (grd (in3 27 32 (len x))
   (bnd (q160 N (ldrop (toN 27) (ltake (toN 32) x))) fun v0 =>
   grd (in3 32 37 (len x)) <|
   bnd (q160 N (ldrop (toN 32) (ltake (toN 37) x))) fun v1 =>
   grd (in3 37 45 (len x)) <|
   bnd (q161 N (ldrop (toN 37) (ltake (toN 45) x))) fun v2 =>
   grd (in3 45 53 (len x)) <|
   bnd (q161 N (ldrop (toN 45) (ltake (toN 53) x))) fun v3 =>
   grd (in3 53 55 (len x)) <|
   bnd (q160 N (ldrop (toN 53) (ltake (toN 55) x))) fun v4 =>
   grd (in3 55 57 (len x)) <|
   bnd (q160 N (ldrop (toN 55) (ltake (toN 57) x))) fun v5 =>
   jn (fun (v6 : UInt8 × (List UInt8) × (List UInt8) × Int × Int × D6 × D6 × Int × Int) =>
    jn (fun (v7 : Int) =>
     grd (in3 8 (w64 (iadd 8 v7)) (len x)) <|
     jn (fun (v8 : UInt8 × (List UInt8) × (List UInt8) × Int × Int × D6 × D6 × Int × Int) =>
      bnd (q182 N v8) fun v9 =>
      cnd (ine v9.2 0)
       (some ((0, ([] : List UInt8), ([] : List UInt8), 0, 0, (0, 0, 0, 0, false), (0, 0, 0, 0, false), 0, 0), 4))
       (bnd (q183 N (x, v9.1)) fun v10 =>
       cnd (bnot v10)
        (some ((0, ([] : List UInt8), ([] : List UInt8), 0, 0, (0, 0, 0, 0, false), (0, 0, 0, 0, false), 0, 0), 4))
        (some (v8, 0))))
     fun v11 =>
     grd (in3 24 27 (len x)) <|
     bnd (q160 N (ldrop (toN 24) (ltake (toN 27) x))) fun v12 =>
     cnd (ile 0 v12)
      (cnd (ile v12 960)
       (grd (in3 64 (w64 (iadd 64 v12)) (len x))
        (bnd (q166 N (ldrop (toN 64) (ltake (toN (w64 (iadd 64 v12))) x))) fun v13 =>
        v11 (v6.1, ldrop (toN 8) (ltake (toN (w64 (iadd 8 v7))) x), v13.1, v6.2.2.2)))
       (v11 (v6.1, ldrop (toN 8) (ltake (toN (w64 (iadd 8 v7))) x), v6.2.2)))
      (v11 (v6.1, ldrop (toN 8) (ltake (toN (w64 (iadd 8 v7))) x), v6.2.2)))
    fun v14 =>
    fixN (fun v15 (v16 : Int) =>
     cnd (ilt 0 v16)
      (grd (inb (w64 (isub (w64 (iadd 8 v16)) 1)) (len x))
       (cnd (ieq (n8 (lget x (toN (w64 (isub (w64 (iadd 8 v16)) 1))) 0)) (n8 32))
        (v15 (w64 (isub v16 1)))
        (v14 v16)))
      (v14 v16)) N 16)
   fun v17 =>
   grd (inb 3 (len x)) <|
   cnd (ieq (n8 (lget x (toN 3) 0)) (n8 51))
    (v17 (5, ([] : List UInt8), ([] : List UInt8), v0, v1, v2, v3, v4, v5))
    (v17 (3, ([] : List UInt8), ([] : List UInt8), v0, v1, v2, v3, v4, v5))))
def ps_q185 : List PK := [.k (.v Y8 [])]
def rs_q185 : List Kd := [.v Y2 [17]]
def q185 (N : Nat) (x : List UInt8) : Option D2 :=
 grd (inb 0 (len x)) <|
 grd (inb 1 (len x)) <|
 grd (inb 2 (len x)) <|
 grd (inb 3 (len x)) <|
 grd (inb 4 (len x)) <|
 grd (inb 13 (len x)) <|
 grd (inb 14 (len x)) <|
 grd (inb 15 (len x)) <|
 grd (inb 5 (len x)) <|
 grd (inb 6 (len x)) <|
 grd (inb 7 (len x)) <|
 grd (inb 8 (len x)) <|
 grd (inb 9 (len x)) <|
 grd (inb 10 (len x)) <|
 grd (inb 11 (len x)) <|
 grd (inb 12 (len x)) <|
 some (w64 (n8 (lget x (toN 0) 0)), w64 (iadd (w64 (n8 (lget x (toN 1) 0))) (w64 (imul 256 (w64 (n8 (lget x (toN 2) 0)))))), lget x (toN 3) 0, lget x (toN 4) 0, (w64 (n8 (lget x (toN 5) 0)), w64 (n8 (lget x (toN 6) 0)), w64 (n8 (lget x (toN 7) 0)), w64 (n8 (lget x (toN 8) 0)), false), (w64 (n8 (lget x (toN 9) 0)), w64 (n8 (lget x (toN 10) 0)), w64 (n8 (lget x (toN 11) 0)), w64 (n8 (lget x (toN 12) 0)), false), w64 (n8 (lget x (toN 13) 0)), lget x (toN 14) 0, ieq (n8 (lget x (toN 15) 0)) (n8 1), ([] : List UInt8))
def ps_q186 : List PK := [.k (.v Y7 [])]
def rs_q186 : List Kd := [.v (.bool) []]
def q186 (N : Nat) (x : D6) : Option (Bool) :=
 bnd (q169 N (x.1, 0, 23)) fun v0 =>
 cnd v0
  (bnd (q169 N (x.2.1, 0, 59)) fun v1 =>
  cnd v1
   (bnd (q169 N (x.2.2.1, 0, 59)) fun v2 =>
   cnd v2
    (bnd (q169 N (x.2.2.2.1, 0, 29)) fun v3 =>
    some v3)
    (some false))
   (some false))
  (some false)
def ps_q187 : List PK := [.k (.v Y8 [])]
def rs_q187 : List Kd := [.v (.bool) []]
def q187 (N : Nat) (x : List UInt8) : Option (Bool) :=
 jn (fun (v0 : Unit) =>
  some false)
 fun v1 =>
 fixN (fun v2 (v3 : Int) =>
  cnd (ilt v3 (len x))
   (grd (inb v3 (len x))
    (cnd (ieq (n8 (lget x (toN v3) 0)) (n8 143))
     (some true)
     (v2 (w64 (iadd v3 1)))))
   (v1 ())) N 0
def ps_q188 : List PK := [.k (.v Y2 [])]
def rs_q188 : List Kd := [.v (.int .i64) []]
def q188 (N : Nat) (x : D2) : Option (Int) :=
 bnd (q169 N (x.1, 0, 255)) fun v0 =>
 cnd (bnot v0)
  (some 2)
  (bnd (q169 N (x.2.1, 0, 65535)) fun v1 =>
  cnd (bnot v1)
   (some 2)
   (jn (fun (v2 : Bool) =>
    cnd v2
     (some 3)
     (bnd (q186 N x.2.2.2.2.1) fun v3 =>
     cnd (bnot v3)
      (some 2)
      (bnd (q186 N x.2.2.2.2.2.1) fun v4 =>
      cnd (bnot v4)
       (some 2)
       (cnd x.2.2.2.2.1.2.2.2.2
        (some 13)
        (cnd x.2.2.2.2.2.1.2.2.2.2
         (some 13)
         (bnd (q169 N (x.2.2.2.2.2.2.1, 0, 14)) fun v5 =>
         cnd (bnot v5)
          (some 2)
          (cnd (ilt (n8 x.2.2.2.2.2.2.2.1) (n8 1))
           (some 3)
           (cnd (ilt (n8 3) (n8 x.2.2.2.2.2.2.2.1))
            (some 3)
            (cnd (ilt 112 (len x.2.2.2.2.2.2.2.2.2))
             (some 9)
             (bnd (q187 N x.2.2.2.2.2.2.2.2.2) fun v6 =>
             cnd v6
              (some 4)
              (some 0)))))))))))
   fun v7 =>
   cnd (ile (n8 240) (n8 x.2.2.1))
    (cnd (ile (n8 x.2.2.1) (n8 254))
     (v7 true)
     (v7 (ilt (n8 3) (n8 x.2.2.2.1))))
    (v7 (ilt (n8 3) (n8 x.2.2.2.1)))))
def ps_r23_Put : List PK := [.k (.v Y2 [])]
def rs_r23_Put : List Kd := [.v Y8 [0], .v (.int .i64) []]
def r23_Put (N : Nat) (x : D2) : Option (List UInt8 × Int) :=
 bnd (q188 N x) fun v0 =>
 cnd (ine v0 0)
  (some (([] : List UInt8), v0))
  (grd (room (iadd (len ([b8 x.1, b8 (imod x.2.1 256), b8 (w64 (idiv x.2.1 256)), x.2.2.1, x.2.2.2.1] : List UInt8)) (len ([b8 x.2.2.2.2.1.1, b8 x.2.2.2.2.1.2.1, b8 x.2.2.2.2.1.2.2.1, b8 x.2.2.2.2.1.2.2.2.1, b8 x.2.2.2.2.2.1.1, b8 x.2.2.2.2.2.1.2.1, b8 x.2.2.2.2.2.1.2.2.1, b8 x.2.2.2.2.2.1.2.2.2.1] : List UInt8))) 1)
   (jn (fun (v1 : UInt8) =>
    grd (room (iadd (len (lapp ([b8 x.1, b8 (imod x.2.1 256), b8 (w64 (idiv x.2.1 256)), x.2.2.1, x.2.2.2.1] : List UInt8) ([b8 x.2.2.2.2.1.1, b8 x.2.2.2.2.1.2.1, b8 x.2.2.2.2.1.2.2.1, b8 x.2.2.2.2.1.2.2.2.1, b8 x.2.2.2.2.2.1.1, b8 x.2.2.2.2.2.1.2.1, b8 x.2.2.2.2.2.1.2.2.1, b8 x.2.2.2.2.2.1.2.2.2.1] : List UInt8))) (len ([b8 x.2.2.2.2.2.2.1, x.2.2.2.2.2.2.2.1, v1] : List UInt8))) 1) <|
    bnd (r23_fill N (x.2.2.2.2.2.2.2.2.2, 112, 143)) fun v2 =>
    grd (room (iadd (len (lapp (lapp ([b8 x.1, b8 (imod x.2.1 256), b8 (w64 (idiv x.2.1 256)), x.2.2.1, x.2.2.2.1] : List UInt8) ([b8 x.2.2.2.2.1.1, b8 x.2.2.2.2.1.2.1, b8 x.2.2.2.2.1.2.2.1, b8 x.2.2.2.2.1.2.2.2.1, b8 x.2.2.2.2.2.1.1, b8 x.2.2.2.2.2.1.2.1, b8 x.2.2.2.2.2.1.2.2.1, b8 x.2.2.2.2.2.1.2.2.2.1] : List UInt8)) ([b8 x.2.2.2.2.2.2.1, x.2.2.2.2.2.2.2.1, v1] : List UInt8))) (len v2)) 1) <|
    some (lapp (lapp (lapp ([b8 x.1, b8 (imod x.2.1 256), b8 (w64 (idiv x.2.1 256)), x.2.2.1, x.2.2.2.1] : List UInt8) ([b8 x.2.2.2.2.1.1, b8 x.2.2.2.2.1.2.1, b8 x.2.2.2.2.1.2.2.1, b8 x.2.2.2.2.1.2.2.2.1, b8 x.2.2.2.2.2.1.1, b8 x.2.2.2.2.2.1.2.1, b8 x.2.2.2.2.2.1.2.2.1, b8 x.2.2.2.2.2.1.2.2.2.1] : List UInt8)) ([b8 x.2.2.2.2.2.2.1, x.2.2.2.2.2.2.2.1, v1] : List UInt8)) v2, 0))
   fun v3 =>
   cnd x.2.2.2.2.2.2.2.2.1
    (v3 1)
    (v3 0)))
def ps_r23_Get : List PK := [.k (.v Y8 [])]
def rs_r23_Get : List Kd := [.v Y2 [], .v (.int .i64) []]
def r23_Get (N : Nat) (x : List UInt8) : Option (D2 × Int) :=
 cnd (ine (len x) 128)
  (some ((0, 0, 0, 0, (0, 0, 0, 0, false), (0, 0, 0, 0, false), 0, 0, false, ([] : List UInt8)), 4))
  (bnd (q185 N x) fun v0 =>
  jn (fun (v1 : D2) =>
   bnd (r23_Put N v1) fun v2 =>
   cnd (ine v2.2 0)
    (some ((0, 0, 0, 0, (0, 0, 0, 0, false), (0, 0, 0, 0, false), 0, 0, false, ([] : List UInt8)), 4))
    (bnd (q183 N (x, v2.1)) fun v3 =>
    cnd (bnot v3)
     (some ((0, 0, 0, 0, (0, 0, 0, 0, false), (0, 0, 0, 0, false), 0, 0, false, ([] : List UInt8)), 4))
     (some (v1, 0))))
  fun v4 =>
  grd (in2 16 (len x)) <|
  fixN (fun v5 (v6 : Int × Int × Int × UInt8 × UInt8 × D6 × D6 × Int × UInt8 × Bool × List UInt8) =>
   cnd (ilt v6.1 (len (ldrop (toN 16) x)))
    (grd (inb v6.1 (len (ldrop (toN 16) x)))
     (cnd (ieq (n8 (lget (ldrop (toN 16) x) (toN v6.1) 0)) (n8 143))
      (v4 v6.2)
      (grd (room (iadd (len v6.2.2.2.2.2.2.2.2.2.2) (len ([lget (ldrop (toN 16) x) (toN v6.1) 0] : List UInt8))) 1)
       (v5 (w64 (iadd v6.1 1), v6.2.1, v6.2.2.1, v6.2.2.2.1, v6.2.2.2.2.1, v6.2.2.2.2.2.1, v6.2.2.2.2.2.2.1, v6.2.2.2.2.2.2.2.1, v6.2.2.2.2.2.2.2.2.1, v6.2.2.2.2.2.2.2.2.2.1, lapp v6.2.2.2.2.2.2.2.2.2.2 ([lget (ldrop (toN 16) x) (toN v6.1) 0] : List UInt8))))))
    (v4 v6.2)) N (0, v0))
def ps_r23_Read : List PK := [.k (.v Y8 [])]
def rs_r23_Read : List Kd := [.v Y4 [], .v (.slice Y2) [0], .v (.int .i64) [], .v (.int .i64) []]
def r23_Read (N : Nat) (x : List UInt8) : Option ((UInt8 × (List UInt8) × (List UInt8) × Int × Int × D6 × D6 × Int × Int) × (List D2) × Int × Int) :=
 cnd (ilt (len x) 1024)
  (some ((0, ([] : List UInt8), ([] : List UInt8), 0, 0, (0, 0, 0, 0, false), (0, 0, 0, 0, false), 0, 0), ([] : List D2), 0, 4))
  (grd (in2 1024 (len x))
   (bnd (q184 N (ltake (toN 1024) x)) fun v0 =>
   cnd (ine v0.2 0)
    (some ((0, ([] : List UInt8), ([] : List UInt8), 0, 0, (0, 0, 0, 0, false), (0, 0, 0, 0, false), 0, 0), ([] : List D2), 0, v0.2))
    (grd (in2 1024 (len x))
     (cnd (ine (imod (len (ldrop (toN 1024) x)) 128) 0)
      (some ((0, ([] : List UInt8), ([] : List UInt8), 0, 0, (0, 0, 0, 0, false), (0, 0, 0, 0, false), 0, 0), ([] : List D2), 0, 4))
      (cnd (ine (w64 (idiv (len (ldrop (toN 1024) x)) 128)) v0.1.2.2.2.1)
       (some ((0, ([] : List UInt8), ([] : List UInt8), 0, 0, (0, 0, 0, 0, false), (0, 0, 0, 0, false), 0, 0), ([] : List D2), 0, 1))
       (jn (fun (v1 : List D2) =>
        some (v0.1, v1, 0, 0))
       fun v2 =>
       fixN (fun v3 (v4 : (List UInt8) × List D2) =>
        cnd (ilt 0 (len v4.1))
         (grd (in2 128 (len v4.1))
          (bnd (r23_Get N (ltake (toN 128) v4.1)) fun v5 =>
          cnd (ine v5.2 0)
           (some ((0, ([] : List UInt8), ([] : List UInt8), 0, 0, (0, 0, 0, 0, false), (0, 0, 0, 0, false), 0, 0), ([] : List D2), w64 (iadd (len v4.2) 1), v5.2))
           (grd (room (iadd (len v4.2) (len ([v5.1] : List D2))) 144)
            (grd (in2 128 (len v4.1))
             (v3 (ldrop (toN 128) v4.1, lapp v4.2 ([v5.1] : List D2)))))))
         (v2 v4.2)) N (ldrop (toN 1024) x, ([] : List D2))))))))
def ps_q189 : List PK := [.k (.v Y4 []), .k (.v (.slice Y2) [])]
def rs_q189 : List Kd := [.v Y8 [0], .v (.int .i64) []]
def q189 (N : Nat) (x : (UInt8 × (List UInt8) × (List UInt8) × Int × Int × D6 × D6 × Int × Int) × List D2) : Option (List UInt8 × Int) :=
 bnd (q182 N x.1) fun v0 =>
 cnd (ine v0.2 0)
  (some (([] : List UInt8), v0.2))
  (cnd (ine (len x.2) x.1.2.2.2.1)
   (some (([] : List UInt8), 1))
   (jn (fun (v1 : List UInt8) =>
    some (v1, 0))
   fun v2 =>
   fixN (fun v3 (v4 : (List UInt8) × Int) =>
    cnd (ilt v4.2 (len x.2))
     (grd (inb v4.2 (len x.2))
      (bnd (r23_Put N (lget x.2 (toN v4.2) (0, (0, (0, (0, ((0, (0, (0, (0, false)))), ((0, (0, (0, (0, false)))), (0, (0, (false, []))))))))))) fun v5 =>
      cnd (ine v5.2 0)
       (some (([] : List UInt8), v5.2))
       (grd (room (iadd (len v4.1) (len v5.1)) 1)
        (v3 (lapp v4.1 v5.1, w64 (iadd v4.2 1))))))
     (v2 v4.1)) N (v0.1, 0)))
end
end Go.Mo
end

section
/-
  Two functions of strings.Builder, walked by hand. The numbers are printed by a program.
-/
set_option linter.unusedVariables false
namespace Go.Mo
open Go Go.W Go.Proofs Go.RowKit
theorem sizeB : (Tryz.prog.info? 230).map (·.size) = some 2 := by kernel_rfl
theorem liesB : liesAt Tryz.prog Tryz.prog.depth 230 (2 / Tryz.prog.cellsOf 230) 0 230 1 = true := by kernel_rfl
theorem cellsByte : Tryz.prog.cellsOf 5 = 1 := by kernel_rfl
theorem undP : Tryz.prog.underlying 228 = some (.pointer 230) := by kernel_rfl
theorem undU : Tryz.prog.underlying 273 = some .unsafePointer := by kernel_rfl
theorem undBP : Tryz.prog.underlying 259 = some (.pointer 5) := by kernel_rfl
theorem undSl : Tryz.prog.underlying 37 = some (.slice 5) := by kernel_rfl
theorem mixedB : Tryz.prog.follows .mixedOrders = true := by kernel_rfl
theorem fNe : Tryz.prog.funcs[260]? = some Tryz.f260 := by kernel_rfl
set_option maxHeartbeats 1000000 in
set_option maxRecDepth 100000 in
theorem cc_used (b : Nat) (w : World) (h0 : w.cell? ⟨b, 0, none⟩ = some (.pointer (some ⟨b, 0, none⟩))) :
  Calls Tryz.prog 239 #[.pointer (some ⟨b, 0, none⟩)] w fun e w' => e = .returned (.tuple #[]) ∧ w' = w := by
 obtain ⟨j, hj, _⟩ := Option.map_eq_some_iff.1 sizeB
 go_enter Tryz.func239, Tryz.ntmps239
 go_wp2
 rw [Lib.run_neq_ptr_same w _ undP hj]
 go_wp2
 go_end0
 exact ⟨rfl, rfl⟩
set_option maxHeartbeats 1000000 in
set_option maxRecDepth 100000 in
theorem cc_fresh (b : Nat) (w : World) (h0 : w.cell? ⟨b, 0, none⟩ = some (.pointer none)) (hsh : w.shape? b = some (230, 2)) (hfz : w.frozen? ⟨b, 0, none⟩ = false) :
  Calls Tryz.prog 239 #[.pointer (some ⟨b, 0, none⟩)] w fun e w' => e = .returned (.tuple #[]) ∧ w' = w.setCell ⟨b, 0, none⟩ (.pointer (some ⟨b, 0, none⟩)) := by
 obtain ⟨j, hj, hjs⟩ := Option.map_eq_some_iff.1 sizeB
 go_enter Tryz.func239, Tryz.ntmps239
 go_wp2
 rw [Lib.run_to_unsafe w ⟨b, 0, none⟩ undP undU hj (by rw [hjs]; decide) hsh (Nat.zero_lt_succ 1)]
 simp only [Result.andThen]
 rw [Oper.upon_value]
 go_wp2
 rw [run_callFunc_extern fNe (by kernel_rfl) (by kernel_rfl) (by kernel_rfl) (e := Extern.AbiNoEscape.same) (by kernel_rfl)]
 rw [Lib.run_noEscape]
 simp only [Result.andThen]
 rw [Oper.upon_value]
 go_wp2
 rw [Lib.run_from_unsafe w ⟨b, 0, none⟩ undU undP hj hsh liesB]
 simp only [Result.andThen]
 rw [Oper.upon_value]
 go_wp2
 go_end0
 exact ⟨rfl, rfl⟩
theorem ccOk : CcOk Tryz.prog 239 230 := by
 intro w b p v hb hp
 refine ⟨by
  unfold callFunc
  simp only [program, Sem.run_bind, Sem.run, Result.andThen_ok, show Tryz.prog.funcs[239]? = some Tryz.f239 from by kernel_rfl]
  rfl, ?_⟩
 have c0 : w.cell? ⟨b, 0, none⟩ = some p := by rw [Lib.cell_of_heap hb]; rfl
 rcases hp with hp | hp
 ·subst hp
  refine (cc_fresh b w c0 (by simp [World.shape?, hb]) (Lib.frozen_of_heap hb 0)).mono ?_
  rintro e w' ⟨rfl, rfl⟩
  refine ⟨rfl, rfl, rfl, rfl, by simp [World.setCell], fun b' hb' => ?_, .pointer (some ⟨b, 0, none⟩), ?_, .inr rfl⟩
  ·simp [World.setCell, Array.getElem?_modify, Ne.symm hb']
  ·simp [World.setCell, Array.getElem?_modify, hb]
 ·subst hp
  refine (cc_used b w c0).mono ?_
  rintro e w' ⟨rfl, rfl⟩
  exact ⟨rfl, rfl, rfl, rfl, rfl, fun _ _ => rfl, _, hb, .inr rfl⟩
section
variable (b : Nat) (p : Value) (w : World)
set_option maxHeartbeats 2000000 in
set_option maxRecDepth 100000 in
theorem bs_some (l : List UInt8) (h0 : l ≠ []) (g cap : Nat) (cur : Array Value) (fz : Nat × Nat) (hbk : w.heap[b]? = some (.cells #[p, .slice (some ⟨g, 0, none⟩) l.length cap] 230 (0, 0))) (hg : w.heap[g]? = some (.cells cur 5 fz)) (hnc : l.length ≤ cap) (hcm : cap ≤ maxLen) (hcs : cap ≤ cur.size) (htake : cur.toList.take l.length = l.map fun b => Value.int .u8 (b.toNat : Int)) :
  Calls Tryz.prog 217 #[.pointer (some ⟨b, 0, none⟩)] w fun e w' => e = .returned (.string ⟨l.toArray⟩) ∧ w' = w.drew.freeze ⟨g, 0, none⟩ l.length := by
 have hl0 : l.length ≠ 0 := by simpa using h0
 have c1 : w.drew.cell? ⟨b, 1, none⟩ = some (.slice (some ⟨g, 0, none⟩) l.length cap) := by
  have : w.drew.heap[b]? = some (.cells #[p, .slice (some ⟨g, 0, none⟩) l.length cap] 230 (0, 0)) := hbk
  rw [Lib.cell_of_heap this]; rfl
 have hSD : (Builtin.unsafeSliceData_ #[37] 259 #[.slice (some ⟨g, 0, none⟩) l.length cap]).run Tryz.prog w.drew = .ok (.pointer (some ⟨g, 0, none⟩)) w.drew :=
  Lib.run_unsafeSliceData_row _ _ _ _ _ _ (by omega)
 have hUS : (Builtin.unsafeString_ #[259, 3] 9 #[.pointer (some ⟨g, 0, none⟩), .int .i64 l.length]).run Tryz.prog w.drew = .ok (.string ⟨l.toArray⟩) (w.drew.freeze ⟨g, 0, none⟩ l.length) := by
  refine Lib.run_unsafeString_row w.drew 259 3 9 5 undBP cellsByte g cur.size (by have hg' : w.drew.heap[g]? = some (.cells cur 5 fz) := hg; simp [World.shape?, hg']) l h0 (by omega) (by unfold maxLen at hcm; omega) ?_
  intro j x hx
  have hg' : w.drew.heap[g]? = some (.cells cur 5 fz) := hg
  rw [add_lit, cell_row hg', Nat.zero_add]
  have hj : j < l.length := (List.getElem?_eq_some_iff.1 hx).1
  have := congrArg (·[j]?) htake
  simp only [List.getElem?_take, hj, if_true, List.getElem?_map, hx, Option.map_some] at this
  simpa using this
 go_enter Tryz.func217, Tryz.ntmps217
 go_wp2
 go_region
 all_goals (go_wp2; go_ret; exact ⟨rfl, rfl⟩)
theorem us_none (W : World) (q : Option Addr) : (Builtin.unsafeString_ #[259, 3] 9 #[.pointer q, .int .i64 0]).run Tryz.prog W = .ok (.string .empty) W := Lib.run_unsafeString_none W _ _ _ q
set_option maxHeartbeats 2000000 in
set_option maxRecDepth 100000 in
theorem bs_nil (hbk : w.heap[b]? = some (.cells #[p, .slice none 0 0] 230 (0, 0))) :
  Calls Tryz.prog 217 #[.pointer (some ⟨b, 0, none⟩)] w fun e w' => e = .returned (.string ⟨#[]⟩) ∧ w' = w.drew := by
 have hUS := us_none
 have c1 : w.drew.cell? ⟨b, 1, none⟩ = some (.slice none 0 0) := by
  have : w.drew.heap[b]? = some (.cells #[p, .slice none 0 0] 230 (0, 0)) := hbk
  rw [Lib.cell_of_heap this]; rfl
 have hSD : (Builtin.unsafeSliceData_ #[37] 259 #[.slice none 0 0]).run Tryz.prog w.drew = .ok (.pointer none) w.drew := rfl
 go_enter Tryz.func217, Tryz.ntmps217
 go_wp2
 go_region
 all_goals (go_wp2; go_ret; exact ⟨rfl, rfl⟩)
set_option maxHeartbeats 2000000 in
set_option maxRecDepth 100000 in
theorem bs_noroom (g : Nat) (cur : Array Value) (fz : Nat × Nat) (hbk : w.heap[b]? = some (.cells #[p, .slice (some ⟨g, 0, none⟩) 0 0] 230 (0, 0))) (hg : w.heap[g]? = some (.cells cur 5 fz)) :
  Calls Tryz.prog 217 #[.pointer (some ⟨b, 0, none⟩)] w fun e w' => e = .returned (.string ⟨#[]⟩) ∧ ∃ d o, w' = World.alloc { w with drawn := d } o := by
 have hUS := us_none
 have hlt : b < w.heap.size := (Array.getElem?_eq_some_iff.1 hbk).1
 have c1 : w.drew.cell? ⟨b, 1, none⟩ = some (.slice (some ⟨g, 0, none⟩) 0 0) := by
  have : w.drew.heap[b]? = some (.cells #[p, .slice (some ⟨g, 0, none⟩) 0 0] 230 (0, 0)) := hbk
  rw [Lib.cell_of_heap this]; rfl
 have hSD : (Builtin.unsafeSliceData_ #[37] 259 #[.slice (some ⟨g, 0, none⟩) 0 0]).run Tryz.prog w.drew = .ok (.pointer (some ⟨w.drew.heap.size, 0, none⟩)) (w.drew.alloc (.view ⟨g, 0, none⟩ 5)) :=
  Lib.run_unsafeSliceData_zero w.drew _ _ 5 undBP ⟨g, 0, none⟩ 0 (5, cur.size) (by have hg' : w.drew.heap[g]? = some (.cells cur 5 fz) := hg; simp [World.shape?, hg'])
 have c2 : (w.drew.alloc (.view ⟨g, 0, none⟩ 5)).cell? ⟨b, 1, none⟩ = some (.slice (some ⟨g, 0, none⟩) 0 0) := by
  have : (w.drew.alloc (.view ⟨g, 0, none⟩ 5)).heap[b]? = _ := (Lib.alloc_old w.drew _ b hlt).trans hbk
  rw [Lib.cell_of_heap this]; rfl
 have c3 : (w.alloc (.view ⟨g, 0, none⟩ 5)).drew.cell? ⟨b, 1, none⟩ = some (.slice (some ⟨g, 0, none⟩) 0 0) := c2
 have c0 : w.cell? ⟨b, 1, none⟩ = some (.slice (some ⟨g, 0, none⟩) 0 0) := c1
 go_enter Tryz.func217, Tryz.ntmps217
 go_wp2
 go_region
 all_goals (go_wp2; go_ret; exact ⟨rfl, w.drawn + 1, .view ⟨g, 0, none⟩ 5, rfl⟩)
set_option maxHeartbeats 2000000 in
set_option maxRecDepth 100000 in
theorem bs_room (g cap : Nat) (hc0 : cap ≠ 0) (hbk : w.heap[b]? = some (.cells #[p, .slice (some ⟨g, 0, none⟩) 0 cap] 230 (0, 0))) :
  Calls Tryz.prog 217 #[.pointer (some ⟨b, 0, none⟩)] w fun e w' => e = .returned (.string ⟨#[]⟩) ∧ w' = w.drew := by
 have hUS := us_none
 have c1 : w.drew.cell? ⟨b, 1, none⟩ = some (.slice (some ⟨g, 0, none⟩) 0 cap) := by
  have : w.drew.heap[b]? = some (.cells #[p, .slice (some ⟨g, 0, none⟩) 0 cap] 230 (0, 0)) := hbk
  rw [Lib.cell_of_heap this]; rfl
 have hSD : (Builtin.unsafeSliceData_ #[37] 259 #[.slice (some ⟨g, 0, none⟩) 0 cap]).run Tryz.prog w.drew = .ok (.pointer (some ⟨g, 0, none⟩)) w.drew :=
  Lib.run_unsafeSliceData_row _ _ _ _ _ _ hc0
 clear hc0
 go_enter Tryz.func217, Tryz.ntmps217
 go_wp2
 go_region
 all_goals (go_wp2; go_ret; exact ⟨rfl, rfl⟩)
end
theorem bsOk : BsOk Tryz.prog 217 230 := by
 intro w b p A c xs hb hcm hpre
 refine ⟨by
  unfold callFunc
  simp only [program, Sem.run_bind, Sem.run, Result.andThen_ok, show Tryz.prog.funcs[217]? = some Tryz.f217 from by kernel_rfl]
  rfl, ?_⟩
 have same : ∀ (A : Option Addr) (w' : World), w' = w.drew → SameBut w w' A := fun A w' e => by
  subst e
  exact ⟨rfl, rfl, rfl, Nat.le_refl _, fun _ _ _ => rfl, fun ad _ cs e fz h => ⟨fz, h⟩⟩
 rcases hpre with ⟨rfl, rfl, rfl⟩ | ⟨g, cur, fz, rfl, h1, h2, h3, h4, h5⟩
 ·exact (bs_nil b p w hb).mono fun e w' ⟨he, hw⟩ => ⟨he, same _ _ hw⟩
 ·by_cases hx : xs = []
  ·subst hx
   by_cases hc : c = 0
   ·subst hc
    refine (bs_noroom b p w g cur fz hb h1).mono fun e w' ⟨he, d, o, hw⟩ => ⟨he, ?_⟩
    subst hw
    have old : ∀ b', b' < w.heap.size → (World.alloc { w with drawn := d } o).heap[b']? = w.heap[b']? := fun b' hb' => Below.heap_alloc { w with drawn := d } o b' hb'
    exact ⟨rfl, rfl, rfl, by simp [World.alloc], fun b' hb' _ => old b' hb', fun ad _ cs e fz h => ⟨fz, by rw [old _ (Array.getElem?_eq_some_iff.1 h).1]; exact h⟩⟩
   ·exact (bs_room b p w g c hc hb).mono fun e w' ⟨he, hw⟩ => ⟨he, same _ _ hw⟩
  ·refine (bs_some b p w xs hx g c cur fz hb h1 h3 hcm h4 h5).mono fun e w' ⟨he, hw⟩ => ⟨he, ?_⟩
   subst hw
   have hne : xs.length ≠ 0 := by simpa using hx
   unfold World.freeze
   rw [if_neg hne]
   refine ⟨rfl, rfl, rfl, by simp, fun b' _ hb' => ?_, fun ad had cs e fz' h => ?_⟩
   ·have hgb : g ≠ b' := fun e => hb' _ rfl e.symm
    show (w.heap.modify g _)[b']? = w.heap[b']?
    rw [Array.getElem?_modify, if_neg hgb]
   ·injection had with had
    subst had
    have h : w.heap[g]? = some (.cells cs e fz') := h
    obtain ⟨lo, hi⟩ := fz'
    refine ⟨if lo == hi then (0, 0 + xs.length) else (min lo 0, max hi (0 + xs.length)), ?_⟩
    show (w.heap.modify g _)[g]? = _
    rw [Array.getElem?_modify, if_pos rfl, h]
    rfl
end Go.Mo
end

section
/-
  unicode/utf8.ValidString: the library's contract. The numbers are printed by a program.
-/
set_option linter.unusedVariables false
namespace Go.Mo
open Go Go.W Go.Proofs Go.Shelf Go.RowKit
set_option maxRecDepth 100000
def rhoV : Ren := ⟨fun n => match n with | 196 => 160 | 259 => 214 | n => n, fun n => match n with | 46 => 207 | 53 => 254 | 119 => 223 | 138 => 225 | 139 => 226 | n => n, fun n => match n with | 3 => 0 | 4 => 1 | n => n⟩
theorem laysV : Lays.n196 Tryz.prog rhoV := { mixed := by kernel_rfl, f196 := by kernel_rfl, f259 := by kernel_rfl, t0 := by kernel_rfl, a0 := fun _ => by kernel_rfl, z0 := fun _ => by kernel_rfl, v0 := fun _ => by kernel_rfl, t3 := by kernel_rfl, a3 := fun _ => by kernel_rfl, z3 := fun _ => by kernel_rfl, v3 := fun _ => by kernel_rfl, t4 := by kernel_rfl, a4 := fun _ => by kernel_rfl, z4 := fun _ => by kernel_rfl, v4 := fun _ => by kernel_rfl, t5 := by kernel_rfl, a5 := fun _ => by kernel_rfl, z5 := fun _ => by kernel_rfl, v5 := fun _ => by kernel_rfl, t9 := by kernel_rfl, a9 := fun _ => by kernel_rfl, z9 := fun _ => by kernel_rfl, v9 := fun _ => by kernel_rfl, t12 := by kernel_rfl, a12 := fun _ => by kernel_rfl, z12 := fun _ => by kernel_rfl, v12 := fun _ => by kernel_rfl, t46 := by kernel_rfl, a46 := fun _ => by kernel_rfl, z46 := fun _ => by kernel_rfl, v46 := fun _ => by kernel_rfl, t53 := by kernel_rfl, a53 := fun _ => by kernel_rfl, z53 := fun _ => by kernel_rfl, v53 := fun _ => by kernel_rfl, t119 := by kernel_rfl, a119 := fun _ => by kernel_rfl, z119 := fun _ => by kernel_rfl, t138 := by kernel_rfl, a138 := fun _ => by kernel_rfl, z138 := fun _ => by kernel_rfl, v138 := fun _ => by kernel_rfl, t139 := by kernel_rfl, a139 := fun _ => by kernel_rfl, z139 := fun _ => by kernel_rfl, v139 := fun _ => by kernel_rfl, g3 := by kernel_rfl, g4 := by kernel_rfl }
theorem first_tab : ((List.range 256).all fun c => Nat.beq ((gl0.getD c 0).toNat) (Lib.firstT c) && Nat.beq gl0.length 256) = true := by kernel_rfl
theorem acc_tab : ((List.range 16).all fun c => Nat.beq ((gl1.getD c (0, 0)).1.toNat) (Lib.accLo c) && Nat.beq ((gl1.getD c (0, 0)).2.toNat) (Lib.accHi c) && Nat.beq gl1.length 16) = true := by kernel_rfl
theorem rep_pairs {K : Kn} : ∀ {xs : List (UInt8 × UInt8)} {vs : List Value}, RepL (RepC K (.st (.pair .u8 .u8))) xs vs → ∀ i x, xs[i]? = some x → vs[2 * i]? = some (.int .u8 (n8 x.1)) ∧ vs[2 * i + 1]? = some (.int .u8 (n8 x.2))
 | [], vs, h, i, x, hx => by simp at hx
 | y :: xs, vs, ⟨c1, c2, e, h1, h2⟩, i, x, hx => by
  obtain ⟨d1, d2, e1, e2, e3⟩ := h1
  have e2 : d1 = [.int .u8 (n8 y.1)] := e2
  have e3 : d2 = [.int .u8 (n8 y.2)] := e3
  subst e2
  subst e3
  subst e1
  subst e
  cases i with
  | zero => simp at hx; subst hx; exact ⟨rfl, rfl⟩
  | succ i =>
   have := rep_pairs h2 i x (by simpa using hx)
   rw [show 2 * (i + 1) = 2 * i + 1 + 1 by omega]
   simpa using this
theorem tabsV {K : Kn} {w : World} (hg : GlobOk E K) (hk : ∀ b o v, K b o = some v → ∃ cs e fz, w.heap[b]? = some (.cells cs e fz) ∧ cs[o]? = some v) : Lib.Utf8Tabs 0 1 w := by
 have cell : ∀ {b o : Nat} {v : Value}, K b o = some v → w.cell? ⟨b, o, none⟩ = some v := fun {b o v} h => by
  obtain ⟨cs, e, fz, h1, h2⟩ := hk b o v h
  rw [cell_row h1]
  exact h2
 constructor
 ·obtain ⟨cs, ⟨_, r2⟩, r3⟩ := hg.1 0 _ _ (show lkG E.gl 0 = some ⟨.arr 256 .u8, gl0⟩ from by kernel_rfl)
  have hcs := repL_u8_cells r2
  intro c hc
  have ht := List.all_eq_true.1 first_tab c (List.mem_range.2 hc)
  simp only [Bool.and_eq_true] at ht
  have ht1 := Nat.eq_of_beq_eq_true ht.1
  have ht2 := Nat.eq_of_beq_eq_true ht.2
  have hlt : c < gl0.length := by rw [ht2]; exact hc
  refine cell (r3 c _ ?_)
  rw [hcs, List.getElem?_map, List.getElem?_eq_getElem hlt]
  have : gl0.getD c 0 = gl0[c] := by simp [hlt]
  rw [this] at ht1
  simp [ht1]
 ·obtain ⟨cs, ⟨_, r2⟩, r3⟩ := hg.1 1 _ _ (show lkG E.gl 1 = some ⟨.arr 16 (.st (.pair .u8 .u8)), gl1⟩ from by kernel_rfl)
  intro c hc
  have ht := List.all_eq_true.1 acc_tab c (List.mem_range.2 hc)
  simp only [Bool.and_eq_true] at ht
  have ht1 := Nat.eq_of_beq_eq_true ht.1.1
  have ht2 := Nat.eq_of_beq_eq_true ht.1.2
  have ht3 := Nat.eq_of_beq_eq_true ht.2
  have hlt : c < gl1.length := by rw [ht3]; exact hc
  obtain ⟨q1, q2⟩ := rep_pairs r2 c _ (List.getElem?_eq_getElem hlt)
  have : gl1.getD c (0, 0) = gl1[c] := by simp [hlt]
  rw [this] at ht1 ht2
  refine ⟨cell (r3 _ _ (by rw [q1]; unfold n8; rw [ht1])), cell (r3 _ _ (by rw [q2]; unfold n8; rw [ht2]))⟩
theorem khV (N : Nat) : ConOk E ⟨160, [.k (.v .str [])], [.v .bool []], hand_utf8_ValidString N⟩ := by
 intro x r h w K H γ args hEnt
 obtain ⟨hgd, h⟩ := grd_some (show grd (catOk (len x)) (some (Lib.validD x)) = some r from h)
 injection h with h
 subst h
 have hgd : (x.length : Int) ≤ 9223372036854775807 := of_decide_eq_true hgd
 right
 have hs : args.size = 1 := hEnt.size
 have s0 := (hEnt.slots 0 0 (.val (.one (.v .str x))) rfl).2
 have s0 : args.getD 0 undef = .string (bst x) := by simpa [RepSV, RepV, RepCell, RepC] using s0
 have ha : args = #[.string (bst x)] := by
  apply Array.ext
  ·simpa using hs
  ·intro i h1 h3
   simp at h3
   subst h3
   have : args.getD 0 undef = args[0] := by simp [Array.getD, hs]
   rw [← this, s0]
   rfl
 subst ha
 have hsz : (bst x).size = x.length := bst_size x
 refine ⟨by
  unfold callFunc
  simp only [program, Sem.run_bind, Sem.run, Result.andThen_ok, show E.P.funcs[160]? = some Tryz.f160 from by kernel_rfl]
  rfl, ?_⟩
 have hT := tabsV hEnt.glob hEnt.hp.kok
 refine (Any.utf8_ValidString laysV (bst x) w (by rw [hsz]; omega) hT).mono fun e w' he => ?_
 obtain ⟨rfl, hb⟩ := he
 intro tk _
 refine ⟨γ, obs (W.start [.k (.v .str [])] x), K, [], [], ?_, ⟨rfl, rfl⟩, fun j => by simp, fun i o ho => ?_, fun γ2 _ => rfl⟩
 ·have hn : ∀ j, obs (W.start [.k (.v .str [])] x) j = none := fun j => rfl
  refine ⟨hb.os, hb.tape, hb.output, hb.size, fun b hlt _ => ⟨hb.block b hlt, fun _ => rfl⟩, Kn.le.refl K, fun b o v hv => ?_, fun j o g hj => (by rw [hn] at hj; cases hj), fun j o g hj => (by rw [hn] at hj; cases hj), fun i j p q g g' hi => (by rw [hn] at hi; cases hi)⟩
  obtain ⟨cs, ee, fz, h1, h2⟩ := hEnt.hp.kok b o v hv
  exact ⟨cs, ee, fz, by rw [hb.block b (Array.getElem?_eq_some_iff.1 h1).1]; exact h1, h2⟩
 ·have ho : ([] : List Ob)[i]? = some o := ho
  simp at ho
end Go.Mo
end

section
/-
  Functions of the library, by its own contracts. The numbers are printed by a program.
-/
set_option linter.all false
namespace Go.Mo
open Go Go.W Go.Proofs Go.Shelf Go.RowKit
set_option maxRecDepth 100000
def rhoC : Ren := ⟨fun n => match n with | 143 => 218 | 144 => 165 | 217 => 261 | 219 => 240 | 224 => 244 | 225 => 245 | 266 => 270 | 267 => 262 | 314 => 271 | n => n, fun n => match n with | 46 => 207 | 51 => 262 | 146 => 263 | 22 => 191 | 27 => 235 | 28 => 146 | 31 => 189 | 38 => 43 | 39 => 187 | 40 => 194 | 41 => 220 | 47 => 272 | 52 => 276 | 53 => 254 | 54 => 255 | 55 => 260 | 63 => 195 | 64 => 227 | 70 => 228 | 71 => 229 | 72 => 230 | 74 => 231 | 75 => 232 | 76 => 233 | 77 => 234 | 79 => 247 | 80 => 140 | 81 => 285 | 83 => 252 | 84 => 183 | 97 => 248 | 98 => 165 | 99 => 166 | 103 => 221 | 104 => 141 | 105 => 98 | 107 => 159 | 109 => 237 | 110 => 238 | 111 => 271 | 114 => 261 | 115 => 241 | 119 => 223 | 126 => 267 | 127 => 259 | 131 => 89 | 136 => 222 | 137 => 224 | 138 => 225 | 139 => 226 | 147 => 264 | 148 => 265 | 149 => 266 | 151 => 277 | 164 => 273 | 165 => 274 | 166 => 239 | 171 => 253 | 172 => 256 | 173 => 257 | 174 => 258 | 179 => 203 | 180 => 275 | 211 => 268 | 212 => 269 | 213 => 270 | 217 => 99 | 232 => 278 | 233 => 279 | 238 => 280 | 239 => 281 | 240 => 282 | 241 => 283 | 242 => 284 | 243 => 286 | 244 => 287 | 245 => 288 | 246 => 289 | 247 => 290 | 248 => 291 | 249 => 292 | n => n, fun n => match n with | 1 => 2 | 3 => 0 | 4 => 1 | 17 => 3 | 18 => 4 | 19 => 5 | n => n⟩
theorem laysC : Lays.n144 Tryz.prog rhoC := { mixed := by kernel_rfl, f143 := by kernel_rfl, f144 := by kernel_rfl, f217 := by kernel_rfl, f219 := by kernel_rfl, f224 := by kernel_rfl, f225 := by kernel_rfl, f266 := by kernel_rfl, f267 := by kernel_rfl, f314 := by kernel_rfl, t3 := by kernel_rfl, a3 := fun _ => by kernel_rfl, z3 := fun _ => by kernel_rfl, v3 := fun _ => by kernel_rfl, t4 := by kernel_rfl, a4 := fun _ => by kernel_rfl, z4 := fun _ => by kernel_rfl, v4 := fun _ => by kernel_rfl, t5 := by kernel_rfl, a5 := fun _ => by kernel_rfl, z5 := fun _ => by kernel_rfl, v5 := fun _ => by kernel_rfl, t9 := by kernel_rfl, a9 := fun _ => by kernel_rfl, z9 := fun _ => by kernel_rfl, v9 := fun _ => by kernel_rfl, t46 := by kernel_rfl, a46 := fun _ => by kernel_rfl, z46 := fun _ => by kernel_rfl, v46 := fun _ => by kernel_rfl, t51 := by kernel_rfl, a51 := fun _ => by kernel_rfl, z51 := fun _ => by kernel_rfl, v51 := fun _ => by kernel_rfl, t146 := by kernel_rfl, a146 := fun _ => by kernel_rfl, z146 := fun _ => by kernel_rfl, v146 := fun _ => by kernel_rfl, g1 := by kernel_rfl }
theorem khContains (N : Nat) : ConOk E ⟨165, [.k (.v .str []), .k (.v .str [])], [.v .bool []], hand_strings_Contains N⟩ :=
 con_ssb (fn := Tryz.f165) _ (show E.P.funcs[165]? = some Tryz.f165 from by kernel_rfl) (by kernel_rfl) (by kernel_rfl) fun x r h w K hG hk => by
  obtain ⟨hb, h⟩ := grd_some h
  injection h with h
  subst h
  have hb : x.1.length < 4294967281 := of_decide_eq_true hb
  obtain ⟨m, hm⟩ := hG.2 2 (by kernel_rfl)
  obtain ⟨cs, e, fz, h1, h2⟩ := hk _ _ _ hm
  exact Any.strings_Contains laysC (bst x.1) (bst x.2) m w (by rw [bst_size]; exact hb) (by
   show w.cell? ⟨2, 0, none⟩ = _
   rw [cell_row h1]
   exact h2)
end Go.Mo
end

section
/-
  The environment is sound; contracts by hand.
-/
namespace Go.Mo
open Go Go.W Go.Proofs
set_option maxRecDepth 100000
theorem nzOk : NzOk E.P 225 := nz_ok (show E.P.funcs[225]? = some Tryz.f225 from by kernel_rfl) (by kernel_rfl) (by kernel_rfl) (by kernel_rfl) (show Extern.find Tryz.f225 = some (Extern.BytealgMakeNoZero.makeNoZero #[3] #[37]) from by kernel_rfl) (by kernel_rfl)
theorem envOk : EnvOk E := ⟨chk, mixed, fun z h => (by injection h with h; subst h; exact nzOk), fun z t h => (by injection h with h; injection h with h1 h2; subst h1; subst h2; exact bsOk)⟩
theorem kh_utf8_ValidString (N : Nat) : ConOk E ⟨160, ps_utf8_ValidString, rs_utf8_ValidString, utf8_ValidString N⟩ := khV N
theorem kh_bytealg_IndexByteString (N : Nat) : ConOk E ⟨270, ps_bytealg_IndexByteString, rs_bytealg_IndexByteString, bytealg_IndexByteString N⟩ := W.kh_IndexByteString (show E.P.funcs[270]? = some Tryz.f270 from by kernel_rfl) (by kernel_rfl) (by kernel_rfl) (by kernel_rfl) (show Extern.find Tryz.f270 = some Extern.BytealgIndexByte.indexByte from by kernel_rfl) N
theorem kh_strings_Builder_copyCheck (N : Nat) : ConOk E ⟨239, ps_strings_Builder_copyCheck, rs_strings_Builder_copyCheck, strings_Builder_copyCheck N⟩ := W.kh_copyCheck (show CcOk E.P 239 230 from ccOk) N
theorem kh_strings_Contains (N : Nat) : ConOk E ⟨165, ps_strings_Contains, rs_strings_Contains, strings_Contains N⟩ := khContains N
theorem kh_bytealg_IndexByte (N : Nat) : ConOk E ⟨180, ps_bytealg_IndexByte, rs_bytealg_IndexByte, bytealg_IndexByte N⟩ := W.kh_IndexByte (show E.P.funcs[180]? = some Tryz.f180 from by kernel_rfl) (by kernel_rfl) (by kernel_rfl) (by kernel_rfl) (show Extern.find Tryz.f180 = some Extern.BytealgIndexByte.indexByte from by kernel_rfl) N
end Go.Mo
end

section
/-
  The functions do what their models say. Printed by a program.
-/
namespace Go.Mo
open Go Go.W Go.Proofs
noncomputable section
set_option maxRecDepth 100000
def a_q11 : Ann := .lf
theorem x_q11 (N : Nat) : execF E [] N Tryz.f214 a_q11 ps_q11 rs_q11 = q11 N := by kernel_rfl
def a_q12 : Ann := (.sq .lf (.sq .lf (.jn ⟨[], [], [], []⟩ (.sq .lf (.lp ⟨[1, 9], [], [.s 5, .o 5], [.v (.int .i64) [], .i]⟩ .lf)) .lf)))
theorem x_q12 (N : Nat) : execF E [] N Tryz.f215 a_q12 ps_q12 rs_q12 = q12 N := by kernel_rfl
def a_q13 : Ann := .lf
theorem x_q13 (N : Nat) : execF E [⟨215, ps_q12, rs_q12, q12 N⟩] N Tryz.f161 a_q13 ps_q13 rs_q13 = q13 N := by kernel_rfl
def a_q14 : Ann := (.sq .lf (.sq .lf (.jn ⟨[], [], [], []⟩ (.sq .lf (.lp ⟨[9], [], [.o 7], [.i]⟩ .lf)) .lf)))
theorem x_q14 (N : Nat) : execF E [⟨160, ps_utf8_ValidString, rs_utf8_ValidString, utf8_ValidString N⟩, ⟨161, ps_q13, rs_q13, q13 N⟩] N Tryz.f97 a_q14 ps_q14 rs_q14 = q14 N := by kernel_rfl
def a_q15 : Ann := .lf
theorem x_q15 (N : Nat) : execF E [] N Tryz.f109 a_q15 ps_q15 rs_q15 = q15 N := by kernel_rfl
def a_q16 : Ann := .lf
theorem x_q16 (N : Nat) : execF E [] N Tryz.f110 a_q16 ps_q16 rs_q16 = q16 N := by kernel_rfl
def a_q17 : Ann := (.sq .lf (.sq .lf (.jn ⟨[], [], [], []⟩ (.sq .lf (.lp ⟨[1, 10, 11], [2], [.s 12], [.v (.int .i64) []]⟩ .lf)) .lf)))
theorem x_q17 (N : Nat) : execF E [⟨97, ps_q14, rs_q14, q14 N⟩, ⟨109, ps_q15, rs_q15, q15 N⟩, ⟨110, ps_q16, rs_q16, q16 N⟩] N Tryz.f53 a_q17 ps_q17 rs_q17 = q17 N := by kernel_rfl
def a_q18 : Ann := .lf
theorem x_q18 (N : Nat) : execF E [] N Tryz.f54 a_q18 ps_q18 rs_q18 = q18 N := by kernel_rfl
def a_stl_on : Ann := .lf
theorem x_stl_on (N : Nat) : execF E [] N Tryz.f55 a_stl_on ps_stl_on rs_stl_on = stl_on N := by kernel_rfl
def a_q19 : Ann := .lf
theorem x_q19 (N : Nat) : execF E [⟨161, ps_q13, rs_q13, q13 N⟩] N Tryz.f170 a_q19 ps_q19 rs_q19 = q19 N := by kernel_rfl
def a_q20 : Ann := .lf
theorem x_q20 (N : Nat) : execF E [] N Tryz.f117 a_q20 ps_q20 rs_q20 = q20 N := by kernel_rfl
def a_q21 : Ann := (.sq .lf (.sq (.sq .lf (.sq .lf (.jn ⟨[0], [], [.s 7], [.v (.bool) []]⟩ .lf .lf))) .lf))
theorem x_q21 (N : Nat) : execF E [⟨161, ps_q13, rs_q13, q13 N⟩] N Tryz.f172 a_q21 ps_q21 rs_q21 = q21 N := by kernel_rfl
def a_q22 : Ann := .lf
theorem x_q22 (N : Nat) : execF E [⟨270, ps_bytealg_IndexByteString, rs_bytealg_IndexByteString, bytealg_IndexByteString N⟩] N Tryz.f261 a_q22 ps_q22 rs_q22 = q22 N := by kernel_rfl
def a_q23 : Ann := .lf
theorem x_q23 (N : Nat) : execF E [⟨261, ps_q22, rs_q22, q22 N⟩] N Tryz.f242 a_q23 ps_q23 rs_q23 = q23 N := by kernel_rfl
def a_q24 : Ann := .lf
theorem x_q24 (N : Nat) : execF E [] N Tryz.f243 a_q24 ps_q24 rs_q24 = q24 N := by kernel_rfl
def a_q25 : Ann := .lf
theorem x_q25 (N : Nat) : execF E [] N Tryz.f244 a_q25 ps_q25 rs_q25 = q25 N := by kernel_rfl
def a_q26 : Ann := (.sq .lf (.jn ⟨[0, 1], [], [.s 160], [.v (.bool) []]⟩ .lf (.sq .lf (.sq .lf (.sq (.jn ⟨[], [], [], []⟩ (.sq .lf (.lp ⟨[175], [], [.o 8], [.i]⟩ .lf)) .lf) (.sq .lf (.sq .lf (.sq (.sq .lf (.sq .lf (.sq .lf (.sq .lf (.jn ⟨[], [], [], []⟩ (.lp ⟨[0, 1, 7, 8], [], [.s 9, .s 10], [.v (.int .i64) [], .v (.int .i64) []]⟩ (.sq .lf (.sq (.jn ⟨[0, 1, 7, 8, 10], [], [.s 9], [.v (.int .i64) []]⟩ .lf (.jn ⟨[8, 9], [], [], []⟩ (.sq .lf (.lp ⟨[0, 1, 7, 8, 9, 10], [], [.s 12], [.v (.int .i64) []]⟩ .lf)) .lf)) .lf))) .lf))))) .lf))))))))
theorem x_q26 (N : Nat) : execF E [⟨242, ps_q23, rs_q23, q23 N⟩, ⟨243, ps_q24, rs_q24, q24 N⟩, ⟨244, ps_q25, rs_q25, q25 N⟩] N Tryz.f220 a_q26 ps_q26 rs_q26 = q26 N := by kernel_rfl
def a_q27 : Ann := .lf
theorem x_q27 (N : Nat) : execF E [⟨220, ps_q26, rs_q26, q26 N⟩] N Tryz.f171 a_q27 ps_q27 rs_q27 = q27 N := by kernel_rfl
def a_q28 : Ann := .lf
theorem x_q28 (N : Nat) : execF E [⟨161, ps_q13, rs_q13, q13 N⟩] N Tryz.f119 a_q28 ps_q28 rs_q28 = q28 N := by kernel_rfl
def a_q29 : Ann := (.sq .lf (.sq .lf (.sq .lf (.sq .lf (.jn ⟨[0], [], [], []⟩ (.sq .lf (.lp ⟨[0, 15], [], [.s 3, .o 9], [.v (.int .i64) [], .i]⟩ .lf)) (.jn ⟨[], [], [], []⟩ (.sq .lf (.lp ⟨[0], [], [.s 6], [.v (.u8) []]⟩ .lf)) .lf))))))
theorem x_q29 (N : Nat) : execF E [⟨170, ps_q19, rs_q19, q19 N⟩, ⟨117, ps_q20, rs_q20, q20 N⟩, ⟨172, ps_q21, rs_q21, q21 N⟩, ⟨171, ps_q27, rs_q27, q27 N⟩, ⟨119, ps_q28, rs_q28, q28 N⟩] N Tryz.f111 a_q29 ps_q29 rs_q29 = q29 N := by kernel_rfl
def a_q30 : Ann := (.sq .lf (.sq .lf (.sq .lf (.jn ⟨[], [], [.s 4], [.v Y8 [0]]⟩ (.sq .lf (.lp ⟨[11], [], [.s 4, .o 9], [.v Y8 [0], .i]⟩ .lf)) .lf))))
theorem x_q30 (N : Nat) : execF E [⟨97, ps_q14, rs_q14, q14 N⟩, ⟨111, ps_q29, rs_q29, q29 N⟩] N Tryz.f56 a_q30 ps_q30 rs_q30 = q30 N := by kernel_rfl
def a_stl_Text : Ann := (.sq .lf (.sq .lf (.jn ⟨[], [], [.s 4], [.v Y8 [0]]⟩ (.sq .lf (.lp ⟨[13, 14], [], [.s 4, .s 15], [.v Y8 [0], .v (.int .i64) []]⟩ (.sq .lf (.sq .lf (.jn ⟨[13, 14, 15], [], [.s 4], [.v Y8 [0]]⟩ (.sq .lf (.sq .lf (.jn ⟨[6, 13, 14, 15], [14], [.s 4], [.v Y8 [0]]⟩ .lf (.sq .lf (.sq .lf (.lp ⟨[8, 13, 14, 15, 31, 32], [], [.s 4, .s 33, .o 25], [.v Y8 [0], .v (.int .i64) [], .b 51 (.st (.pair (.u8) (.pair (.bool) (.bool)))) []]⟩ (.sq .lf (.sq .lf (.sq (.sq .lf (.jn ⟨[8, 10, 13, 14, 15, 31, 32, 33], [36, 25], [.s 4], [.v Y8 [0]]⟩ .lf (.jn ⟨[8, 10, 13, 14, 15, 31, 32, 33], [36, 25], [.s 4], [.v Y8 [0]]⟩ .lf (.jn ⟨[8, 10, 13, 14, 15, 31, 32, 33], [36, 25], [.s 4], [.v Y8 [0]]⟩ .lf .lf)))) .lf))))))))) .lf))))) .lf)))
theorem x_stl_Text (N : Nat) : execF E [⟨53, ps_q17, rs_q17, q17 N⟩, ⟨54, ps_q18, rs_q18, q18 N⟩, ⟨55, ps_stl_on, rs_stl_on, stl_on N⟩, ⟨56, ps_q30, rs_q30, q30 N⟩] N Tryz.f20 a_stl_Text ps_stl_Text rs_stl_Text = stl_Text N := by kernel_rfl
def a_q31 : Ann := (.sq .lf (.sq .lf (.jn ⟨[], [], [], []⟩ (.sq .lf (.lp ⟨[0, 1, 12], [], [.s 13], [.v (.int .i64) []]⟩ .lf)) .lf)))
theorem x_q31 (N : Nat) : execF E [] N Tryz.f24 a_q31 ps_q31 rs_q31 = q31 N := by kernel_rfl
def a_q32 : Ann := (.sq .lf (.sq .lf (.jn ⟨[], [], [], []⟩ (.sq .lf (.lp ⟨[0, 24], [], [.s 25], [.v (.int .i64) []]⟩ (.sq .lf (.sq .lf (.jn ⟨[0, 24, 25], [], [], []⟩ .lf .lf))))) .lf)))
theorem x_q32 (N : Nat) : execF E [] N Tryz.f98 a_q32 ps_q32 rs_q32 = q32 N := by kernel_rfl
def a_q33 : Ann := .lf
theorem x_q33 (N : Nat) : execF E [] N Tryz.f148 a_q33 ps_q33 rs_q33 = q33 N := by kernel_rfl
def a_q34 : Ann := .lf
theorem x_q34 (N : Nat) : execF E [⟨148, ps_q33, rs_q33, q33 N⟩] N Tryz.f146 a_q34 ps_q34 rs_q34 = q34 N := by kernel_rfl
def a_q35 : Ann := .lf
theorem x_q35 (N : Nat) : execF E [⟨148, ps_q33, rs_q33, q33 N⟩] N Tryz.f147 a_q35 ps_q35 rs_q35 = q35 N := by kernel_rfl
def a_q36 : Ann := .lf
theorem x_q36 (N : Nat) : execF E [⟨146, ps_q34, rs_q34, q34 N⟩, ⟨147, ps_q35, rs_q35, q35 N⟩] N Tryz.f99 a_q36 ps_q36 rs_q36 = q36 N := by kernel_rfl
def a_q37 : Ann := (.sq .lf (.jn ⟨[1], [2], [], []⟩ .lf .lf))
theorem x_q37 (N : Nat) : execF E [⟨97, ps_q14, rs_q14, q14 N⟩, ⟨98, ps_q32, rs_q32, q32 N⟩, ⟨99, ps_q36, rs_q36, q36 N⟩] N Tryz.f47 a_q37 ps_q37 rs_q37 = q37 N := by kernel_rfl
def a_q38 : Ann := .lf
theorem x_q38 (N : Nat) : execF E [] N Tryz.f162 a_q38 ps_q38 rs_q38 = q38 N := by kernel_rfl
def a_q39 : Ann := .lf
theorem x_q39 (N : Nat) : execF E [⟨98, ps_q32, rs_q32, q32 N⟩, ⟨162, ps_q38, rs_q38, q38 N⟩] N Tryz.f100 a_q39 ps_q39 rs_q39 = q39 N := by kernel_rfl
def a_q40 : Ann := (.sq .lf (.sq .lf (.jn ⟨[], [], [], []⟩ (.sq .lf (.lp ⟨[0, 9, 10], [], [.s 11], [.v (.int .i64) []]⟩ (.sq .lf (.sq .lf (.sq (.sq .lf (.sq .lf (.jn ⟨[0, 3, 4, 9, 10, 11], [14], [], []⟩ .lf .lf))) .lf))))) .lf)))
theorem x_q40 (N : Nat) : execF E [⟨100, ps_q39, rs_q39, q39 N⟩] N Tryz.f48 a_q40 ps_q40 rs_q40 = q40 N := by kernel_rfl
def a_q41 : Ann := .lf
theorem x_q41 (N : Nat) : execF E [] N Tryz.f149 a_q41 ps_q41 rs_q41 = q41 N := by kernel_rfl
def a_q42 : Ann := (.sq .lf (.sq .lf (.jn ⟨[4], [2], [], []⟩ (.sq .lf (.lp ⟨[1, 4, 11, 12], [2], [.s 13], [.v (.int .i64) []]⟩ .lf)) .lf)))
theorem x_q42 (N : Nat) : execF E [⟨149, ps_q41, rs_q41, q41 N⟩] N Tryz.f81 a_q42 ps_q42 rs_q42 = q42 N := by kernel_rfl
def a_q43 : Ann := .lf
theorem x_q43 (N : Nat) : execF E [] N Tryz.f101 a_q43 ps_q43 rs_q43 = q43 N := by kernel_rfl
def a_q44 : Ann := .lf
theorem x_q44 (N : Nat) : execF E [] N Tryz.f163 a_q44 ps_q44 rs_q44 = q44 N := by kernel_rfl
def a_q45 : Ann := .lf
theorem x_q45 (N : Nat) : execF E [⟨163, ps_q44, rs_q44, q44 N⟩] N Tryz.f102 a_q45 ps_q45 rs_q45 = q45 N := by kernel_rfl
def a_q46 : Ann := .lf
theorem x_q46 (N : Nat) : execF E [⟨239, ps_strings_Builder_copyCheck, rs_strings_Builder_copyCheck, strings_Builder_copyCheck N⟩] N Tryz.f216 a_q46 ps_q46 rs_q46 = q46 N := by kernel_rfl
def a_q47 : Ann := (.sq .lf (.sq .lf (.jn ⟨[3], [], [.o 5], [.b 230 (.st (.pair (.nptr) Y8)) [1]]⟩ (.sq .lf (.lp ⟨[3, 7, 8], [], [.s 9, .o 5], [.v (.int .i64) [], .b 230 (.st (.pair (.nptr) Y8)) [1]]⟩ .lf)) .lf)))
theorem x_q47 (N : Nat) : execF E [⟨216, ps_q46, rs_q46, q46 N⟩] N Tryz.f164 a_q47 ps_q47 rs_q47 = q47 N := by kernel_rfl
def a_q48 : Ann := (.sq .lf (.sq .lf (.jn ⟨[0], [], [.s 4], [.v (.int .u32) []]⟩ (.sq .lf (.lp ⟨[0], [], [.s 4, .s 5], [.v (.int .u32) [], .v (.int .i64) []]⟩ .lf)) (.sq .lf (.jn ⟨[4], [], [.s 6], [.v (.int .u32) []]⟩ (.sq .lf (.lp ⟨[4], [], [.s 6, .s 7, .s 8], [.v (.int .u32) [], .v (.int .u32) [], .v (.int .i64) []]⟩ .lf)) .lf)))))
theorem x_q48 (N : Nat) : execF E [] N Tryz.f271 a_q48 ps_q48 rs_q48 = q48 N := by kernel_rfl
def a_q49 : Ann := (.sq .lf (.sq .lf (.sq .lf (.sq .lf (.jn ⟨[0, 1, 5, 6, 7], [], [.s 8], [.v (.int .u32) []]⟩ (.sq .lf (.lp ⟨[0, 1, 5, 6, 7], [], [.s 8, .s 9], [.v (.int .u32) [], .v (.int .i64) []]⟩ .lf)) (.jn ⟨[0, 1, 5, 6, 7, 8], [], [], []⟩ .lf (.jn ⟨[], [], [], []⟩ (.sq .lf (.lp ⟨[0, 1, 5, 6, 7], [], [.s 8, .s 10], [.v (.int .u32) [], .v (.int .i64) []]⟩ .lf)) .lf)))))))
theorem x_q49 (N : Nat) : execF E [⟨271, ps_q48, rs_q48, q48 N⟩] N Tryz.f262 a_q49 ps_q49 rs_q49 = q49 N := by kernel_rfl
def a_q50 : Ann := .lf
theorem x_q50 (N : Nat) : execF E [⟨261, ps_q22, rs_q22, q22 N⟩, ⟨244, ps_q25, rs_q25, q25 N⟩, ⟨262, ps_q49, rs_q49, q49 N⟩] N Tryz.f240 a_q50 ps_q50 rs_q50 = q50 N := by kernel_rfl
def a_q51 : Ann := .lf
theorem x_q51 (N : Nat) : execF E [⟨240, ps_q50, rs_q50, q50 N⟩] N Tryz.f218 a_q51 ps_q51 rs_q51 = q51 N := by kernel_rfl
def a_q52 : Ann := (.sq .lf (.jn ⟨[], [], [.s 2], [.v (.int .i64) []]⟩ (.sq .lf (.lp ⟨[4], [], [.s 2, .o 4], [.v (.int .i64) [], .i]⟩ .lf)) .lf))
theorem x_q52 (N : Nat) : execF E [] N Tryz.f241 a_q52 ps_q52 rs_q52 = q52 N := by kernel_rfl
def a_q53 : Ann := .lf
theorem x_q53 (N : Nat) : execF E [⟨97, ps_q14, rs_q14, q14 N⟩, ⟨241, ps_q52, rs_q52, q52 N⟩] N Tryz.f219 a_q53 ps_q53 rs_q53 = q53 N := by kernel_rfl
def a_q54 : Ann := (.sq .lf (.sq .lf (.jn ⟨[], [], [.s 3], [.v (.int .i64) []]⟩ (.sq .lf (.lp ⟨[8, 9], [], [.s 3, .s 10], [.v (.int .i64) [], .v (.int .i64) []]⟩ .lf)) .lf)))
theorem x_q54 (N : Nat) : execF E [⟨219, ps_q53, rs_q53, q53 N⟩] N Tryz.f166 a_q54 ps_q54 rs_q54 = q54 N := by kernel_rfl
def a_q55 : Ann := .lf
theorem x_q55 (N : Nat) : execF E [⟨53, ps_q17, rs_q17, q17 N⟩, ⟨164, ps_q47, rs_q47, q47 N⟩, ⟨165, ps_strings_Contains, rs_strings_Contains, strings_Contains N⟩, ⟨166, ps_q54, rs_q54, q54 N⟩] N Tryz.f103 a_q55 ps_q55 rs_q55 = q55 N := by kernel_rfl
def a_q56 : Ann := (.sq .lf (.sq .lf (.jn ⟨[], [], [.s 3], [.v (.slice (.int .i64)) [0]]⟩ (.sq .lf (.lp ⟨[7, 8], [], [.s 3, .s 9], [.v (.slice (.int .i64)) [0], .v (.int .i64) []]⟩ .lf)) .lf)))
theorem x_q56 (N : Nat) : execF E [⟨166, ps_q54, rs_q54, q54 N⟩] N Tryz.f105 a_q56 ps_q56 rs_q56 = q56 N := by kernel_rfl
def a_q57 : Ann := .lf
theorem x_q57 (N : Nat) : execF E [⟨149, ps_q41, rs_q41, q41 N⟩, ⟨100, ps_q39, rs_q39, q39 N⟩] N Tryz.f167 a_q57 ps_q57 rs_q57 = q57 N := by kernel_rfl
def a_q58 : Ann := (.sq .lf (.sq .lf (.sq .lf (.jn ⟨[1, 2], [2], [.s 6], [.v (.int .i64) []]⟩ .lf (.sq .lf (.jn ⟨[], [], [.s 7], [.v (.slice (.st (.pair (.int .i64) (.pair (.int .i64) (.int .i64))))) [0]]⟩ (.sq .lf (.lp ⟨[2, 6, 32, 33], [2], [.s 7, .s 34], [.v (.slice (.st (.pair (.int .i64) (.pair (.int .i64) (.int .i64))))) [0], .v (.int .i64) []]⟩ .lf)) .lf))))))
theorem x_q58 (N : Nat) : execF E [⟨167, ps_q57, rs_q57, q57 N⟩] N Tryz.f104 a_q58 ps_q58 rs_q58 = q58 N := by kernel_rfl
def a_q59 : Ann := (.sq .lf (.sq .lf (.sq (.sq .lf (.sq .lf (.sq .lf (.sq .lf (.sq .lf (.sq .lf (.jn ⟨[2, 5], [12, 2], [.s 42], [.v (.bool) []]⟩ .lf .lf))))))) (.jn ⟨[2, 5], [12, 2], [], []⟩ (.sq .lf (.lp ⟨[2, 5, 64, 65], [12, 2], [.s 66], [.v (.int .i64) []]⟩ .lf)) .lf))))
theorem x_q59 (N : Nat) : execF E [⟨81, ps_q42, rs_q42, q42 N⟩, ⟨101, ps_q43, rs_q43, q43 N⟩, ⟨102, ps_q45, rs_q45, q45 N⟩, ⟨98, ps_q32, rs_q32, q32 N⟩, ⟨103, ps_q55, rs_q55, q55 N⟩, ⟨105, ps_q56, rs_q56, q56 N⟩, ⟨104, ps_q58, rs_q58, q58 N⟩] N Tryz.f49 a_q59 ps_q59 rs_q59 = q59 N := by kernel_rfl
def a_q60 : Ann := .lf
theorem x_q60 (N : Nat) : execF E [] N Tryz.f168 a_q60 ps_q60 rs_q60 = q60 N := by kernel_rfl
def a_q61 : Ann := .lf
theorem x_q61 (N : Nat) : execF E [⟨168, ps_q60, rs_q60, q60 N⟩] N Tryz.f107 a_q61 ps_q61 rs_q61 = q61 N := by kernel_rfl
def a_q62 : Ann := (.sq .lf (.sq .lf (.jn ⟨[3], [], [], []⟩ (.sq .lf (.lp ⟨[3, 6, 7], [], [.s 8], [.v (.int .i64) []]⟩ .lf)) .lf)))
theorem x_q62 (N : Nat) : execF E [] N Tryz.f106 a_q62 ps_q62 rs_q62 = q62 N := by kernel_rfl
def a_q63 : Ann := .lf
theorem x_q63 (N : Nat) : execF E [⟨107, ps_q61, rs_q61, q61 N⟩, ⟨106, ps_q62, rs_q62, q62 N⟩] N Tryz.f50 a_q63 ps_q63 rs_q63 = q63 N := by kernel_rfl
def a_q64 : Ann := (.sq .lf (.sq .lf (.jn ⟨[], [], [.s 3], [.v (.int .i64) []]⟩ (.sq .lf (.lp ⟨[12, 13], [12], [.s 3, .s 14], [.v (.int .i64) [], .v (.int .i64) []]⟩ .lf)) .lf)))
theorem x_q64 (N : Nat) : execF E [⟨105, ps_q56, rs_q56, q56 N⟩] N Tryz.f169 a_q64 ps_q64 rs_q64 = q64 N := by kernel_rfl
def a_q65 : Ann := .lf
theorem x_q65 (N : Nat) : execF E [⟨169, ps_q64, rs_q64, q64 N⟩] N Tryz.f108 a_q65 ps_q65 rs_q65 = q65 N := by kernel_rfl
def a_q66 : Ann := (.sq .lf (.sq .lf (.jn ⟨[], [], [.o 1], [.m (.int .i64) (.int .i64)]⟩ (.sq .lf (.lp ⟨[1, 2, 15, 16], [3], [.s 17, .o 1], [.v (.int .i64) [], .m (.int .i64) (.int .i64)]⟩ (.sq .lf (.sq .lf (.sq (.sq .lf (.sq .lf (.jn ⟨[1, 2, 6, 15, 16, 17], [1, 19, 3], [], []⟩ .lf .lf))) .lf))))) .lf)))
theorem x_q66 (N : Nat) : execF E [⟨108, ps_q65, rs_q65, q65 N⟩, ⟨98, ps_q32, rs_q32, q32 N⟩, ⟨97, ps_q14, rs_q14, q14 N⟩] N Tryz.f51 a_q66 ps_q66 rs_q66 = q66 N := by kernel_rfl
def a_q67 : Ann := (.sq .lf (.sq .lf (.sq .lf (.sq .lf (.sq .lf (.jn ⟨[1, 5], [2], [.o 20], [.m (.int .i64) (.int .i64)]⟩ (.sq .lf (.lp ⟨[1, 5, 28, 29], [2], [.s 30, .o 20], [.v (.int .i64) [], .m (.int .i64) (.int .i64)]⟩ .lf)) .lf))))))
theorem x_q67 (N : Nat) : execF E [⟨47, ps_q37, rs_q37, q37 N⟩, ⟨48, ps_q40, rs_q40, q40 N⟩, ⟨49, ps_q59, rs_q59, q59 N⟩, ⟨50, ps_q63, rs_q63, q63 N⟩, ⟨51, ps_q66, rs_q66, q66 N⟩] N Tryz.f18 a_q67 ps_q67 rs_q67 = q67 N := by kernel_rfl
def a_q68 : Ann := (.sq .lf (.sq .lf (.sq .lf (.sq .lf (.jn ⟨[6, 8], [20, 13], [], []⟩ (.sq .lf (.lp ⟨[6, 8, 22, 23], [20, 13], [.s 24], [.v (.int .i64) []]⟩ .lf)) .lf)))))
theorem x_q68 (N : Nat) : execF E [⟨81, ps_q42, rs_q42, q42 N⟩, ⟨105, ps_q56, rs_q56, q56 N⟩, ⟨104, ps_q58, rs_q58, q58 N⟩] N Tryz.f80 a_q68 ps_q68 rs_q68 = q68 N := by kernel_rfl
def a_q69 : Ann := .lf
theorem x_q69 (N : Nat) : execF E [⟨80, ps_q68, rs_q68, q68 N⟩, ⟨81, ps_q42, rs_q42, q42 N⟩] N Tryz.f33 a_q69 ps_q69 rs_q69 = q69 N := by kernel_rfl
def a_q70 : Ann := .lf
theorem x_q70 (N : Nat) : execF E [] N Tryz.f235 a_q70 ps_q70 rs_q70 = q70 N := by kernel_rfl
def a_q71 : Ann := (.sq .lf (.jn ⟨[], [], [.s 0, .s 2], [.v (.int .u64) [], .v (.int .i64) []]⟩ .lf (.jn ⟨[], [], [.s 0, .s 2], [.v (.int .u64) [], .v (.int .i64) []]⟩ .lf .lf)))
theorem x_q71 (N : Nat) : execF E [] N Tryz.f256 a_q71 ps_q71 rs_q71 = q71 N := by kernel_rfl
def a_q72 : Ann := .lf
theorem x_q72 (N : Nat) : execF E [] N Tryz.f255 a_q72 ps_q72 rs_q72 = q72 N := by kernel_rfl
def a_q73 : Ann := .lf
theorem x_q73 (N : Nat) : execF E [] N Tryz.f257 a_q73 ps_q73 rs_q73 = q73 N := by kernel_rfl
def a_q74 : Ann := .lf
theorem x_q74 (N : Nat) : execF E [] N Tryz.f258 a_q74 ps_q74 rs_q74 = q74 N := by kernel_rfl
def a_q75 : Ann := .lf
theorem x_q75 (N : Nat) : execF E [] N Tryz.f268 a_q75 ps_q75 rs_q75 = q75 N := by kernel_rfl
def a_q76 : Ann := .lf
theorem x_q76 (N : Nat) : execF E [] N Tryz.f269 a_q76 ps_q76 rs_q76 = q76 N := by kernel_rfl
def a_q77 : Ann := .lf
theorem x_q77 (N : Nat) : execF E [⟨268, ps_q75, rs_q75, q75 N⟩, ⟨269, ps_q76, rs_q76, q76 N⟩] N Tryz.f259 a_q77 ps_q77 rs_q77 = q77 N := by kernel_rfl
def a_q78 : Ann := .lf
theorem x_q78 (N : Nat) : execF E [⟨235, ps_q70, rs_q70, q70 N⟩] N Tryz.f210 a_q78 ps_q78 rs_q78 = q78 N := by kernel_rfl
def a_q79 : Ann := .lf
theorem x_q79 (N : Nat) : execF E [⟨210, ps_q78, rs_q78, q78 N⟩] N Tryz.f150 a_q79 ps_q79 rs_q79 = q79 N := by kernel_rfl
def a_q80 : Ann := .lf
theorem x_q80 (N : Nat) : execF E [⟨150, ps_q79, rs_q79, q79 N⟩] N Tryz.f82 a_q80 ps_q80 rs_q80 = q80 N := by kernel_rfl
end
end Go.Mo
end

section
/-
  The functions do what their models say. Printed by a program.
-/
namespace Go.Mo
open Go Go.W Go.Proofs
noncomputable section
set_option maxRecDepth 100000
def a_q81 : Ann := (.sq .lf (.sq .lf (.jn ⟨[1, 2], [4, 2], [.s 3], [.v (.str) []]⟩ .lf .lf)))
theorem x_q81 (N : Nat) : execF E [⟨82, ps_q80, rs_q80, q80 N⟩] N Tryz.f34 a_q81 ps_q81 rs_q81 = q81 N := by kernel_rfl
def a_stl_add : Ann := (.sq .lf (.sq .lf (.jn ⟨[0, 3], [2], [.s 5], [.v (.int .i64) []]⟩ (.lp ⟨[0, 3], [2], [.s 5], [.v (.int .i64) []]⟩ .lf) (.jn ⟨[0, 3, 5], [2], [], []⟩ .lf .lf))))
theorem x_stl_add (N : Nat) : execF E [] N Tryz.f32 a_stl_add ps_stl_add rs_stl_add = stl_add N := by kernel_rfl
def a_q82 : Ann := (.sq .lf (.sq .lf (.jn ⟨[2, 3], [2], [.o 4], [.b 48 (.st Y5) [0]]⟩ (.sq .lf (.lp ⟨[2, 3, 7, 8], [2], [.s 9, .o 4], [.v (.int .i64) [], .b 48 (.st Y5) [0]]⟩ .lf)) .lf)))
theorem x_q82 (N : Nat) : execF E [⟨110, ps_q16, rs_q16, q16 N⟩] N Tryz.f64 a_q82 ps_q82 rs_q82 = q82 N := by kernel_rfl
def a_q83 : Ann := .lf
theorem x_q83 (N : Nat) : execF E [⟨64, ps_q82, rs_q82, q82 N⟩] N Tryz.f26 a_q83 ps_q83 rs_q83 = q83 N := by kernel_rfl
def a_stl_bare : Ann := (.sq .lf (.sq .lf (.jn ⟨[], [], [.s 3], [.v (.slice (.st Y5)) [0]]⟩ (.sq .lf (.lp ⟨[9, 10], [], [.s 3, .s 11], [.v (.slice (.st Y5)) [0], .v (.int .i64) []]⟩ (.sq .lf (.sq .lf (.jn ⟨[9, 10, 11], [], [.s 3], [.v (.slice (.st Y5)) [0]]⟩ (.sq .lf (.sq .lf (.jn ⟨[3, 6, 9, 10, 11], [7], [.o 15], [.b 48 (.st Y5) [0]]⟩ (.sq .lf (.lp ⟨[3, 6, 9, 10, 11, 16, 17], [7], [.s 18, .o 15], [.v (.int .i64) [], .b 48 (.st Y5) [0]]⟩ .lf)) .lf))) .lf))))) .lf)))
theorem x_stl_bare (N : Nat) : execF E [⟨26, ps_q83, rs_q83, q83 N⟩] N Tryz.f45 a_stl_bare ps_stl_bare rs_stl_bare = stl_bare N := by kernel_rfl
def a_q84 : Ann := (.sq .lf (.sq .lf (.sq .lf (.jn ⟨[2, 3], [4], [.o 21], [.b 27 Y3 [6, 7]]⟩ (.sq .lf (.lp ⟨[1, 2, 3, 24, 25], [4, 2], [.s 26, .o 21], [.v (.int .i64) [], .b 27 Y3 [6, 7]]⟩ .lf)) .lf))))
theorem x_q84 (N : Nat) : execF E [⟨18, ps_q67, rs_q67, q67 N⟩, ⟨33, ps_q69, rs_q69, q69 N⟩, ⟨34, ps_q81, rs_q81, q81 N⟩, ⟨32, ps_stl_add, rs_stl_add, stl_add N⟩, ⟨45, ps_stl_bare, rs_stl_bare, stl_bare N⟩] N Tryz.f16 a_q84 ps_q84 rs_q84 = q84 N := by kernel_rfl
def a_l24_awake : Ann := .lf
theorem x_l24_awake (N : Nat) : execF E [⟨20, ps_stl_Text, rs_stl_Text, stl_Text N⟩, ⟨24, ps_q31, rs_q31, q31 N⟩, ⟨16, ps_q84, rs_q84, q84 N⟩] N Tryz.f11 a_l24_awake ps_l24_awake rs_l24_awake = l24_awake N := by kernel_rfl
def a_l24_few : Ann := .lf
theorem x_l24_few (N : Nat) : execF E [] N Tryz.f12 a_l24_few ps_l24_few rs_l24_few = l24_few N := by kernel_rfl
def a_q85 : Ann := .lf
theorem x_q85 (N : Nat) : execF E [⟨146, ps_q34, rs_q34, q34 N⟩, ⟨147, ps_q35, rs_q35, q35 N⟩] N Tryz.f77 a_q85 ps_q85 rs_q85 = q85 N := by kernel_rfl
def a_q86 : Ann := .lf
theorem x_q86 (N : Nat) : execF E [⟨148, ps_q33, rs_q33, q33 N⟩] N Tryz.f78 a_q86 ps_q86 rs_q86 = q86 N := by kernel_rfl
def a_q87 : Ann := .lf
theorem x_q87 (N : Nat) : execF E [] N Tryz.f79 a_q87 ps_q87 rs_q87 = q87 N := by kernel_rfl
def a_q88 : Ann := .lf
theorem x_q88 (N : Nat) : execF E [⟨77, ps_q85, rs_q85, q85 N⟩, ⟨78, ps_q86, rs_q86, q86 N⟩, ⟨79, ps_q87, rs_q87, q87 N⟩] N Tryz.f31 a_q88 ps_q88 rs_q88 = q88 N := by kernel_rfl
def a_q89 : Ann := (.sq .lf (.sq .lf (.jn ⟨[1], [2], [], []⟩ .lf (.sq .lf (.jn ⟨[], [], [], []⟩ (.sq .lf (.lp ⟨[1, 22, 23], [2], [.s 5, .s 24], [.v (.slice Y6) [], .v (.int .i64) []]⟩ .lf)) .lf)))))
theorem x_q89 (N : Nat) : execF E [⟨18, ps_q67, rs_q67, q67 N⟩, ⟨31, ps_q88, rs_q88, q88 N⟩, ⟨33, ps_q69, rs_q69, q69 N⟩, ⟨34, ps_q81, rs_q81, q81 N⟩, ⟨32, ps_stl_add, rs_stl_add, stl_add N⟩] N Tryz.f13 a_q89 ps_q89 rs_q89 = q89 N := by kernel_rfl
def a_q90 : Ann := (.sq .lf (.sq .lf (.sq .lf (.sq .lf (.sq .lf (.sq .lf (.sq .lf (.jn ⟨[1, 6, 9], [2], [.s 14], [.v (.int .i64) []]⟩ .lf .lf))))))))
theorem x_q90 (N : Nat) : execF E [⟨77, ps_q85, rs_q85, q85 N⟩, ⟨31, ps_q88, rs_q88, q88 N⟩, ⟨78, ps_q86, rs_q86, q86 N⟩, ⟨79, ps_q87, rs_q87, q87 N⟩] N Tryz.f65 a_q90 ps_q90 rs_q90 = q90 N := by kernel_rfl
def a_q91 : Ann := .lf
theorem x_q91 (N : Nat) : execF E [] N Tryz.f179 a_q91 ps_q91 rs_q91 = q91 N := by kernel_rfl
def a_q92 : Ann := .lf
theorem x_q92 (N : Nat) : execF E [⟨180, ps_bytealg_IndexByte, rs_bytealg_IndexByte, bytealg_IndexByte N⟩] N Tryz.f125 a_q92 ps_q92 rs_q92 = q92 N := by kernel_rfl
def a_q93 : Ann := (.sq .lf (.sq (.sq .lf (.sq .lf (.jn ⟨[1], [2], [.s 22], [.v (.bool) []]⟩ .lf .lf))) .lf))
theorem x_q93 (N : Nat) : execF E [⟨179, ps_q91, rs_q91, q91 N⟩, ⟨125, ps_q92, rs_q92, q92 N⟩] N Tryz.f124 a_q93 ps_q93 rs_q93 = q93 N := by kernel_rfl
def a_q94 : Ann := .lf
theorem x_q94 (N : Nat) : execF E [] N Tryz.f126 a_q94 ps_q94 rs_q94 = q94 N := by kernel_rfl
def a_q95 : Ann := (.sq .lf (.sq .lf (.sq .lf (.sq .lf (.sq .lf (.sq .lf (.sq .lf (.jn ⟨[], [], [.s 8], [.v (.slice Y2) [0]]⟩ (.sq .lf (.lp ⟨[1, 2, 7, 29], [2], [.s 8, .s 30], [.v (.slice Y2) [0], .v (.int .i64) []]⟩ (.sq .lf (.sq .lf (.sq (.sq .lf (.sq .lf (.sq .lf (.jn ⟨[1, 2, 7, 8, 9, 10, 29, 30], [30, 2], [.o 36], [.b 111 Y2 [17]]⟩ .lf .lf)))) .lf))))) .lf))))))))
theorem x_q95 (N : Nat) : execF E [⟨124, ps_q93, rs_q93, q93 N⟩, ⟨125, ps_q92, rs_q92, q92 N⟩, ⟨126, ps_q94, rs_q94, q94 N⟩] N Tryz.f66 a_q95 ps_q95 rs_q95 = q95 N := by kernel_rfl
end
end Go.Mo
end

section
/-
  The functions do what their models say. Printed by a program.
-/
namespace Go.Mo
open Go Go.W Go.Proofs
noncomputable section
set_option maxRecDepth 100000
def a_q96 : Ann := .lf
theorem x_q96 (N : Nat) : execF E [⟨77, ps_q85, rs_q85, q85 N⟩, ⟨78, ps_q86, rs_q86, q86 N⟩, ⟨79, ps_q87, rs_q87, q87 N⟩] N Tryz.f200 a_q96 ps_q96 rs_q96 = q96 N := by kernel_rfl
def a_q97 : Ann := (.sq .lf (.sq (.jn ⟨[1], [2], [.s 6], [.v (.bool) []]⟩ .lf (.sq .lf (.jn ⟨[1], [2], [.s 15], [.v (.bool) []]⟩ .lf .lf))) (.jn ⟨[1], [2], [], []⟩ (.sq .lf (.lp ⟨[1, 84], [2], [.s 85], [.v (.int .i64) []]⟩ .lf)) .lf)))
theorem x_q97 (N : Nat) : execF E [⟨98, ps_q32, rs_q32, q32 N⟩, ⟨97, ps_q14, rs_q14, q14 N⟩, ⟨200, ps_q96, rs_q96, q96 N⟩] N Tryz.f181 a_q97 ps_q97 rs_q97 = q97 N := by kernel_rfl
def a_q98 : Ann := .lf
theorem x_q98 (N : Nat) : execF E [] N Tryz.f246 a_q98 ps_q98 rs_q98 = q98 N := by kernel_rfl
def a_q99 : Ann := .lf
theorem x_q99 (N : Nat) : execF E [] N Tryz.f247 a_q99 ps_q99 rs_q99 = q99 N := by kernel_rfl
def a_bits_Mul : Ann := .lf
theorem x_bits_Mul (N : Nat) : execF E [⟨246, ps_q98, rs_q98, q98 N⟩, ⟨247, ps_q99, rs_q99, q99 N⟩] N Tryz.f224 a_bits_Mul ps_bits_Mul rs_bits_Mul = bits_Mul N := by kernel_rfl
def a_q100 : Ann := (.sq .lf (.sq .lf (.sq .lf (.sq .lf (.sq .lf (.sq .lf (.sq .lf (.sq .lf (.jn ⟨[0, 7], [], [.s 8], [.v (.int .i64) []]⟩ .lf (.sq .lf (.sq .lf (.jn ⟨[9], [], [.o 36], [.r 40 (.u8)]⟩ (.lp ⟨[7, 8, 9], [], [.s 10, .o 36], [.v (.int .i64) [], .r 40 (.u8)]⟩ .lf) .lf))))))))))))
theorem x_q100 (N : Nat) : execF E [⟨224, ps_bits_Mul, rs_bits_Mul, bits_Mul N⟩] N Tryz.f182 a_q100 ps_q100 rs_q100 = q100 N := by kernel_rfl
def a_q101 : Ann := .lf
theorem x_q101 (N : Nat) : execF E [] N Tryz.f183 a_q101 ps_q101 rs_q101 = q101 N := by kernel_rfl
def a_q102 : Ann := (.sq .lf (.sq .lf (.jn ⟨[5], [], [.o 4], [.r 4 (.u8)]⟩ (.sq .lf (.lp ⟨[5], [], [.s 0, .s 6, .o 4], [.v (.int .i64) [], .v (.int .i64) [], .r 4 (.u8)]⟩ .lf)) .lf)))
theorem x_q102 (N : Nat) : execF E [] N Tryz.f184 a_q102 ps_q102 rs_q102 = q102 N := by kernel_rfl
def a_q103 : Ann := .lf
theorem x_q103 (N : Nat) : execF E [⟨184, ps_q102, rs_q102, q102 N⟩] N Tryz.f185 a_q103 ps_q103 rs_q103 = q103 N := by kernel_rfl
def a_q104 : Ann := .lf
theorem x_q104 (N : Nat) : execF E [⟨181, ps_q97, rs_q97, q97 N⟩, ⟨56, ps_q30, rs_q30, q30 N⟩, ⟨182, ps_q100, rs_q100, q100 N⟩, ⟨183, ps_q101, rs_q101, q101 N⟩, ⟨184, ps_q102, rs_q102, q102 N⟩, ⟨185, ps_q103, rs_q103, q103 N⟩] N Tryz.f127 a_q104 ps_q104 rs_q104 = q104 N := by kernel_rfl
def a_tape_Put : Ann := (.sq .lf (.sq .lf (.sq .lf (.jn ⟨[1], [2], [.s 5], [.v (.u8) []]⟩ .lf .lf))))
theorem x_tape_Put (N : Nat) : execF E [⟨124, ps_q93, rs_q93, q93 N⟩, ⟨182, ps_q100, rs_q100, q100 N⟩] N Tryz.f128 a_tape_Put ps_tape_Put rs_tape_Put = tape_Put N := by kernel_rfl
def a_q105 : Ann := (.sq .lf (.sq .lf (.sq .lf (.sq .lf (.jn ⟨[], [], [.s 6], [.v Y8 [0]]⟩ (.sq .lf (.lp ⟨[25, 26], [], [.s 6, .s 27], [.v Y8 [0], .v (.int .i64) []]⟩ .lf)) .lf)))))
theorem x_q105 (N : Nat) : execF E [⟨127, ps_q104, rs_q104, q104 N⟩, ⟨128, ps_tape_Put, rs_tape_Put, tape_Put N⟩] N Tryz.f67 a_q105 ps_q105 rs_q105 = q105 N := by kernel_rfl
end
end Go.Mo
end

section
/-
  The functions do what their models say. Printed by a program.
-/
namespace Go.Mo
open Go Go.W Go.Proofs
noncomputable section
set_option maxRecDepth 100000
def a_q106 : Ann := (.sq .lf (.sq .lf (.sq .lf (.sq .lf (.jn ⟨[6], [], [.s 7, .o 25], [.v (.slice Y2) [0], .b 108 Y4 []]⟩ (.sq .lf (.lp ⟨[1, 6, 35, 36], [2], [.s 7, .s 37, .o 25], [.v (.slice Y2) [0], .v (.int .i64) [], .b 108 Y4 []]⟩ (.sq .lf (.sq .lf (.sq (.sq .lf (.sq .lf (.sq .lf (.sq .lf (.sq .lf (.jn ⟨[1, 6, 7, 9, 11, 35, 36, 37], [55, 39, 33, 2], [.o 25], [.b 108 Y4 []]⟩ .lf .lf)))))) .lf))))) .lf)))))
theorem x_q106 (N : Nat) : execF E [⟨13, ps_q89, rs_q89, q89 N⟩, ⟨33, ps_q69, rs_q69, q69 N⟩, ⟨65, ps_q90, rs_q90, q90 N⟩, ⟨20, ps_stl_Text, rs_stl_Text, stl_Text N⟩, ⟨66, ps_q95, rs_q95, q95 N⟩, ⟨67, ps_q105, rs_q105, q105 N⟩] N Tryz.f27 a_q106 ps_q106 rs_q106 = q106 N := by kernel_rfl
def a_q107 : Ann := (.sq .lf (.sq .lf (.jn ⟨[], [], [.s 3], [.v (.int .i64) []]⟩ (.sq .lf (.lp ⟨[6, 7], [], [.s 3, .s 8], [.v (.int .i64) [], .v (.int .i64) []]⟩ .lf)) .lf)))
theorem x_q107 (N : Nat) : execF E [] N Tryz.f192 a_q107 ps_q107 rs_q107 = q107 N := by kernel_rfl
def a_q108 : Ann := .lf
theorem x_q108 (N : Nat) : execF E [⟨192, ps_q107, rs_q107, q107 N⟩] N Tryz.f193 a_q108 ps_q108 rs_q108 = q108 N := by kernel_rfl
def a_q109 : Ann := (.sq .lf (.jn ⟨[], [], [.s 0], [.v Y8 []]⟩ (.lp ⟨[1], [], [.s 0], [.v Y8 []]⟩ .lf) .lf))
theorem x_q109 (N : Nat) : execF E [] N Tryz.f226 a_q109 ps_q109 rs_q109 = q109 N := by kernel_rfl
def a_q110 : Ann := (.sq .lf (.jn ⟨[0], [1], [], []⟩ (.lp ⟨[0, 1], [1], [], []⟩ .lf) .lf))
theorem x_q110 (N : Nat) : execF E [] N Tryz.f228 a_q110 ps_q110 rs_q110 = q110 N := by kernel_rfl
def a_q111 : Ann := .lf
theorem x_q111 (N : Nat) : execF E [] N Tryz.f263 a_q111 ps_q111 rs_q111 = q111 N := by kernel_rfl
def a_q112 : Ann := .lf
theorem x_q112 (N : Nat) : execF E [] N Tryz.f272 a_q112 ps_q112 rs_q112 = q112 N := by kernel_rfl
def a_q113 : Ann := (.sq .lf (.jn ⟨[0], [], [], []⟩ (.sq .lf (.lp ⟨[0, 6, 7, 8], [], [], []⟩ .lf)) .lf))
theorem x_q113 (N : Nat) : execF E [⟨272, ps_q112, rs_q112, q112 N⟩] N Tryz.f264 a_q113 ps_q113 rs_q113 = q113 N := by kernel_rfl
def a_q114 : Ann := (.sq .lf (.sq .lf (.sq .lf (.sq .lf (.sq .lf (.sq .lf (.sq .lf (.jn ⟨[0, 4], [], [.s 5], [.v (.int .i64) []]⟩ (.sq .lf (.lp ⟨[0, 4, 6], [], [.s 5], [.v (.int .i64) []]⟩ .lf)) (.jn ⟨[0, 4], [], [.s 5], [.v (.int .i64) []]⟩ .lf .lf)))))))))
theorem x_q114 (N : Nat) : execF E [⟨263, ps_q111, rs_q111, q111 N⟩, ⟨264, ps_q113, rs_q113, q113 N⟩] N Tryz.f249 a_q114 ps_q114 rs_q114 = q114 N := by kernel_rfl
def a_q115 : Ann := (.sq .lf (.jn ⟨[], [], [], []⟩ (.sq .lf (.lp ⟨[1, 8], [], [.o 4], [.i]⟩ .lf)) .lf))
theorem x_q115 (N : Nat) : execF E [] N Tryz.f250 a_q115 ps_q115 rs_q115 = q115 N := by kernel_rfl
def a_q116 : Ann := (.sq .lf (.jn ⟨[], [], [.s 0], [.v Y8 []]⟩ (.lp ⟨[1], [], [.s 0], [.v Y8 []]⟩ .lf) .lf))
theorem x_q116 (N : Nat) : execF E [⟨249, ps_q114, rs_q114, q114 N⟩, ⟨250, ps_q115, rs_q115, q115 N⟩] N Tryz.f229 a_q116 ps_q116 rs_q116 = q116 N := by kernel_rfl
def a_q117 : Ann := .lf
theorem x_q117 (N : Nat) : execF E [⟨226, ps_q109, rs_q109, q109 N⟩, ⟨228, ps_q110, rs_q110, q110 N⟩, ⟨229, ps_q116, rs_q116, q116 N⟩] N Tryz.f194 a_q117 ps_q117 rs_q117 = q117 N := by kernel_rfl
def a_q118 : Ann := (.sq .lf (.sq (.sq .lf (.sq .lf (.jn ⟨[0], [], [.s 7], [.v (.bool) []]⟩ .lf .lf))) .lf))
theorem x_q118 (N : Nat) : execF E [⟨161, ps_q13, rs_q13, q13 N⟩] N Tryz.f118 a_q118 ps_q118 rs_q118 = q118 N := by kernel_rfl
def a_q119 : Ann := (.sq .lf (.sq .lf (.jn ⟨[0], [], [], []⟩ .lf (.sq .lf (.jn ⟨[0], [], [], []⟩ (.sq .lf (.lp ⟨[0, 28], [], [.s 4, .o 9], [.v (.int .i64) [], .i]⟩ .lf)) (.sq .lf (.jn ⟨[], [], [], []⟩ (.sq .lf (.lp ⟨[0, 48], [], [.o 17], [.i]⟩ (.sq .lf (.sq .lf (.sq .lf (.sq .lf (.lp ⟨[0, 48, 55], [17], [.s 56], [.v (.int .i64) []]⟩ .lf))))))) .lf)))))))
theorem x_q119 (N : Nat) : execF E [⟨117, ps_q20, rs_q20, q20 N⟩, ⟨118, ps_q118, rs_q118, q118 N⟩, ⟨119, ps_q28, rs_q28, q28 N⟩] N Tryz.f60 a_q119 ps_q119 rs_q119 = q119 N := by kernel_rfl
def a_q120 : Ann := (.sq .lf (.sq .lf (.sq .lf (.sq .lf (.jn ⟨[0, 1, 5], [1], [.s 25], [.v (.bool) []]⟩ .lf .lf)))))
theorem x_q120 (N : Nat) : execF E [] N Tryz.f265 a_q120 ps_q120 rs_q120 = q120 N := by kernel_rfl
def a_q121 : Ann := .lf
theorem x_q121 (N : Nat) : execF E [⟨265, ps_q120, rs_q120, q120 N⟩] N Tryz.f251 a_q121 ps_q121 rs_q121 = q121 N := by kernel_rfl
def a_q122 : Ann := .lf
theorem x_q122 (N : Nat) : execF E [⟨239, ps_strings_Builder_copyCheck, rs_strings_Builder_copyCheck, strings_Builder_copyCheck N⟩, ⟨251, ps_q121, rs_q121, q121 N⟩] N Tryz.f230 a_q122 ps_q122 rs_q122 = q122 N := by kernel_rfl
def a_q123 : Ann := (.sq .lf (.sq .lf (.jn ⟨[4], [], [.o 4], [.b 230 (.st (.pair (.nptr) Y8)) [1]]⟩ (.lp ⟨[4], [], [.s 0, .o 4], [.v Y8 [], .b 230 (.st (.pair (.nptr) Y8)) [1]]⟩ .lf) .lf)))
theorem x_q123 (N : Nat) : execF E [⟨60, ps_q119, rs_q119, q119 N⟩, ⟨230, ps_q122, rs_q122, q122 N⟩] N Tryz.f195 a_q123 ps_q123 rs_q123 = q123 N := by kernel_rfl
def a_q124 : Ann := .lf
theorem x_q124 (N : Nat) : execF E [] N Tryz.f196 a_q124 ps_q124 rs_q124 = q124 N := by kernel_rfl
def a_q125 : Ann := (.sq .lf (.sq .lf (.sq .lf (.jn ⟨[0, 2, 4], [2], [.o 27], [.b 108 Y4 []]⟩ .lf .lf))))
theorem x_q125 (N : Nat) : execF E [⟨192, ps_q107, rs_q107, q107 N⟩, ⟨193, ps_q108, rs_q108, q108 N⟩, ⟨183, ps_q101, rs_q101, q101 N⟩, ⟨194, ps_q117, rs_q117, q117 N⟩, ⟨195, ps_q123, rs_q123, q123 N⟩, ⟨127, ps_q104, rs_q104, q104 N⟩, ⟨196, ps_q124, rs_q124, q124 N⟩] N Tryz.f134 a_q125 ps_q125 rs_q125 = q125 N := by kernel_rfl
def a_q126 : Ann := .lf
theorem x_q126 (N : Nat) : execF E [] N Tryz.f197 a_q126 ps_q126 rs_q126 = q126 N := by kernel_rfl
def a_q127 : Ann := (.sq .lf (.sq .lf (.jn ⟨[0], [], [.s 4], [.v (.int .u32) []]⟩ (.sq .lf (.lp ⟨[0], [], [.s 4, .s 5], [.v (.int .u32) [], .v (.int .i64) []]⟩ .lf)) (.sq .lf (.jn ⟨[4], [], [.s 6], [.v (.int .u32) []]⟩ (.sq .lf (.lp ⟨[4], [], [.s 6, .s 7, .s 8], [.v (.int .u32) [], .v (.int .u32) [], .v (.int .i64) []]⟩ .lf)) .lf)))))
theorem x_q127 (N : Nat) : execF E [] N Tryz.f266 a_q127 ps_q127 rs_q127 = q127 N := by kernel_rfl
def a_q128 : Ann := (.sq .lf (.sq .lf (.sq .lf (.sq .lf (.jn ⟨[0, 1, 5, 6, 7], [], [.s 8], [.v (.int .u32) []]⟩ (.sq .lf (.lp ⟨[0, 1, 5, 6, 7], [], [.s 8, .s 9], [.v (.int .u32) [], .v (.int .i64) []]⟩ .lf)) (.jn ⟨[0, 1, 5, 6, 7, 8], [], [], []⟩ .lf (.jn ⟨[], [], [], []⟩ (.sq .lf (.lp ⟨[0, 1, 5, 6, 7], [], [.s 8, .s 10], [.v (.int .u32) [], .v (.int .i64) []]⟩ .lf)) .lf)))))))
theorem x_q128 (N : Nat) : execF E [⟨266, ps_q127, rs_q127, q127 N⟩] N Tryz.f253 a_q128 ps_q128 rs_q128 = q128 N := by kernel_rfl
def a_q129 : Ann := .lf
theorem x_q129 (N : Nat) : execF E [⟨125, ps_q92, rs_q92, q92 N⟩, ⟨196, ps_q124, rs_q124, q124 N⟩, ⟨244, ps_q25, rs_q25, q25 N⟩, ⟨253, ps_q128, rs_q128, q128 N⟩] N Tryz.f231 a_q129 ps_q129 rs_q129 = q129 N := by kernel_rfl
def a_q130 : Ann := .lf
theorem x_q130 (N : Nat) : execF E [⟨231, ps_q129, rs_q129, q129 N⟩] N Tryz.f198 a_q130 ps_q130 rs_q130 = q130 N := by kernel_rfl
def a_tape_Get : Ann := .lf
theorem x_tape_Get (N : Nat) : execF E [⟨197, ps_q126, rs_q126, q126 N⟩, ⟨198, ps_q130, rs_q130, q130 N⟩, ⟨126, ps_q94, rs_q94, q94 N⟩, ⟨128, ps_tape_Put, rs_tape_Put, tape_Put N⟩, ⟨196, ps_q124, rs_q124, q124 N⟩] N Tryz.f135 a_tape_Get ps_tape_Get rs_tape_Get = tape_Get N := by kernel_rfl
def a_q131 : Ann := (.sq .lf (.sq .lf (.sq .lf (.sq .lf (.sq .lf (.sq .lf (.sq .lf (.sq .lf (.jn ⟨[2, 6], [16, 2], [.s 8], [.v (.slice Y2) [0]]⟩ (.sq .lf (.lp ⟨[0, 2, 6, 41], [16, 2], [.s 8, .s 42], [.v (.slice Y2) [0], .v (.int .i64) []]⟩ .lf)) .lf)))))))))
theorem x_q131 (N : Nat) : execF E [⟨134, ps_q125, rs_q125, q125 N⟩, ⟨135, ps_tape_Get, rs_tape_Get, tape_Get N⟩] N Tryz.f71 a_q131 ps_q131 rs_q131 = q131 N := by kernel_rfl
def a_q132 : Ann := .lf
theorem x_q132 (N : Nat) : execF E [] N Tryz.f199 a_q132 ps_q132 rs_q132 = q132 N := by kernel_rfl
end
end Go.Mo
end

section
/-
  The functions do what their models say. Printed by a program.
-/
namespace Go.Mo
open Go Go.W Go.Proofs
noncomputable section
set_option maxRecDepth 100000
def a_q133 : Ann := (.sq .lf (.sq .lf (.jn ⟨[0, 2], [2], [], []⟩ (.sq .lf (.lp ⟨[0, 2, 20, 21], [2], [.s 22], [.v (.int .i64) []]⟩ .lf)) (.sq .lf (.jn ⟨[0, 2, 8], [2], [], []⟩ (.sq .lf (.lp ⟨[0, 2, 8, 36, 37], [2], [.s 38], [.v (.int .i64) []]⟩ (.sq .lf (.sq .lf (.sq (.sq .lf (.sq .lf (.jn ⟨[0, 2, 8, 10, 36, 37, 38], [22, 2], [.s 11], [.v (.int .i64) []]⟩ .lf .lf))) .lf))))) (.sq .lf (.jn ⟨[0, 2], [2], [.s 12], [.v Y8 [0]]⟩ (.sq .lf (.lp ⟨[0, 2, 8, 62, 63], [2], [.s 12, .s 64], [.v Y8 [0], .v (.int .i64) []]⟩ (.sq .lf (.sq .lf (.sq (.sq .lf (.jn ⟨[0, 2, 8, 12, 14, 62, 63, 64], [25, 19, 2], [], []⟩ .lf .lf)) .lf))))) .lf)))))))
theorem x_q133 (N : Nat) : execF E [⟨124, ps_q93, rs_q93, q93 N⟩, ⟨199, ps_q132, rs_q132, q132 N⟩] N Tryz.f136 a_q133 ps_q133 rs_q133 = q133 N := by kernel_rfl
def a_q134 : Ann := .lf
theorem x_q134 (N : Nat) : execF E [⟨200, ps_q96, rs_q96, q96 N⟩, ⟨78, ps_q86, rs_q86, q86 N⟩, ⟨79, ps_q87, rs_q87, q87 N⟩] N Tryz.f137 a_q134 ps_q134 rs_q134 = q134 N := by kernel_rfl
def a_q135 : Ann := (.sq .lf (.jn ⟨[1, 2, 4], [4, 2], [], []⟩ (.sq .lf (.jn ⟨[1, 2, 4, 7], [4, 2], [.s 8], [.v (.bool) []]⟩ .lf .lf)) (.jn ⟨[2, 4], [4, 2], [], []⟩ (.sq .lf (.lp ⟨[1, 2, 4], [4, 2], [.s 6], [.v (.u8) []]⟩ .lf)) .lf)))
theorem x_q135 (N : Nat) : execF E [⟨54, ps_q18, rs_q18, q18 N⟩] N Tryz.f59 a_q135 ps_q135 rs_q135 = q135 N := by kernel_rfl
def a_stl_Rows : Ann := (.sq .lf (.sq .lf (.sq .lf (.sq .lf (.jn ⟨[5], [], [.s 4, .o 5], [.v (.slice (.st Y5)) [0], .b 48 (.st Y5) [0]]⟩ (.lp ⟨[5, 6], [], [.s 0, .s 4, .o 7, .o 5], [.v Y8 [], .v (.slice (.st Y5)) [0], .b 51 (.st (.pair (.u8) (.pair (.bool) (.bool)))) [], .b 48 (.st Y5) [0]]⟩ .lf) .lf)))))
theorem x_stl_Rows (N : Nat) : execF E [⟨26, ps_q83, rs_q83, q83 N⟩, ⟨59, ps_q135, rs_q135, q135 N⟩, ⟨60, ps_q119, rs_q119, q119 N⟩] N Tryz.f22 a_stl_Rows ps_stl_Rows rs_stl_Rows = stl_Rows N := by kernel_rfl
def a_q136 : Ann := .lf
theorem x_q136 (N : Nat) : execF E [⟨136, ps_q133, rs_q133, q133 N⟩, ⟨34, ps_q81, rs_q81, q81 N⟩, ⟨137, ps_q134, rs_q134, q134 N⟩, ⟨22, ps_stl_Rows, rs_stl_Rows, stl_Rows N⟩, ⟨32, ps_stl_add, rs_stl_add, stl_add N⟩, ⟨49, ps_q59, rs_q59, q59 N⟩] N Tryz.f72 a_q136 ps_q136 rs_q136 = q136 N := by kernel_rfl
def a_q137 : Ann := .lf
theorem x_q137 (N : Nat) : execF E [] N Tryz.f52 a_q137 ps_q137 rs_q137 = q137 N := by kernel_rfl
def a_q138 : Ann := .lf
theorem x_q138 (N : Nat) : execF E [] N Tryz.f232 a_q138 ps_q138 rs_q138 = q138 N := by kernel_rfl
def a_q139 : Ann := (.sq .lf (.sq .lf (.jn ⟨[3], [], [.o 4], [.r 4 (.st Y5)]⟩ (.sq .lf (.lp ⟨[3, 8], [], [.s 9, .o 4], [.v (.int .i64) [], .r 4 (.st Y5)]⟩ .lf)) .lf)))
theorem x_q139 (N : Nat) : execF E [⟨52, ps_q137, rs_q137, q137 N⟩, ⟨232, ps_q138, rs_q138, q138 N⟩] N Tryz.f201 a_q139 ps_q139 rs_q139 = q139 N := by kernel_rfl
def a_q140 : Ann := .lf
theorem x_q140 (N : Nat) : execF E [⟨201, ps_q139, rs_q139, q139 N⟩] N Tryz.f138 a_q140 ps_q140 rs_q140 = q140 N := by kernel_rfl
def a_q141 : Ann := .lf
theorem x_q141 (N : Nat) : execF E [⟨107, ps_q61, rs_q61, q61 N⟩, ⟨106, ps_q62, rs_q62, q62 N⟩] N Tryz.f140 a_q141 ps_q141 rs_q141 = q141 N := by kernel_rfl
def a_q142 : Ann := (.sq .lf (.lp ⟨[0, 1, 2, 3], [], [.s 8, .o 1], [.v (.int .i64) [], .r 4 Y1]⟩ (.sq .lf (.jn ⟨[0, 1, 2, 3, 8], [], [.o 1], [.r 4 Y1]⟩ (.sq .lf (.lp ⟨[0, 1, 2, 3, 8], [], [.s 9, .o 1], [.v (.int .i64) [], .r 4 Y1]⟩ .lf)) .lf))))
theorem x_q142 (N : Nat) : execF E [⟨140, ps_q141, rs_q141, q141 N⟩] N Tryz.f233 a_q142 ps_q142 rs_q142 = q142 N := by kernel_rfl
def a_q143 : Ann := (.sq .lf (.lp ⟨[0, 1, 2, 3], [], [.s 10, .o 1], [.v (.int .i64) [], .r 4 Y1]⟩ .lf))
theorem x_q143 (N : Nat) : execF E [⟨140, ps_q141, rs_q141, q141 N⟩] N Tryz.f267 a_q143 ps_q143 rs_q143 = q143 N := by kernel_rfl
def a_q144 : Ann := (.sq .lf (.sq .lf (.jn ⟨[0, 2, 4], [], [.s 10, .o 1], [.v (.int .i64) [], .r 4 Y1]⟩ (.lp ⟨[0, 2, 4], [], [.s 10, .s 11, .o 1], [.v (.int .i64) [], .v (.int .i64) [], .r 4 Y1]⟩ .lf) .lf)))
theorem x_q144 (N : Nat) : execF E [⟨140, ps_q141, rs_q141, q141 N⟩, ⟨267, ps_q143, rs_q143, q143 N⟩] N Tryz.f254 a_q144 ps_q144 rs_q144 = q144 N := by kernel_rfl
def a_q145 : Ann := (.jn ⟨[0, 1, 2, 3, 4], [1], [], []⟩ (.sq .lf (.sq (.sq .lf (.sq .lf (.jn ⟨[0, 1], [1], [.s 10], [.v (.int .i64) []]⟩ (.lp ⟨[0, 1, 4], [1], [.s 10, .s 11], [.v (.int .i64) [], .v (.int .i64) []]⟩ .lf) (.jn ⟨[], [], [.o 1], [.r 4 Y1]⟩ (.sq .lf (.lp ⟨[0, 10], [], [.s 13, .o 1], [.v (.int .i64) [], .r 4 Y1]⟩ .lf)) .lf)))) .lf)) (.jn ⟨[0, 1, 2, 3, 4], [1], [], []⟩ (.sq .lf (.sq (.sq .lf (.sq .lf (.jn ⟨[0, 2], [1], [.s 14], [.v (.int .i64) []]⟩ (.lp ⟨[0, 2, 4], [1], [.s 14, .s 15], [.v (.int .i64) [], .v (.int .i64) []]⟩ .lf) (.jn ⟨[], [], [.o 1], [.r 4 Y1]⟩ (.sq .lf (.lp ⟨[0, 14], [], [.s 17, .o 1], [.v (.int .i64) [], .r 4 Y1]⟩ .lf)) .lf)))) .lf)) (.sq .lf (.sq .lf (.sq .lf (.jn ⟨[0, 1, 2, 3, 4, 18, 19], [1], [.s 20, .s 21], [.v (.int .i64) [], .v (.int .i64) []]⟩ .lf (.sq .lf (.jn ⟨[0, 1, 2, 3, 4, 18, 19], [1], [.s 20], [.v (.int .i64) []]⟩ (.lp ⟨[0, 1, 2, 3, 4, 18, 19, 22], [1], [.s 20, .s 21], [.v (.int .i64) [], .v (.int .i64) []]⟩ .lf) (.sq .lf (.jn ⟨[0, 1, 3, 4, 18, 20, 24], [], [.o 1], [.r 4 Y1]⟩ .lf (.jn ⟨[0, 3, 4, 18, 24], [], [.o 1], [.r 4 Y1]⟩ .lf .lf)))))))))))
theorem x_q145 (N D : Nat) : execF E [⟨140, ps_q141, rs_q141, q141 N⟩, ⟨254, ps_q144, rs_q144, q144 N⟩, ⟨234, ps_q145, rs_q145, q145_r N D⟩] N Tryz.f234 a_q145 ps_q145 rs_q145 = q145_r N (D + 1) := by kernel_rfl
def a_q146 : Ann := (.sq .lf (.sq .lf (.jn ⟨[0, 1, 2, 6], [], [.s 7, .o 1], [.v (.int .i64) [], .r 4 Y1]⟩ (.lp ⟨[0, 1, 2, 6], [], [.s 7, .s 8, .o 1], [.v (.int .i64) [], .v (.int .i64) [], .r 4 Y1]⟩ .lf) (.sq .lf (.lp ⟨[0, 1, 2], [], [.s 6, .o 1], [.v (.int .i64) [], .r 4 Y1]⟩ (.sq .lf (.sq .lf (.jn ⟨[0, 1, 2, 6], [], [.s 7, .o 1], [.v (.int .i64) [], .r 4 Y1]⟩ (.lp ⟨[0, 1, 2, 6], [], [.s 7, .s 8, .o 1], [.v (.int .i64) [], .v (.int .i64) [], .r 4 Y1]⟩ .lf) .lf))))))))
theorem x_q146 (N : Nat) : execF E [⟨140, ps_q141, rs_q141, q141 N⟩, ⟨233, ps_q142, rs_q142, q142 N⟩, ⟨234, ps_q145, rs_q145, q145 N⟩] N Tryz.f202 a_q146 ps_q146 rs_q146 = q146 N := by kernel_rfl
def a_q147 : Ann := .lf
theorem x_q147 (N : Nat) : execF E [⟨140, ps_q141, rs_q141, q141 N⟩, ⟨202, ps_q146, rs_q146, q146 N⟩] N Tryz.f139 a_q147 ps_q147 rs_q147 = q147 N := by kernel_rfl
def a_q148 : Ann := (.sq .lf (.sq .lf (.jn ⟨[], [], [.s 3], [.v (.slice Y1) [0]]⟩ (.sq .lf (.lp ⟨[6, 7], [], [.s 3, .s 8], [.v (.slice Y1) [0], .v (.int .i64) []]⟩ .lf)) .lf)))
theorem x_q148 (N : Nat) : execF E [⟨138, ps_q140, rs_q140, q140 N⟩, ⟨139, ps_q147, rs_q147, q147 N⟩, ⟨140, ps_q141, rs_q141, q141 N⟩] N Tryz.f73 a_q148 ps_q148 rs_q148 = q148 N := by kernel_rfl
def a_q149 : Ann := (.sq .lf (.sq .lf (.sq .lf (.sq .lf (.jn ⟨[2, 5, 9], [14, 2], [.o 30], [.b 121 (.st (.pair Y3 (.int .i64))) [6, 7]]⟩ (.sq .lf (.lp ⟨[2, 5, 9], [14, 2], [.s 6, .s 10, .o 30], [.v (.slice Y2) [], .v (.int .i64) [], .b 121 (.st (.pair Y3 (.int .i64))) [6, 7]]⟩ (.sq .lf (.sq .lf (.jn ⟨[2, 5, 6, 9, 10], [30, 34, 35, 14, 2], [.s 11], [.v (.int .i64) []]⟩ (.lp ⟨[2, 5, 6, 9, 10], [30, 34, 35, 14, 2], [.s 11], [.v (.int .i64) []]⟩ .lf) .lf))))) .lf)))))
theorem x_q149 (N : Nat) : execF E [⟨71, ps_q131, rs_q131, q131 N⟩, ⟨72, ps_q136, rs_q136, q136 N⟩, ⟨65, ps_q90, rs_q90, q90 N⟩, ⟨73, ps_q148, rs_q148, q148 N⟩] N Tryz.f29 a_q149 ps_q149 rs_q149 = q149 N := by kernel_rfl
def a_q150 : Ann := .lf
theorem x_q150 (N : Nat) : execF E [] N Tryz.f40 a_q150 ps_q150 rs_q150 = q150 N := by kernel_rfl
end
end Go.Mo
end

section
/-
  The functions do what their models say. Printed by a program.
-/
namespace Go.Mo
open Go Go.W Go.Proofs
noncomputable section
set_option maxRecDepth 100000
def a_q151 : Ann := (.sq .lf (.sq .lf (.jn ⟨[], [], [], []⟩ (.sq .lf (.lp ⟨[0, 1, 12], [], [.s 13], [.v (.int .i64) []]⟩ .lf)) .lf)))
theorem x_q151 (N : Nat) : execF E [] N Tryz.f41 a_q151 ps_q151 rs_q151 = q151 N := by kernel_rfl
def a_q152 : Ann := (.sq .lf (.sq .lf (.jn ⟨[], [], [], []⟩ (.sq .lf (.lp ⟨[0, 1, 12], [], [.s 13], [.v (.int .i64) []]⟩ .lf)) .lf)))
theorem x_q152 (N : Nat) : execF E [] N Tryz.f123 a_q152 ps_q152 rs_q152 = q152 N := by kernel_rfl
def a_q153 : Ann := .lf
theorem x_q153 (N : Nat) : execF E [⟨123, ps_q152, rs_q152, q152 N⟩] N Tryz.f63 a_q153 ps_q153 rs_q153 = q153 N := by kernel_rfl
def a_q154 : Ann := (.sq .lf (.sq .lf (.jn ⟨[], [], [], []⟩ (.sq .lf (.lp ⟨[1, 2, 15, 16], [], [.s 17], [.v (.int .i64) []]⟩ .lf)) .lf)))
theorem x_q154 (N : Nat) : execF E [⟨63, ps_q153, rs_q153, q153 N⟩] N Tryz.f62 a_q154 ps_q154 rs_q154 = q154 N := by kernel_rfl
def a_q155 : Ann := .lf
theorem x_q155 (N : Nat) : execF E [⟨62, ps_q154, rs_q154, q154 N⟩, ⟨63, ps_q153, rs_q153, q153 N⟩] N Tryz.f25 a_q155 ps_q155 rs_q155 = q155 N := by kernel_rfl
def a_q156 : Ann := .lf
theorem x_q156 (N : Nat) : execF E [⟨25, ps_q155, rs_q155, q155 N⟩] N Tryz.f43 a_q156 ps_q156 rs_q156 = q156 N := by kernel_rfl
def a_q157 : Ann := (.sq .lf (.sq .lf (.jn ⟨[], [], [], []⟩ (.sq .lf (.lp ⟨[1, 2, 15, 16], [], [.s 17], [.v (.int .i64) []]⟩ .lf)) .lf)))
theorem x_q157 (N : Nat) : execF E [⟨43, ps_q156, rs_q156, q156 N⟩] N Tryz.f42 a_q157 ps_q157 rs_q157 = q157 N := by kernel_rfl
def a_q158 : Ann := (.sq .lf (.sq .lf (.jn ⟨[], [], [], []⟩ (.sq .lf (.lp ⟨[0, 1, 12], [], [.s 13], [.v (.int .i64) []]⟩ .lf)) .lf)))
theorem x_q158 (N : Nat) : execF E [] N Tryz.f44 a_q158 ps_q158 rs_q158 = q158 N := by kernel_rfl
def a_q159 : Ann := .lf
theorem x_q159 (N : Nat) : execF E [⟨40, ps_q150, rs_q150, q150 N⟩, ⟨41, ps_q151, rs_q151, q151 N⟩, ⟨42, ps_q157, rs_q157, q157 N⟩, ⟨43, ps_q156, rs_q156, q156 N⟩, ⟨44, ps_q158, rs_q158, q158 N⟩] N Tryz.f15 a_q159 ps_q159 rs_q159 = q159 N := by kernel_rfl
def a_l24_StlCarries : Ann := .lf
theorem x_l24_StlCarries (N : Nat) : execF E [⟨11, ps_l24_awake, rs_l24_awake, l24_awake N⟩, ⟨12, ps_l24_few, rs_l24_few, l24_few N⟩, ⟨27, ps_q106, rs_q106, q106 N⟩, ⟨29, ps_q149, rs_q149, q149 N⟩, ⟨16, ps_q84, rs_q84, q84 N⟩, ⟨15, ps_q159, rs_q159, q159 N⟩] N Tryz.f10 a_l24_StlCarries ps_l24_StlCarries rs_l24_StlCarries = l24_StlCarries N := by kernel_rfl
end
end Go.Mo
end
