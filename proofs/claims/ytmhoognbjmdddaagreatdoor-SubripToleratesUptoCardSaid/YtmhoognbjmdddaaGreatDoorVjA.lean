/-
  Texts put together, in build order: WE WM WB WV WS WH WXa WXb WXc WK.
-/
import Derived.Test.YtmhoognbjmdddaaGreatDoorYC
import Derived.Test.YtmhoognbjmdddaaGreatDoorProg
import Derived.KernelRfl
import GoSem.PinnedTables
import Derived.Test.YtmhoognbjmdddaaGreatDoorChecked
import Derived.Lib.UnsafeStr
import Derived.Lib.Builder
import Derived.Lib.Walk
import Derived.WalkKit
import Derived.Laws.Externs
import Derived.OrdersHeld
import Derived.Shelf.Unicode.ValidAny
import Derived.Shelf.Strings.Search3
import Derived.Shelf.Strings.Replace
import Derived.Shelf.Strconv.Itoa3
import Derived.Lib.AppendIntMem
import Derived.Shelf.Strings.IndexAnyAll
set_option linter.all false

section
/-
  The table of types of this program, as the machine on plain values sees them, and the package variables that are known.
-/
namespace Go.Mo
open Go Go.W Go.Proofs
noncomputable section
abbrev Y7 : Ty := .st (.pair (.u8) (.pair (.bool) (.bool)))
abbrev Y3 : Ty := .slice (.st (.pair (.str) (.pair Y7 (.str))))
abbrev Y1 : Ty := .st (.pair (.int .i64) (.pair (.st (.pair (.int .i64) (.int .i64))) (.pair (.str) (.pair (.u8) (.pair (.str) (.slice (.st Y3)))))))
abbrev Y4 : Ty := .st (.pair (.str) (.pair (.int .i64) (.pair (.int .i64) (.pair (.int .i64) (.pair (.int .i64) (.pair (.u8) (.bool)))))))
abbrev Y6 : Ty := .st (.pair (.int .i64) (.pair (.int .i64) (.pair (.int .i64) (.pair (.int .i64) (.pair (.str) (.pair (.str) (.pair (.bool) (.bool))))))))
abbrev Y2 : Ty := .st (.pair (.str) (.pair (.str) (.pair (.u8) (.pair (.bool) (.pair (.int .i64) (.pair (.slice Y4) (.pair (.slice Y1) (.slice Y6))))))))
abbrev Y5 : Ty := .st (.pair (.int .i64) (.pair (.int .i64) (.int .i64)))
def tt : List (Option Ty) := [none,
 none,
 some (.int .i64),
 some (.int .i64),
 some (.bool),
 some (.u8),
 none,
 none,
 none,
 some (.str),
 none,
 none,
 some (.int .u64),
 none,
 none,
 some (.nptr),
 some (.nptr),
 some (.nptr),
 none,
 none,
 some (.nif),
 some (.int .i32),
 none,
 some (.int .i64),
 none,
 none,
 none,
 none,
 none,
 some Y3,
 some (.st Y3),
 some (.st Y3),
 none,
 none,
 none,
 none,
 some (.u8),
 some Y7,
 some Y7,
 some (.st (.pair (.str) (.pair Y7 (.str)))),
 some (.st (.pair (.str) (.pair Y7 (.str)))),
 none,
 none,
 some (.u8),
 some (.slice Y4),
 some (.slice Y1),
 some (.slice Y6),
 some Y2,
 some Y2,
 none,
 none,
 none,
 none,
 some (.slice Y5),
 none,
 none,
 none,
 none,
 some Y5,
 some Y5,
 none,
 none,
 none,
 none,
 some (.slice (.str)),
 none,
 none,
 none,
 none,
 some (.st (.pair (.int .i64) (.int .i64))),
 some (.st (.pair (.int .i64) (.int .i64))),
 some (.u8),
 some (.slice (.st Y3)),
 some Y1,
 some Y1,
 none,
 none,
 none,
 none,
 none,
 none,
 some (.nptr),
 some (.slice (.u8)),
 some (.st (.pair (.nptr) (.slice (.u8)))),
 some (.st (.pair (.nptr) (.slice (.u8)))),
 some (.nif),
 some (.nif),
 none,
 none,
 none,
 none,
 none,
 none,
 none,
 none,
 none,
 some (.nptr),
 some (.st (.pair (.u8) (.pair Y2 (.slice Y5)))),
 some (.st (.pair (.u8) (.pair Y2 (.slice Y5)))),
 none,
 none,
 none,
 some (.slice (.slice (.st (.pair (.str) (.int .i64))))),
 none,
 some (.slice (.st (.pair (.str) (.int .i64)))),
 none,
 none,
 some (.st (.pair (.str) (.pair (.str) (.pair (.u8) (.pair (.bool) (.int .i64)))))),
 some (.st (.pair (.str) (.pair (.str) (.pair (.u8) (.pair (.bool) (.int .i64)))))),
 none,
 none,
 some (.u8),
 some Y4,
 some Y4,
 none,
 none,
 none,
 some Y6,
 some Y6,
 none,
 none,
 none,
 none,
 none,
 none,
 none,
 none,
 none,
 none,
 none,
 none,
 none,
 some (.nptr),
 none,
 none,
 none,
 some (.st (.pair (.str) (.pair (.int .i64) (.pair (.int .i64) (.bool))))),
 some (.st (.pair (.str) (.pair (.int .i64) (.pair (.int .i64) (.bool))))),
 none,
 none,
 none,
 none,
 none,
 none,
 none,
 none,
 none,
 some (.st (.pair (.str) (.int .i64))),
 some (.st (.pair (.str) (.int .i64))),
 none,
 none,
 none,
 none,
 none,
 none,
 none,
 some (.slice Y5),
 none,
 none,
 some (.slice (.int .i64)),
 none,
 none,
 none,
 none,
 none,
 none,
 none,
 some (.int .u64),
 none,
 none,
 none,
 none,
 some (.arr 256 (.bool)),
 some (.arr 256 (.bool)),
 none,
 none,
 none,
 none,
 none,
 none,
 some (.u8),
 some (.int .u64),
 some (.arr 8 (.st (.pair (.str) (.pair (.int .i64) (.pair (.int .i64) (.bool)))))),
 none,
 none,
 none,
 none,
 none,
 none,
 none,
 none,
 none,
 some Y5,
 some Y5,
 none,
 some (.int .u32),
 none,
 none,
 none,
 some (.arr 256 (.u8)),
 some (.st (.pair (.u8) (.u8))),
 some (.st (.pair (.u8) (.u8))),
 some (.arr 16 (.st (.pair (.u8) (.u8)))),
 none,
 none,
 some (.nptr),
 none,
 none,
 none,
 none,
 none,
 none,
 none,
 some (.arr 24 (.u8)),
 none,
 none,
 none,
 none,
 none,
 none,
 some (.slice (.int .i64)),
 some (.slice (.int .i32)),
 none,
 none,
 some (.arr 20 (.int .u64)),
 some (.arr 65 (.u8)),
 none,
 none,
 some (.arr 32 (.u8)),
 some (.arr 64 (.u8)),
 none,
 none,
 none,
 none,
 none,
 none,
 none,
 none,
 none,
 none,
 none,
 none]
def gl1 : List UInt8 := Go.Pinned.utf8FirstZ.map fun n => UInt8.ofNat n
def gl2 : List (UInt8 × UInt8) := [(128, 191), (160, 191), (128, 159), (144, 191), (128, 143), (0, 0), (0, 0), (0, 0), (0, 0), (0, 0), (0, 0), (0, 0), (0, 0), (0, 0), (0, 0), (0, 0)]
def gl3 : List Int := [1, 10, 100, 1000, 10000, 100000, 1000000, 10000000, 100000000, 1000000000, 10000000000, 100000000000, 1000000000000, 10000000000000, 100000000000000, 1000000000000000, 10000000000000000, 100000000000000000, 1000000000000000000, 10000000000000000000]
noncomputable def E : Env := ⟨Tryz.prog, tt, [(1, ⟨.arr 256 (.u8), gl1⟩), (2, ⟨.arr 16 (.st (.pair (.u8) (.u8))), gl2⟩), (3, ⟨.arr 20 (.int .u64), gl3⟩)], some 180, some (50, 84), [0]⟩
set_option maxRecDepth 100000 in
theorem chk : chkAll E 0 E.ty = true := by kernel_rfl
theorem mixed : E.P.follows .mixedOrders = true := by kernel_rfl
end
end Go.Mo
end

section
/-
  What the functions of the program compute, on plain values. Printed by a program.
-/
namespace Go.Mo
open Go Go.W
noncomputable section
abbrev D2 := (List UInt8) × (UInt8 × Bool × Bool) × List UInt8
abbrev D1 := Int × (Int × Int) × (List UInt8) × UInt8 × (List UInt8) × List (List D2)
abbrev D4 := (List UInt8) × Int × Int × Int × Int × UInt8 × Bool
abbrev D5 := Int × Int × Int × Int × (List UInt8) × (List UInt8) × Bool × Bool
abbrev D3 := (List UInt8) × (List UInt8) × UInt8 × Bool × Int × (List D4) × (List D1) × List D5
abbrev D6 := Int × Int × Int
def ps_utf8_ValidString : List PK := [.k (.v (.str) [])]
def rs_utf8_ValidString : List Kd := [.v (.bool) []]
def utf8_ValidString (N : Nat) (x : List UInt8) : Option (Bool) := hand_utf8_ValidString N x
def ps_q11 : List PK := [.k (.v (.str) []), .k (.v (.int .i32) [])]
def rs_q11 : List Kd := [.v (.int .i64) []]
def q11 (N : Nat) (x : List UInt8 × Int) : Option (Int) :=
 jn (fun (v0 : Unit) =>
  some (-1))
 fun v1 =>
 fixN (fun v2 (v3 : Int × (List UInt8) × Int) =>
  cnd (nlt (toN v3.2.2) (nlen v3.2.1))
   (cnd (ieq (decR v3.2.1 (toN v3.2.2)) x.2)
    (some v3.1)
    (v2 (w64 (iadd v3.1 1), v3.2.1, ofN (nadd (toN v3.2.2) (decW v3.2.1 (toN v3.2.2))))))
   (v1 ())) N (0, x.1, ofN 0)
def ps_q12 : List PK := [.k (.v (.int .i32) [])]
def rs_q12 : List Kd := [.v (.int .i64) []]
def q12 (N : Nat) (x : Int) : Option (Int) :=
 cnd (ile 32 x)
  (cnd (ile x 126)
   (some (w64 (wr .i32 (isub x 32))))
   (bnd (q11 N (([32, 33, 34, 35, 36, 37, 38, 39, 40, 41, 42, 43, 44, 45, 46, 47, 48, 49, 50, 51, 52, 53, 54, 55, 56, 57, 58, 59, 60, 61, 62, 63, 64, 65, 66, 67, 68, 69, 70, 71, 72, 73, 74, 75, 76, 77, 78, 79, 80, 81, 82, 83, 84, 85, 86, 87, 88, 89, 90, 91, 92, 93, 94, 95, 96, 97, 98, 99, 100, 101, 102, 103, 104, 105, 106, 107, 108, 109, 110, 111, 112, 113, 114, 115, 116, 117, 118, 119, 120, 121, 122, 123, 124, 125, 126, 194, 161, 194, 162, 194, 163, 194, 164, 194, 165, 194, 166, 194, 167, 194, 169, 194, 171, 194, 174, 194, 176, 194, 183, 194, 187, 194, 189, 194, 191, 195, 128, 195, 129, 195, 130, 195, 131, 195, 132, 195, 133, 195, 134, 195, 135, 195, 136, 195, 137, 195, 138, 195, 139, 195, 140, 195, 141, 195, 142, 195, 143, 195, 145, 195, 146, 195, 147, 195, 148, 195, 149, 195, 150, 195, 152, 195, 153, 195, 154, 195, 155, 195, 156, 195, 159, 195, 160, 195, 161, 195, 162, 195, 163, 195, 164, 195, 165, 195, 166, 195, 167, 195, 168, 195, 169, 195, 170, 195, 171, 195, 172, 195, 173, 195, 174, 195, 175, 195, 177, 195, 178, 195, 179, 195, 180, 195, 181, 195, 182, 195, 184, 195, 185, 195, 186, 195, 187, 195, 188, 197, 146, 197, 147, 226, 128, 148, 226, 128, 152, 226, 128, 153, 226, 128, 156, 226, 128, 157, 226, 128, 162, 226, 128, 166, 226, 132, 162, 226, 153, 170] : List UInt8), x)) fun v0 =>
   some v0))
  (bnd (q11 N (([32, 33, 34, 35, 36, 37, 38, 39, 40, 41, 42, 43, 44, 45, 46, 47, 48, 49, 50, 51, 52, 53, 54, 55, 56, 57, 58, 59, 60, 61, 62, 63, 64, 65, 66, 67, 68, 69, 70, 71, 72, 73, 74, 75, 76, 77, 78, 79, 80, 81, 82, 83, 84, 85, 86, 87, 88, 89, 90, 91, 92, 93, 94, 95, 96, 97, 98, 99, 100, 101, 102, 103, 104, 105, 106, 107, 108, 109, 110, 111, 112, 113, 114, 115, 116, 117, 118, 119, 120, 121, 122, 123, 124, 125, 126, 194, 161, 194, 162, 194, 163, 194, 164, 194, 165, 194, 166, 194, 167, 194, 169, 194, 171, 194, 174, 194, 176, 194, 183, 194, 187, 194, 189, 194, 191, 195, 128, 195, 129, 195, 130, 195, 131, 195, 132, 195, 133, 195, 134, 195, 135, 195, 136, 195, 137, 195, 138, 195, 139, 195, 140, 195, 141, 195, 142, 195, 143, 195, 145, 195, 146, 195, 147, 195, 148, 195, 149, 195, 150, 195, 152, 195, 153, 195, 154, 195, 155, 195, 156, 195, 159, 195, 160, 195, 161, 195, 162, 195, 163, 195, 164, 195, 165, 195, 166, 195, 167, 195, 168, 195, 169, 195, 170, 195, 171, 195, 172, 195, 173, 195, 174, 195, 175, 195, 177, 195, 178, 195, 179, 195, 180, 195, 181, 195, 182, 195, 184, 195, 185, 195, 186, 195, 187, 195, 188, 197, 146, 197, 147, 226, 128, 148, 226, 128, 152, 226, 128, 153, 226, 128, 156, 226, 128, 157, 226, 128, 162, 226, 128, 166, 226, 132, 162, 226, 153, 170] : List UInt8), x)) fun v1 =>
  some v1)
def ps_q13 : List PK := [.k (.v (.str) [])]
def rs_q13 : List Kd := [.v (.bool) []]
def q13 (N : Nat) (x : List UInt8) : Option (Bool) :=
 bnd (utf8_ValidString N x) fun v0 =>
 cnd (bnot v0)
  (some false)
  (jn (fun (v1 : Unit) =>
   some true)
  fun v2 =>
  fixN (fun v3 (v4 : (List UInt8) × Int) =>
   cnd (nlt (toN v4.2) (nlen v4.1))
    (bnd (q12 N (decR v4.1 (toN v4.2))) fun v5 =>
    cnd (ilt v5 0)
     (some false)
     (v3 (v4.1, ofN (nadd (toN v4.2) (decW v4.1 (toN v4.2))))))
    (v2 ())) N (x, ofN 0))
def ps_q14 : List PK := [.k (.v (.str) [])]
def rs_q14 : List Kd := [.v (.bool) []]
def q14 (N : Nat) (x : List UInt8) : Option (Bool) :=
 cnd (ilt (len x) 1)
  (some false)
  (cnd (ilt 16 (len x))
   (some false)
   (grd (inb 0 (len x))
    (cnd (ilt (n8 (lget x (toN 0) 0)) (n8 65))
     (some false)
     (grd (inb 0 (len x))
      (cnd (ilt (n8 90) (n8 (lget x (toN 0) 0)))
       (some false)
       (jn (fun (v0 : Unit) =>
        some true)
       fun v1 =>
       fixN (fun v2 (v3 : Int) =>
        cnd (ilt v3 (len x))
         (jn (fun (v4 : Unit) =>
          v2 (w64 (iadd v3 1)))
         fun v5 =>
         grd (inb v3 (len x)) <|
         cnd (ilt (n8 (lget x (toN v3) 0)) (n8 65))
          (cnd (ilt (n8 (lget x (toN v3) 0)) (n8 48))
           (cnd (ine (n8 (lget x (toN v3) 0)) (n8 95))
            (cnd (ine (n8 (lget x (toN v3) 0)) (n8 45))
             (some false)
             (v5 ()))
            (v5 ()))
           (cnd (ilt (n8 57) (n8 (lget x (toN v3) 0)))
            (cnd (ine (n8 (lget x (toN v3) 0)) (n8 95))
             (cnd (ine (n8 (lget x (toN v3) 0)) (n8 45))
              (some false)
              (v5 ()))
             (v5 ()))
            (v5 ())))
          (cnd (ilt (n8 90) (n8 (lget x (toN v3) 0)))
           (cnd (ilt (n8 (lget x (toN v3) 0)) (n8 48))
            (cnd (ine (n8 (lget x (toN v3) 0)) (n8 95))
             (cnd (ine (n8 (lget x (toN v3) 0)) (n8 45))
              (some false)
              (v5 ()))
             (v5 ()))
            (cnd (ilt (n8 57) (n8 (lget x (toN v3) 0)))
             (cnd (ine (n8 (lget x (toN v3) 0)) (n8 95))
              (cnd (ine (n8 (lget x (toN v3) 0)) (n8 45))
               (some false)
               (v5 ()))
              (v5 ()))
             (v5 ())))
           (v5 ())))
         (v1 ())) N 0))))))
def ps_q15 : List PK := [.k (.v (.u8) [])]
def rs_q15 : List Kd := [.v (.st (.pair (.str) (.pair (.int .i64) (.pair (.int .i64) (.bool))))) []]
def q15 (N : Nat) (x : UInt8) : Option ((List UInt8) × Int × Int × Bool) :=
 grd (ieq (len (lrep 8 (([] : List UInt8), 0, 0, false))) (ofN 8)) <|
 cnd (ile 8 (w64 (n8 x)))
  (some (([] : List UInt8), 0, 0, false))
  (grd (inb (n8 x) (ofN 8))
   (grd (ilt (n8 x) (len ([(([] : List UInt8), 0, 0, false), (([50, 51, 46, 57, 55, 54] : List UInt8), 5005, 24, false), (([50, 52] : List UInt8), 5000, 24, false), (([50, 53] : List UInt8), 4800, 25, false), (([50, 57, 46, 57, 55] : List UInt8), 4004, 30, true), (([51, 48] : List UInt8), 4000, 30, false), (([53, 48] : List UInt8), 2400, 50, false), (([53, 57, 46, 57, 52] : List UInt8), 2002, 60, true)] : List ((List UInt8) × Int × Int × Bool))))
    (some (lget ([(([] : List UInt8), 0, 0, false), (([50, 51, 46, 57, 55, 54] : List UInt8), 5005, 24, false), (([50, 52] : List UInt8), 5000, 24, false), (([50, 53] : List UInt8), 4800, 25, false), (([50, 57, 46, 57, 55] : List UInt8), 4004, 30, true), (([51, 48] : List UInt8), 4000, 30, false), (([53, 48] : List UInt8), 2400, 50, false), (([53, 57, 46, 57, 52] : List UInt8), 2002, 60, true)] : List ((List UInt8) × Int × Int × Bool)) (toN (n8 x)) ([], (0, (0, false)))))))
def ps_q16 : List PK := [.k (.v (.u8) [])]
def rs_q16 : List Kd := [.v (.bool) []]
def q16 (N : Nat) (x : UInt8) : Option (Bool) :=
 bnd (q15 N x) fun v0 =>
 some (ilt 0 v0.2.1)
def ps_q17 : List PK := [.k (.v (.u8) [])]
def rs_q17 : List Kd := [.v (.bool) []]
def q17 (N : Nat) (x : UInt8) : Option (Bool) :=
 bnd (q15 N x) fun v0 =>
 some v0.2.2.2
def ps_q18 : List PK := [.k (.v (.u8) []), .k (.v (.bool) [])]
def rs_q18 : List Kd := [.v (.int .i64) []]
def q18 (N : Nat) (x : UInt8 × Bool) : Option (Int) :=
 bnd (q16 N x.1) fun v0 =>
 cnd (bnot v0)
  (some 13)
  (cnd x.2
   (bnd (q17 N x.1) fun v1 =>
   cnd (bnot v1)
    (some 13)
    (some 0))
   (some 0))
def ps_q19 : List PK := [.k (.v Y2 [])]
def rs_q19 : List Kd := [.v (.int .i64) []]
def q19 (N : Nat) (x : D3) : Option (Int) :=
 jn (fun (v0 : Unit) =>
  bnd (q18 N (x.2.2.1, x.2.2.2.1)) fun v1 =>
  cnd (ine v1 0)
   (some v1)
   (cnd (ilt x.2.2.2.2.1 0)
    (some 2)
    (cnd (ilt 1099511627776 x.2.2.2.2.1)
     (some 2)
     (some 0))))
 fun v2 =>
 bnd (q13 N x.1) fun v3 =>
 cnd (bnot v3)
  (some 10)
  (cnd (ilt 400 (len x.1))
   (some 9)
   (cnd (sne x.2.1 ([] : List UInt8))
    (bnd (q14 N x.2.1) fun v4 =>
    cnd (bnot v4)
     (some 5)
     (v2 ()))
    (v2 ())))
def ps_q20 : List PK := [.k (.v (.int .i64) []), .k (.v (.int .i64) []), .k (.v (.int .i64) [])]
def rs_q20 : List Kd := [.v (.bool) []]
def q20 (N : Nat) (x : D6) : Option (Bool) :=
 cnd (ile x.2.1 x.1)
  (some (ile x.1 x.2.2))
  (some false)
def ps_q21 : List PK := [.k (.v Y4 [])]
def rs_q21 : List Kd := [.v (.int .i64) []]
def q21 (N : Nat) (x : D4) : Option (Int) :=
 bnd (q14 N x.1) fun v0 =>
 cnd (bnot v0)
  (some 5)
  (bnd (q20 N (x.2.1, 0, 14)) fun v1 =>
  cnd (bnot v1)
   (some 2)
   (bnd (q20 N (x.2.2.1, 1, w64 (isub 15 x.2.1))) fun v2 =>
   cnd (bnot v2)
    (some 2)
    (bnd (q20 N (x.2.2.2.1, 0, 31)) fun v3 =>
    cnd (bnot v3)
     (some 2)
     (bnd (q20 N (x.2.2.2.2.1, 1, w64 (isub 32 x.2.2.2.1))) fun v4 =>
     cnd (bnot v4)
      (some 2)
      (cnd (ilt (n8 x.2.2.2.2.2.1) (n8 1))
       (some 3)
       (cnd (ilt (n8 3) (n8 x.2.2.2.2.2.1))
        (some 3)
        (some 0)))))))
def ps_q22 : List PK := [.k (.v (.slice Y4) [])]
def rs_q22 : List Kd := [.v (.int .i64) []]
def q22 (N : Nat) (x : List D4) : Option (Int) :=
 cnd (ilt 16 (len x))
  (some 9)
  (jn (fun (v0 : Unit) =>
   some 0)
  fun v1 =>
  fixN (fun v2 (v3 : Int) =>
   cnd (ilt v3 (len x))
    (grd (inb v3 (len x))
     (bnd (q21 N (lget x (toN v3) ([], (0, (0, (0, (0, (0, false)))))))) fun v4 =>
     cnd (ine v4 0)
      (some v4)
      (jn (fun (v5 : Unit) =>
       cnd (ilt 0 v3)
        (grd (inb (w64 (isub v3 1)) (len x))
         (cnd (slt (lget x (toN v3) ([], (0, (0, (0, (0, (0, false))))))).1 (lget x (toN (w64 (isub v3 1))) ([], (0, (0, (0, (0, (0, false))))))).1)
          (some 8)
          (v2 (w64 (iadd v3 1)))))
        (v2 (w64 (iadd v3 1))))
      fun v6 =>
      cnd (ilt 0 v3)
       (grd (inb (w64 (isub v3 1)) (len x))
        (cnd (seq (lget x (toN v3) ([], (0, (0, (0, (0, (0, false))))))).1 (lget x (toN (w64 (isub v3 1))) ([], (0, (0, (0, (0, (0, false))))))).1)
         (some 7)
         (v6 ())))
       (v6 ()))))
    (v1 ())) N 0)
def ps_q23 : List PK := []
def rs_q23 : List Kd := [.v Y4 []]
def q23 (N : Nat) (x : Unit) : Option D4 :=
 some (([] : List UInt8), 11, 4, 0, 32, 2, true)
def ps_q24 : List PK := [.k (.v (.slice Y4) []), .k (.v (.str) [])]
def rs_q24 : List Kd := [.v Y4 [], .v (.bool) []]
def q24 (N : Nat) (x : (List D4) × List UInt8) : Option (D4 × Bool) :=
 cnd (seq x.2 ([] : List UInt8))
  (bnd (q23 N ()) fun v0 =>
  some (v0, true))
  (jn (fun (v1 : Unit) =>
   some ((([] : List UInt8), 0, 0, 0, 0, 0, false), false))
  fun v2 =>
  fixN (fun v3 (v4 : Int) =>
   cnd (ilt v4 (len x.1))
    (grd (inb v4 (len x.1))
     (cnd (seq (lget x.1 (toN v4) ([], (0, (0, (0, (0, (0, false))))))).1 x.2)
      (some (lget x.1 (toN v4) ([], (0, (0, (0, (0, (0, false)))))), true))
      (v3 (w64 (iadd v4 1)))))
    (v2 ())) N 0)
def ps_q25 : List PK := [.k (.v (.st (.pair (.int .i64) (.int .i64))) [])]
def rs_q25 : List Kd := [.v (.bool) []]
def q25 (N : Nat) (x : Int × Int) : Option (Bool) :=
 cnd (ile 0 x.1)
  (cnd (ilt x.1 x.2)
   (some (ile x.2 5184000))
   (some false))
  (some false)
def ps_q26 : List PK := []
def rs_q26 : List Kd := [.v (.slice (.str)) [0]]
def q26 (N : Nat) (x : Unit) : Option (List (List UInt8)) :=
 some ([([68, 73, 65, 76, 79, 71, 85, 69] : List UInt8), ([83, 79, 85, 78, 68] : List UInt8), ([84, 73, 84, 76, 69] : List UInt8), ([77, 85, 83, 73, 67] : List UInt8)] : List (List UInt8))
def ps_q27 : List PK := [.k (.v (.u8) [])]
def rs_q27 : List Kd := [.v (.str) []]
def q27 (N : Nat) (x : UInt8) : Option (List UInt8) :=
 cnd (ilt (n8 x) (n8 1))
  (some ([] : List UInt8))
  (cnd (ilt (n8 4) (n8 x))
   (some ([] : List UInt8))
   (bnd (q26 N ()) fun v0 =>
   grd (inb (n8 (b8 (isub (n8 x) (n8 1)))) (len v0)) <|
   some (lget v0 (toN (n8 (b8 (isub (n8 x) (n8 1))))) [])))
def ps_q28 : List PK := [.k (.v Y7 [])]
def rs_q28 : List Kd := [.v (.bool) []]
def q28 (N : Nat) (x : UInt8 × Bool × Bool) : Option (Bool) :=
 some (ile (n8 x.1) (n8 6))
def ps_q29 : List PK := [.k (.v (.st (.pair (.str) (.pair Y7 (.str)))) []), .k (.v (.st (.pair (.str) (.pair Y7 (.str)))) [])]
def rs_q29 : List Kd := [.v (.bool) []]
def q29 (N : Nat) (x : D2 × (List UInt8) × (UInt8 × Bool × Bool) × List UInt8) : Option (Bool) :=
 cnd (band (ieq (n8 x.1.2.1.1) (n8 x.2.2.1.1)) (band (beqb x.1.2.1.2.1 x.2.2.1.2.1) (beqb x.1.2.1.2.2 x.2.2.1.2.2)))
  (cnd (seq x.1.2.2 ([] : List UInt8))
   (some (seq x.2.2.2 ([] : List UInt8)))
   (some false))
  (some false)
def ps_q30 : List PK := [.k (.v (.st Y3) [])]
def rs_q30 : List Kd := [.v (.int .i64) []]
def q30 (N : Nat) (x : List D2) : Option (Int) :=
 cnd (ilt 16 (len x))
  (some 9)
  (jn (fun (v0 : Unit) =>
   some 0)
  fun v1 =>
  fixN (fun v2 (v3 : Int) =>
   cnd (ilt v3 (len x))
    (grd (inb v3 (len x))
     (bnd (q13 N (lget x (toN v3) ([], ((0, (false, false)), []))).1) fun v4 =>
     cnd (bnot v4)
      (some 10)
      (cnd (seq (lget x (toN v3) ([], ((0, (false, false)), []))).1 ([] : List UInt8))
       (some 4)
       (bnd (q28 N (lget x (toN v3) ([], ((0, (false, false)), []))).2.1) fun v5 =>
       cnd (bnot v5)
        (some 12)
        (bnd (q13 N (lget x (toN v3) ([], ((0, (false, false)), []))).2.2) fun v6 =>
        cnd (bnot v6)
         (some 10)
         (cnd (ilt 0 v3)
          (grd (inb (w64 (isub v3 1)) (len x))
           (bnd (q29 N (lget x (toN (w64 (isub v3 1))) ([], ((0, (false, false)), [])), lget x (toN v3) ([], ((0, (false, false)), [])))) fun v7 =>
           cnd v7
            (some 8)
            (v2 (w64 (iadd v3 1)))))
          (v2 (w64 (iadd v3 1)))))))))
    (v1 ())) N 0)
def ps_strings_Builder_copyCheck : List PK := [.k (.b 84 (.st (.pair (.nptr) (.slice (.u8)))) [1])]
def rs_strings_Builder_copyCheck : List Kd := []
def strings_Builder_copyCheck (N : Nat) (x : Unit × List UInt8) : Option (Unit × List UInt8) := hand_strings_Builder_copyCheck N x
def ps_q31 : List PK := [.k (.b 84 (.st (.pair (.nptr) (.slice (.u8)))) [1]), .k (.v (.str) [])]
def rs_q31 : List Kd := [.v (.int .i64) [], .v (.nif) []]
def q31 (N : Nat) (x : (Unit × List UInt8) × List UInt8) : Option (Int × Unit × Unit × List UInt8) :=
 bnd (strings_Builder_copyCheck N ((), x.1.2)) fun v0 =>
 grd (room (iadd (len v0.2) (len x.2)) 1) <|
 some (len x.2, (), (), lapp v0.2 x.2)
def ps_q32 : List PK := [.k (.v (.st Y3) [])]
def rs_q32 : List Kd := [.v (.str) []]
def q32 (N : Nat) (x : List D2) : Option (List UInt8) :=
 jn (fun (v0 : Unit × List UInt8) =>
  some v0.2)
 fun v1 =>
 fixN (fun v2 (v3 : Int × Unit × List UInt8) =>
  cnd (ilt v3.1 (len x))
   (grd (inb v3.1 (len x))
    (bnd (q31 N (((), v3.2.2), (lget x (toN v3.1) ([], ((0, (false, false)), []))).1)) fun v4 =>
    v2 (w64 (iadd v3.1 1), (), v4.2.2.2)))
   (v1 ((), v3.2.2))) N (0, (), ([] : List UInt8))
def ps_strings_Contains : List PK := [.k (.v (.str) []), .k (.v (.str) [])]
def rs_strings_Contains : List Kd := [.v (.bool) []]
def strings_Contains (N : Nat) (x : List UInt8 × List UInt8) : Option (Bool) := hand_strings_Contains N x
def ps_q33 : List PK := [.k (.v (.str) [])]
def rs_q33 : List Kd := [.v (.int .i64) []]
def q33 (N : Nat) (x : List UInt8) : Option (Int) :=
 jn (fun (v0 : Int) =>
  some v0)
 fun v1 =>
 fixN (fun v2 (v3 : Int × (List UInt8) × Int) =>
  cnd (nlt (toN v3.2.2) (nlen v3.2.1))
   (v2 (w64 (iadd v3.1 1), v3.2.1, ofN (nadd (toN v3.2.2) (decW v3.2.1 (toN v3.2.2)))))
   (v1 v3.1)) N (0, x, ofN 0)
def ps_q34 : List PK := [.k (.v (.str) [])]
def rs_q34 : List Kd := [.v (.int .i64) []]
def q34 (N : Nat) (x : List UInt8) : Option (Int) :=
 bnd (q13 N x) fun v0 =>
 cnd (bnot v0)
  (some (-1))
  (bnd (q33 N x) fun v1 =>
  some v1)
def ps_q35 : List PK := [.k (.v (.st Y3) [])]
def rs_q35 : List Kd := [.v (.int .i64) []]
def q35 (N : Nat) (x : List D2) : Option (Int) :=
 jn (fun (v0 : Int) =>
  some v0)
 fun v1 =>
 fixN (fun v2 (v3 : Int × Int) =>
  cnd (ilt v3.2 (len x))
   (grd (inb v3.2 (len x))
    (bnd (q34 N (lget x (toN v3.2) ([], ((0, (false, false)), []))).1) fun v4 =>
    cnd (ilt v4 0)
     (some (-1))
     (v2 (w64 (iadd v3.1 v4), w64 (iadd v3.2 1)))))
   (v1 v3.1)) N (0, 0)
def ps_q36 : List PK := [.k (.v (.st Y3) [])]
def rs_q36 : List Kd := [.v (.int .i64) []]
def q36 (N : Nat) (x : List D2) : Option (Int) :=
 bnd (q30 N x) fun v0 =>
 cnd (ine v0 0)
  (some v0)
  (bnd (q32 N x) fun v1 =>
  cnd (seq v1 ([] : List UInt8))
   (some 4)
   (grd (inb 0 (len v1))
    (cnd (ieq (n8 (lget v1 (toN 0) 0)) (n8 32))
     (some 4)
     (grd (inb (w64 (isub (len v1) 1)) (len v1))
      (cnd (ieq (n8 (lget v1 (toN (w64 (isub (len v1) 1))) 0)) (n8 32))
       (some 4)
       (bnd (strings_Contains N (v1, ([32, 32] : List UInt8))) fun v2 =>
       cnd v2
        (some 4)
        (bnd (q35 N x) fun v3 =>
        cnd (ilt 32 v3)
         (some 11)
         (some 0))))))))
def ps_q37 : List PK := [.k (.v Y1 [])]
def rs_q37 : List Kd := [.v (.slice (.int .i64)) [0]]
def q37 (N : Nat) (x : D1) : Option (List Int) :=
 jn (fun (v0 : List Int) =>
  some v0)
 fun v1 =>
 fixN (fun v2 (v3 : (List Int) × Int) =>
  cnd (ilt v3.2 (len x.2.2.2.2.2))
   (grd (inb v3.2 (len x.2.2.2.2.2))
    (bnd (q35 N (lget x.2.2.2.2.2 (toN v3.2) [])) fun v4 =>
    grd (room (iadd (len v3.1) (len ([v4] : List Int))) 8) <|
    v2 (lapp v3.1 ([v4] : List Int), w64 (iadd v3.2 1))))
   (v1 v3.1)) N (([] : List Int), 0)
def ps_q38 : List PK := [.k (.v Y4 [])]
def rs_q38 : List Kd := [.v (.bool) []]
def q38 (N : Nat) (x : D4) : Option (Bool) :=
 bnd (q23 N ()) fun v0 =>
 cnd (band (seq x.1 v0.1) (band (ieq x.2.1 v0.2.1) (band (ieq x.2.2.1 v0.2.2.1) (band (ieq x.2.2.2.1 v0.2.2.2.1) (band (ieq x.2.2.2.2.1 v0.2.2.2.2.1) (band (ieq (n8 x.2.2.2.2.2.1) (n8 v0.2.2.2.2.2.1)) (beqb x.2.2.2.2.2.2 v0.2.2.2.2.2.2)))))))
  (some true)
  (bnd (q21 N x) fun v1 =>
  some (ieq v1 0))
def ps_q39 : List PK := [.k (.v Y4 []), .k (.v (.slice (.int .i64)) [])]
def rs_q39 : List Kd := [.v (.slice Y5) [0], .v (.int .i64) []]
def q39 (N : Nat) (x : D4 × List Int) : Option ((List D6) × Int) :=
 bnd (q38 N x.1) fun v0 =>
 cnd (bnot v0)
  (some (([] : List D6), 1))
  (cnd (ilt x.1.2.2.1 (len x.2))
   (some (([] : List D6), 9))
   (jn (fun (v1 : Int) =>
    jn (fun (v2 : List D6) =>
     some (v2, 0))
    fun v3 =>
    fixN (fun v4 (v5 : (List D6) × Int) =>
     cnd (ilt v5.2 (len x.2))
      (grd (inb v5.2 (len x.2))
       (cnd (ilt (lget x.2 (toN v5.2) 0) 0)
        (some (([] : List D6), 2))
        (cnd (ilt x.1.2.2.2.2.1 (lget x.2 (toN v5.2) 0))
         (some (([] : List D6), 11))
         (cnd (ieq (n8 x.1.2.2.2.2.2.1) (n8 3))
          (grd (room (iadd (len v5.1) (len ([(w64 (iadd v1 v5.2), w64 (iadd x.1.2.2.2.1 (w64 (isub x.1.2.2.2.2.1 (lget x.2 (toN v5.2) 0)))), lget x.2 (toN v5.2) 0)] : List D6))) 24)
           (v4 (lapp v5.1 ([(w64 (iadd v1 v5.2), w64 (iadd x.1.2.2.2.1 (w64 (isub x.1.2.2.2.2.1 (lget x.2 (toN v5.2) 0)))), lget x.2 (toN v5.2) 0)] : List D6), w64 (iadd v5.2 1))))
          (cnd (ieq (n8 x.1.2.2.2.2.2.1) (n8 2))
           (grd (room (iadd (len v5.1) (len ([(w64 (iadd v1 v5.2), w64 (iadd x.1.2.2.2.1 (w64 (idiv (w64 (isub x.1.2.2.2.2.1 (lget x.2 (toN v5.2) 0))) 2))), lget x.2 (toN v5.2) 0)] : List D6))) 24)
            (v4 (lapp v5.1 ([(w64 (iadd v1 v5.2), w64 (iadd x.1.2.2.2.1 (w64 (idiv (w64 (isub x.1.2.2.2.2.1 (lget x.2 (toN v5.2) 0))) 2))), lget x.2 (toN v5.2) 0)] : List D6), w64 (iadd v5.2 1))))
           (grd (room (iadd (len v5.1) (len ([(w64 (iadd v1 v5.2), x.1.2.2.2.1, lget x.2 (toN v5.2) 0)] : List D6))) 24)
            (v4 (lapp v5.1 ([(w64 (iadd v1 v5.2), x.1.2.2.2.1, lget x.2 (toN v5.2) 0)] : List D6), w64 (iadd v5.2 1)))))))))
      (v3 v5.1)) N (([] : List D6), 0))
   fun v6 =>
   cnd x.1.2.2.2.2.2.2
    (v6 (w64 (iadd x.1.2.1 (w64 (isub x.1.2.2.1 (len x.2))))))
    (v6 x.1.2.1)))
def ps_q40 : List PK := [.k (.v Y1 []), .k (.v (.slice Y4) [])]
def rs_q40 : List Kd := [.v (.int .i64) []]
def q40 (N : Nat) (x : D1 × List D4) : Option (Int) :=
 bnd (q24 N (x.2, x.1.2.2.1)) fun v0 =>
 cnd (ilt x.1.1 1)
  (some 2)
  (cnd (ilt 1099511627776 x.1.1)
   (some 2)
   (bnd (q25 N x.1.2.1) fun v1 =>
   cnd (bnot v1)
    (some 2)
    (cnd (bnot v0.2)
     (some 6)
     (bnd (q27 N x.1.2.2.2.1) fun v2 =>
     cnd (seq v2 ([] : List UInt8))
      (some 3)
      (jn (fun (v3 : Bool) =>
       cnd v3
        (some 5)
        (cnd (ieq (len x.1.2.2.2.2.2) 0)
         (some 9)
         (cnd (ilt 4 (len x.1.2.2.2.2.2))
          (some 9)
          (jn (fun (v4 : Unit) =>
           bnd (q37 N x.1) fun v5 =>
           bnd (q39 N (v0.1, v5)) fun v6 =>
           some v6.2)
          fun v7 =>
          fixN (fun v8 (v9 : Int) =>
           cnd (ilt v9 (len x.1.2.2.2.2.2))
            (grd (inb v9 (len x.1.2.2.2.2.2))
             (bnd (q36 N (lget x.1.2.2.2.2.2 (toN v9) [])) fun v10 =>
             cnd (ine v10 0)
              (some v10)
              (v8 (w64 (iadd v9 1)))))
            (v7 ())) N 0))))
      fun v11 =>
      cnd (sne x.1.2.2.2.2.1 ([] : List UInt8))
       (bnd (q14 N x.1.2.2.2.2.1) fun v12 =>
       v11 (bnot v12))
       (v11 false))))))
def ps_q41 : List PK := [.k (.v (.int .i64) [])]
def rs_q41 : List Kd := [.v (.bool) []]
def q41 (N : Nat) (x : Int) : Option (Bool) :=
 some (ine x x)
def ps_q42 : List PK := [.k (.v (.int .i64) []), .k (.v (.int .i64) [])]
def rs_q42 : List Kd := [.v (.int .i64) []]
def q42 (N : Nat) (x : Int × Int) : Option (Int) :=
 bnd (q41 N x.1) fun v0 =>
 bnd (q41 N x.2) fun v1 =>
 cnd v0
  (cnd v1
   (some 0)
   (some (-1)))
  (cnd v1
   (some 1)
   (cnd (ilt x.1 x.2)
    (some (-1))
    (cnd (ilt x.2 x.1)
     (some 1)
     (some 0))))
def ps_q43 : List PK := [.k (.v (.slice (.int .i64)) [])]
def rs_q43 : List Kd := [.v (.int .i64) []]
def q43 (N : Nat) (x : List Int) : Option (Int) :=
 jn (fun (v0 : Unit) =>
  some 0)
 fun v1 =>
 fixN (fun v2 (v3 : Int) =>
  cnd (ilt v3 (len x))
   (grd (inb v3 (len x))
    (cnd (ine (lget x (toN v3) 0) 0)
     (some (lget x (toN v3) 0))
     (v2 (w64 (iadd v3 1)))))
   (v1 ())) N 0
def ps_q44 : List PK := [.k (.v Y1 []), .k (.v Y1 [])]
def rs_q44 : List Kd := [.v (.bool) []]
def q44 (N : Nat) (x : D1 × Int × (Int × Int) × (List UInt8) × UInt8 × (List UInt8) × List (List D2)) : Option (Bool) :=
 bnd (q42 N (x.1.2.1.1, x.2.2.1.1)) fun v0 =>
 bnd (q42 N (x.1.1, x.2.1)) fun v1 =>
 bnd (q43 N ([v0, v1] : List Int)) fun v2 =>
 some (ilt v2 0)
def ps_q45 : List PK := [.k (.v Y1 [])]
def rs_q45 : List Kd := [.v (.int .i64) []]
def q45 (N : Nat) (x : D1) : Option (Int) :=
 jn (fun (v0 : Int) =>
  some v0)
 fun v1 =>
 bnd (q37 N x) fun v2 =>
 fixN (fun v3 (v4 : Int × Int) =>
  cnd (ilt v4.2 (len v2))
   (grd (inb v4.2 (len v2))
    (cnd (ilt (lget v2 (toN v4.2) 0) 0)
     (some (-1))
     (v3 (w64 (iadd v4.1 (lget v2 (toN v4.2) 0)), w64 (iadd v4.2 1)))))
   (v1 v4.1)) N (imax (w64 (isub (len x.2.2.2.2.2) 1)) 0, 0)
def ps_q46 : List PK := [.k (.v Y2 []), .k (.v Y6 []), .k (.m (.int .i64) (.int .i64))]
def rs_q46 : List Kd := [.v (.int .i64) []]
def q46 (N : Nat) (x : D3 × D5 × List (Int × Int)) : Option (Int × List (Int × Int)) :=
 cnd (ilt x.2.1.2.1 1)
  (some (2, x.2.2))
  (cnd (ilt x.1.2.2.2.2.1 x.2.1.2.1)
   (some (2, x.2.2))
   (cnd x.2.1.2.2.2.2.2.2.2
    (cnd (ine x.2.1.2.2.1 0)
     (some (2, x.2.2))
     (cnd (ine x.2.1.2.2.2.1 0)
      (some (2, x.2.2))
      (some (0, x.2.2))))
    (cnd (bnot (mhas ieq x.2.2 x.2.1.2.1))
     (some (6, x.2.2))
     (cnd (ilt x.2.1.2.2.1 0)
      (some (2, x.2.2))
      (cnd (ile x.2.1.2.2.2.1 x.2.1.2.2.1)
       (some (2, x.2.2))
       (grd (inb (mget ieq 0 x.2.2 x.2.1.2.1) (len x.1.2.2.2.2.2.2.1))
        (bnd (q45 N (lget x.1.2.2.2.2.2.2.1 (toN (mget ieq 0 x.2.2 x.2.1.2.1)) (0, ((0, 0), ([], (0, ([], []))))))) fun v0 =>
        cnd (ilt v0 x.2.1.2.2.2.1)
         (some (2, x.2.2))
         (some (0, x.2.2)))))))))
def ps_q47 : List PK := [.k (.v Y2 []), .k (.m (.int .i64) (.int .i64))]
def rs_q47 : List Kd := [.v (.int .i64) []]
def q47 (N : Nat) (x : D3 × List (Int × Int)) : Option (Int × List (Int × Int)) :=
 cnd (ilt 64 (len x.1.2.2.2.2.2.2.2))
  (some (9, x.2))
  (jn (fun (v0 : List (Int × Int)) =>
   some (0, v0))
  fun v1 =>
  fixN (fun v2 (v3 : Int × List (Int × Int)) =>
   cnd (ilt v3.1 (len x.1.2.2.2.2.2.2.2))
    (grd (inb v3.1 (len x.1.2.2.2.2.2.2.2))
     (jn (fun (v4 : Unit) =>
      bnd (q46 N (x.1, lget x.1.2.2.2.2.2.2.2 (toN v3.1) (0, (0, (0, (0, ([], ([], (false, false))))))), v3.2)) fun v5 =>
      cnd (ine v5.1 0)
       (some v5)
       (bnd (q14 N (lget x.1.2.2.2.2.2.2.2 (toN v3.1) (0, (0, (0, (0, ([], ([], (false, false)))))))).2.2.2.2.1) fun v6 =>
       cnd (bnot v6)
        (some (5, v5.2))
        (bnd (q13 N (lget x.1.2.2.2.2.2.2.2 (toN v3.1) (0, (0, (0, (0, ([], ([], (false, false)))))))).2.2.2.2.2.1) fun v7 =>
        cnd (bnot v7)
         (some (10, v5.2))
         (cnd (seq (lget x.1.2.2.2.2.2.2.2 (toN v3.1) (0, (0, (0, (0, ([], ([], (false, false)))))))).2.2.2.2.2.1 ([] : List UInt8))
          (some (4, v5.2))
          (cnd (ilt 400 (len (lget x.1.2.2.2.2.2.2.2 (toN v3.1) (0, (0, (0, (0, ([], ([], (false, false)))))))).2.2.2.2.2.1))
           (some (9, v5.2))
           (v2 (w64 (iadd v3.1 1), v5.2)))))))
     fun v8 =>
     cnd (ilt (lget x.1.2.2.2.2.2.2.2 (toN v3.1) (0, (0, (0, (0, ([], ([], (false, false)))))))).1 1)
      (some (2, v3.2))
      (cnd (ilt x.1.2.2.2.2.1 (lget x.1.2.2.2.2.2.2.2 (toN v3.1) (0, (0, (0, (0, ([], ([], (false, false)))))))).1)
       (some (2, v3.2))
       (cnd (ilt 0 v3.1)
        (grd (inb (w64 (isub v3.1 1)) (len x.1.2.2.2.2.2.2.2))
         (cnd (ile (lget x.1.2.2.2.2.2.2.2 (toN v3.1) (0, (0, (0, (0, ([], ([], (false, false)))))))).1 (lget x.1.2.2.2.2.2.2.2 (toN (w64 (isub v3.1 1))) (0, (0, (0, (0, ([], ([], (false, false)))))))).1)
          (some (8, v3.2))
          (cnd (mhas ieq v3.2 (lget x.1.2.2.2.2.2.2.2 (toN v3.1) (0, (0, (0, (0, ([], ([], (false, false)))))))).1)
           (some (7, v3.2))
           (v8 ()))))
        (cnd (mhas ieq v3.2 (lget x.1.2.2.2.2.2.2.2 (toN v3.1) (0, (0, (0, (0, ([], ([], (false, false)))))))).1)
         (some (7, v3.2))
         (v8 ()))))))
    (v1 v3.2)) N (0, x.2))
def ps_q48 : List PK := [.k (.v Y2 [])]
def rs_q48 : List Kd := [.v (.int .i64) []]
def q48 (N : Nat) (x : D3) : Option (Int) :=
 bnd (q19 N x) fun v0 =>
 cnd (ine v0 0)
  (some v0)
  (bnd (q22 N x.2.2.2.2.2.1) fun v1 =>
  cnd (ine v1 0)
   (some v1)
   (cnd (ilt 400 (len x.2.2.2.2.2.2.1))
    (some 9)
    (jn (fun (v2 : List (Int × Int)) =>
     bnd (q47 N (x, v2)) fun v3 =>
     some v3.1)
    fun v4 =>
    fixN (fun v5 (v6 : Int × List (Int × Int)) =>
     cnd (ilt v6.1 (len x.2.2.2.2.2.2.1))
      (grd (inb v6.1 (len x.2.2.2.2.2.2.1))
       (bnd (q40 N (lget x.2.2.2.2.2.2.1 (toN v6.1) (0, ((0, 0), ([], (0, ([], []))))), x.2.2.2.2.2.1)) fun v7 =>
       cnd (ine v7 0)
        (some v7)
        (cnd (ilt x.2.2.2.2.1 (lget x.2.2.2.2.2.2.1 (toN v6.1) (0, ((0, 0), ([], (0, ([], [])))))).1)
         (some 2)
         (cnd (ilt 0 v6.1)
          (grd (inb (w64 (isub v6.1 1)) (len x.2.2.2.2.2.2.1))
           (bnd (q44 N (lget x.2.2.2.2.2.2.1 (toN (w64 (isub v6.1 1))) (0, ((0, 0), ([], (0, ([], []))))), lget x.2.2.2.2.2.2.1 (toN v6.1) (0, ((0, 0), ([], (0, ([], []))))))) fun v8 =>
           cnd (bnot v8)
            (some 8)
            (cnd (mhas ieq v6.2 (lget x.2.2.2.2.2.2.1 (toN v6.1) (0, ((0, 0), ([], (0, ([], [])))))).1)
             (some 7)
             (v5 (w64 (iadd v6.1 1), mput ieq v6.2 (lget x.2.2.2.2.2.2.1 (toN v6.1) (0, ((0, 0), ([], (0, ([], [])))))).1 v6.1)))))
          (cnd (mhas ieq v6.2 (lget x.2.2.2.2.2.2.1 (toN v6.1) (0, ((0, 0), ([], (0, ([], [])))))).1)
           (some 7)
           (v5 (w64 (iadd v6.1 1), mput ieq v6.2 (lget x.2.2.2.2.2.2.1 (toN v6.1) (0, ((0, 0), ([], (0, ([], [])))))).1 v6.1)))))))
      (v4 v6.2)) N (0, ([] : List (Int × Int))))))
def ps_q49 : List PK := [.k (.v (.u8) [])]
def rs_q49 : List Kd := [.v (.int .i64) []]
def q49 (N : Nat) (x : UInt8) : Option (Int) :=
 bnd (q15 N x) fun v0 =>
 some v0.2.1
def ps_q50 : List PK := [.k (.v (.u8) []), .k (.v (.int .i64) [])]
def rs_q50 : List Kd := [.v (.int .i64) [], .v (.int .i64) []]
def q50 (N : Nat) (x : UInt8 × Int) : Option (Int × Int) :=
 bnd (q16 N x.1) fun v0 =>
 cnd (bnot v0)
  (some (0, 3))
  (cnd (ilt x.2 0)
   (some (0, 2))
   (bnd (q49 N x.1) fun v1 =>
   grd (ine v1 0) <|
   cnd (ilt (w64 (idiv 10378368000 v1)) x.2)
    (some (0, 2))
    (bnd (q49 N x.1) fun v2 =>
    some (w64 (imul x.2 v2), 0))))
def ps_q51 : List PK := [.k (.v (.u8) [])]
def rs_q51 : List Kd := [.v (.bool) []]
def q51 (N : Nat) (x : UInt8) : Option (Bool) :=
 cnd (ile (n8 1) (n8 x))
  (some (ile (n8 x) (n8 3)))
  (some false)
def ps_q52 : List PK := [.k (.v (.int .i64) [])]
def rs_q52 : List Kd := [.v (.int .u64) []]
def q52 (N : Nat) (x : Int) : Option (Int) :=
 cnd (ilt x 0)
  (some (wr .u64 (isub 0 (wr .u64 x))))
  (some (wr .u64 x))
def ps_q53 : List PK := [.k (.v (.bool) []), .k (.v (.int .u64) []), .k (.v (.int .u64) []), .k (.v (.u8) [])]
def rs_q53 : List Kd := [.v (.bool) []]
def q53 (N : Nat) (x : Bool × Int × Int × UInt8) : Option (Bool) :=
 cnd (ieq x.2.1 0)
  (some false)
  (cnd (ieq (n8 x.2.2.2) (n8 1))
   (some x.1)
   (cnd (ieq (n8 x.2.2.2) (n8 3))
    (some (bnot x.1))
    (cnd (ilt (wr .u64 (isub x.2.2.1 x.2.1)) x.2.1)
     (some true)
     (cnd (ieq x.2.1 (wr .u64 (isub x.2.2.1 x.2.1)))
      (some (bnot x.1))
      (some false)))))
def ps_q54 : List PK := [.k (.v (.int .i64) []), .k (.v (.int .i64) []), .k (.v (.u8) [])]
def rs_q54 : List Kd := [.v (.int .i64) [], .v (.int .i64) []]
def q54 (N : Nat) (x : Int × Int × UInt8) : Option (Int × Int) :=
 cnd (ieq x.2.1 0)
  (some (0, 1))
  (bnd (q51 N x.2.2) fun v0 =>
  cnd (bnot v0)
   (some (0, 3))
   (bnd (q52 N x.1) fun v1 =>
   bnd (q52 N x.2.1) fun v2 =>
   grd (ine v2 0) <|
   bnd (q52 N x.1) fun v3 =>
   bnd (q52 N x.2.1) fun v4 =>
   grd (ine v4 0) <|
   jn (fun (v5 : Int) =>
    cnd (bneb (ilt x.1 0) (ilt x.2.1 0))
     (some (w64 (wr .u64 (isub 0 v5)), 0))
     (cnd (ilt 9223372036854775807 v5)
      (some (0, 2))
      (some (w64 v5, 0))))
   fun v6 =>
   bnd (q52 N x.2.1) fun v7 =>
   bnd (q53 N (bneb (ilt x.1 0) (ilt x.2.1 0), imod v3 v4, v7, x.2.2)) fun v8 =>
   cnd v8
    (v6 (wr .u64 (iadd (wr .u64 (idiv v1 v2)) 1)))
    (v6 (wr .u64 (idiv v1 v2)))))
def ps_q55 : List PK := [.k (.v (.u8) []), .k (.v (.int .i64) [])]
def rs_q55 : List Kd := [.v (.int .i64) [], .v (.int .i64) []]
def q55 (N : Nat) (x : UInt8 × Int) : Option (Int × Int) :=
 bnd (q50 N x) fun v0 =>
 cnd (ine v0.2 0)
  (some (0, v0.2))
  (bnd (q54 N (v0.1, 120, 2)) fun v1 =>
  some v1)
def ps_istrconv_FormatInt : List PK := [.k (.v (.int .i64) []), .k (.v (.int .i64) [])]
def rs_istrconv_FormatInt : List Kd := [.v (.str) []]
def istrconv_FormatInt (N : Nat) (x : Int × Int) : Option (List UInt8) := hand_istrconv_FormatInt N x
def ps_q56 : List PK := [.k (.v (.int .i64) []), .k (.v (.int .i64) [])]
def rs_q56 : List Kd := [.v (.str) []]
def q56 (N : Nat) (x : Int × Int) : Option (List UInt8) :=
 bnd (istrconv_FormatInt N x) fun v0 =>
 some v0
def ps_q57 : List PK := [.k (.v (.int .i64) [])]
def rs_q57 : List Kd := [.v (.str) []]
def q57 (N : Nat) (x : Int) : Option (List UInt8) :=
 bnd (q56 N (x, 10)) fun v0 =>
 some v0
def ps_q58 : List PK := [.k (.v (.int .i64) []), .k (.v (.int .i64) [])]
def rs_q58 : List Kd := [.v (.str) []]
def q58 (N : Nat) (x : Int × Int) : Option (List UInt8) :=
 bnd (q57 N x.1) fun v0 =>
 jn (fun (v1 : List UInt8) =>
  some v1)
 fun v2 =>
 fixN (fun v3 (v4 : List UInt8) =>
  cnd (ilt (len v4) x.2)
   (grd (catOk (iadd (len ([48] : List UInt8)) (len v4)))
    (v3 (lapp ([48] : List UInt8) v4)))
   (v2 v4)) N v0
def ps_q59 : List PK := [.k (.v (.int .i64) [])]
def rs_q59 : List Kd := [.v (.str) [], .v (.int .i64) []]
def q59 (N : Nat) (x : Int) : Option (List UInt8 × Int) :=
 cnd (ilt x 0)
  (some (([] : List UInt8), 2))
  (cnd (ilt 359999999 x)
   (some (([] : List UInt8), 2))
   (bnd (q58 N (w64 (idiv (w64 (idiv x 1000)) 3600), 2)) fun v0 =>
   grd (catOk (iadd (len v0) (len ([58] : List UInt8)))) <|
   bnd (q58 N (imod (w64 (idiv (w64 (idiv x 1000)) 60)) 60, 2)) fun v1 =>
   grd (catOk (iadd (len (lapp v0 ([58] : List UInt8))) (len v1))) <|
   grd (catOk (iadd (len (lapp (lapp v0 ([58] : List UInt8)) v1)) (len ([58] : List UInt8)))) <|
   bnd (q58 N (imod (w64 (idiv x 1000)) 60, 2)) fun v2 =>
   grd (catOk (iadd (len (lapp (lapp (lapp v0 ([58] : List UInt8)) v1) ([58] : List UInt8))) (len v2))) <|
   grd (catOk (iadd (len (lapp (lapp (lapp (lapp v0 ([58] : List UInt8)) v1) ([58] : List UInt8)) v2)) (len ([44] : List UInt8)))) <|
   bnd (q58 N (imod x 1000, 3)) fun v3 =>
   grd (catOk (iadd (len (lapp (lapp (lapp (lapp (lapp v0 ([58] : List UInt8)) v1) ([58] : List UInt8)) v2) ([44] : List UInt8))) (len v3))) <|
   some (lapp (lapp (lapp (lapp (lapp (lapp v0 ([58] : List UInt8)) v1) ([58] : List UInt8)) v2) ([44] : List UInt8)) v3, 0)))
def ps_bytealg_IndexByteString : List PK := [.k (.v (.str) []), .k (.v (.u8) [])]
def rs_bytealg_IndexByteString : List Kd := [.v (.int .i64) []]
def bytealg_IndexByteString (N : Nat) (x : List UInt8 × UInt8) : Option (Int) := hand_bytealg_IndexByteString N x
def ps_q60 : List PK := [.k (.v (.str) []), .k (.v (.u8) [])]
def rs_q60 : List Kd := [.v (.int .i64) []]
def q60 (N : Nat) (x : List UInt8 × UInt8) : Option (Int) :=
 bnd (bytealg_IndexByteString N x) fun v0 =>
 some v0
def ps_q61 : List PK := [.k (.v (.str) []), .k (.v (.u8) [])]
def rs_q61 : List Kd := [.v (.int .i64) []]
def q61 (N : Nat) (x : List UInt8 × UInt8) : Option (Int) :=
 bnd (q60 N x) fun v0 =>
 some v0
def ps_q62 : List PK := [.k (.v (.int .i32) [])]
def rs_q62 : List Kd := [.v (.bool) []]
def q62 (N : Nat) (x : Int) : Option (Bool) :=
 cnd (ile 0 x)
  (cnd (ilt x 55296)
   (some true)
   (cnd (ilt 57343 x)
    (cnd (ile x 1114111)
     (some true)
     (some false))
    (some false)))
  (cnd (ilt 57343 x)
   (cnd (ile x 1114111)
    (some true)
    (some false))
   (some false))
def ps_q63 : List PK := [.k (.v (.int .i64) [])]
def rs_q63 : List Kd := [.v (.int .i64) []]
def q63 (N : Nat) (x : Int) : Option (Int) :=
 some (w64 (idiv (w64 (iadd x 16)) 8))
def ps_q64 : List PK := [.k (.v (.str) []), .k (.v (.int .i32) [])]
def rs_q64 : List Kd := [.v (.int .i64) []]
def q64 (N : Nat) (x : List UInt8 × Int) : Option (Int) :=
 jn (fun (v0 : Bool) =>
  cnd v0
   (bnd (q61 N (x.1, b8 x.2)) fun v1 =>
   some v1)
   (cnd (ieq x.2 65533)
    (jn (fun (v2 : Unit) =>
     some (-1))
    fun v3 =>
    fixN (fun v4 (v5 : (List UInt8) × Int) =>
     cnd (nlt (toN v5.2) (nlen v5.1))
      (cnd (ieq (decR v5.1 (toN v5.2)) 65533)
       (some (ofN (toN v5.2)))
       (v4 (v5.1, ofN (nadd (toN v5.2) (decW v5.1 (toN v5.2))))))
      (v3 ())) N (x.1, ofN 0))
    (bnd (q62 N x.2) fun v6 =>
    cnd (bnot v6)
     (some (-1))
     (jn (fun (v7 : Unit) =>
      some (-1))
     fun v8 =>
     fixN (fun v9 (v10 : Int × Int) =>
      cnd (ilt v10.1 (len x.1))
       (jn (fun (v11 : Int) =>
        jn (fun (v12 : Unit) =>
         some (w64 (isub v11 (w64 (isub (len (enc x.2)) 1)))))
        fun v13 =>
        fixN (fun v14 (v15 : Int) =>
         cnd (ilt v15 (len (enc x.2)))
          (grd (inb (w64 (isub v11 v15)) (len x.1))
           (grd (inb (w64 (isub (w64 (isub (len (enc x.2)) 1)) v15)) (len (enc x.2)))
            (cnd (ine (n8 (lget x.1 (toN (w64 (isub v11 v15))) 0)) (n8 (lget (enc x.2) (toN (w64 (isub (w64 (isub (len (enc x.2)) 1)) v15))) 0)))
             (bnd (q63 N (w64 (iadd v11 1))) fun v16 =>
             cnd (ilt v16 (w64 (iadd v10.2 1)))
              (cnd (ilt (w64 (iadd v11 1)) (len x.1))
               (grd (in2 (w64 (isub (w64 (iadd v11 1)) (w64 (isub (len (enc x.2)) 1)))) (len x.1))
                none)
               (v9 (w64 (iadd v11 1), w64 (iadd v10.2 1))))
              (v9 (w64 (iadd v11 1), w64 (iadd v10.2 1))))
             (v14 (w64 (iadd v15 1))))))
          (v13 ())) N 1)
       fun v17 =>
       grd (inb v10.1 (len x.1)) <|
       grd (inb (w64 (isub (len (enc x.2)) 1)) (len (enc x.2))) <|
       cnd (ine (n8 (lget x.1 (toN v10.1) 0)) (n8 (lget (enc x.2) (toN (w64 (isub (len (enc x.2)) 1))) 0)))
        (grd (in2 (w64 (iadd v10.1 1)) (len x.1))
         (grd (inb (w64 (isub (len (enc x.2)) 1)) (len (enc x.2)))
          (bnd (q61 N (ldrop (toN (w64 (iadd v10.1 1))) x.1, lget (enc x.2) (toN (w64 (isub (len (enc x.2)) 1))) 0)) fun v18 =>
          cnd (ilt v18 0)
           (some (-1))
           (v17 (w64 (iadd v10.1 (w64 (iadd v18 1))))))))
        (v17 v10.1))
       (v8 ())) N (w64 (isub (len (enc x.2)) 1), 0)))))
 fun v19 =>
 cnd (ile 0 x.2)
  (v19 (ilt x.2 128))
  (v19 false)
def ps_q65 : List PK := [.k (.v (.int .i64) [])]
def rs_q65 : List Kd := [.v (.bool) []]
def q65 (N : Nat) (x : Int) : Option (Bool) :=
 some (ilt 8 x)
def ps_q67 : List PK := [.k (.v (.str) []), .k (.v (.str) [])]
def rs_q67 : List Kd := [.v (.int .i64) []]
def q66 (N : Nat) (x : List UInt8 × List UInt8) : Option (Int) :=
 cnd (seq x.2 ([] : List UInt8))
  (some (-1))
  (cnd (ieq (len x.2) 1)
   (grd (inb 0 (len x.2))
    (cnd (ile 128 (wr .i32 (n8 (lget x.2 (toN 0) 0))))
     (bnd (q64 N (x.1, 65533)) fun v0 =>
     some v0)
     (bnd (q64 N (x.1, wr .i32 (n8 (lget x.2 (toN 0) 0)))) fun v1 =>
     some v1)))
   (jn (fun (v2 : Unit) =>
    jn (fun (v3 : Unit) =>
     some (-1))
    fun v4 =>
    fixN (fun v5 (v6 : (List UInt8) × Int) =>
     cnd (nlt (toN v6.2) (nlen v6.1))
      (bnd (q64 N (x.2, decR v6.1 (toN v6.2))) fun v7 =>
      cnd (ile 0 v7)
       (some (ofN (toN v6.2)))
       (v5 (v6.1, ofN (nadd (toN v6.2) (decW v6.1 (toN v6.2))))))
      (v4 ())) N (x.1, ofN 0))
   fun v8 =>
   bnd (q65 N (len x.1)) fun v9 =>
   cnd v9
    none
    (v8 ())))
def q67 (N : Nat) (x : List UInt8 × List UInt8) : Option (Int) := bsel (longAny x) (some (Lib.indexAny x.1 x.2)) (q66 N x)
def ps_q68 : List PK := [.k (.v (.str) []), .k (.v (.str) [])]
def rs_q68 : List Kd := [.v (.bool) []]
def q68 (N : Nat) (x : List UInt8 × List UInt8) : Option (Bool) :=
 bnd (q67 N x) fun v0 =>
 some (ile 0 v0)
def ps_q69 : List PK := [.k (.v Y3 [])]
def rs_q69 : List Kd := [.v (.st Y3) [0]]
def q69 (N : Nat) (x : List D2) : Option (List D2) :=
 jn (fun (v0 : List D2) =>
  some v0)
 fun v1 =>
 fixN (fun v2 (v3 : Int × List D2) =>
  cnd (ilt v3.1 (len x))
   (grd (inb v3.1 (len x))
    (cnd (seq (lget x (toN v3.1) ([], ((0, (false, false)), []))).1 ([] : List UInt8))
     (v2 (w64 (iadd v3.1 1), v3.2))
     (cnd (ilt 0 (len v3.2))
      (grd (inb (w64 (isub (len v3.2) 1)) (len v3.2))
       (bnd (q29 N (lget v3.2 (toN (w64 (isub (len v3.2) 1))) ([], ((0, (false, false)), [])), lget x (toN v3.1) ([], ((0, (false, false)), [])))) fun v4 =>
       cnd v4
        (grd (inb (w64 (isub (len v3.2) 1)) (len v3.2))
         (grd (catOk (iadd (len (lget v3.2 (toN (w64 (isub (len v3.2) 1))) ([], ((0, (false, false)), []))).1) (len (lget x (toN v3.1) ([], ((0, (false, false)), []))).1)))
          (grd (inb (w64 (isub (len v3.2) 1)) (len v3.2))
           (v2 (w64 (iadd v3.1 1), lset v3.2 (toN (w64 (isub (len v3.2) 1))) (lapp (lget v3.2 (toN (w64 (isub (len v3.2) 1))) ([], ((0, (false, false)), []))).1 (lget x (toN v3.1) ([], ((0, (false, false)), []))).1, (lget v3.2 (toN (w64 (isub (len v3.2) 1))) ([], ((0, (false, false)), []))).2))))))
        (grd (room (iadd (len v3.2) (len ([lget x (toN v3.1) ([], ((0, (false, false)), []))] : List D2))) 40)
         (v2 (w64 (iadd v3.1 1), lapp v3.2 ([lget x (toN v3.1) ([], ((0, (false, false)), []))] : List D2))))))
      (grd (room (iadd (len v3.2) (len ([lget x (toN v3.1) ([], ((0, (false, false)), []))] : List D2))) 40)
       (v2 (w64 (iadd v3.1 1), lapp v3.2 ([lget x (toN v3.1) ([], ((0, (false, false)), []))] : List D2)))))))
   (v1 v3.2)) N (0, ([] : List D2))
def ps_q70 : List PK := [.k (.v (.st Y3) [])]
def rs_q70 : List Kd := [.v (.st Y3) [0]]
def q70 (N : Nat) (x : List D2) : Option (List D2) :=
 bnd (q69 N x) fun v0 =>
 some v0
def ps_q71 : List PK := [.k (.v (.st Y3) [])]
def rs_q71 : List Kd := [.v (.st Y3) [0]]
def q71 (N : Nat) (x : List D2) : Option (List D2) :=
 jn (fun (v0 : List D2) =>
  bnd (q70 N v0) fun v1 =>
  some v1)
 fun v2 =>
 fixN (fun v3 (v4 : Int × List D2) =>
  cnd (ilt v4.1 (len x))
   (grd (inb v4.1 (len x))
    (grd (room (iadd (len v4.2) (len ([((lget x (toN v4.1) ([], ((0, (false, false)), []))).1, (0, (lget x (toN v4.1) ([], ((0, (false, false)), []))).2.1.2), ([] : List UInt8))] : List D2))) 40)
     (v3 (w64 (iadd v4.1 1), lapp v4.2 ([((lget x (toN v4.1) ([], ((0, (false, false)), []))).1, (0, (lget x (toN v4.1) ([], ((0, (false, false)), []))).2.1.2), ([] : List UInt8))] : List D2)))))
   (v2 v4.2)) N (0, ([] : List D2))
def ps_q72 : List PK := [.k (.v (.st Y3) [])]
def rs_q72 : List Kd := [.v (.str) [], .v (.int .i64) []]
def q72 (N : Nat) (x : List D2) : Option (List UInt8 × Int) :=
 bnd (q30 N x) fun v0 =>
 cnd (ine v0 0)
  (some (([] : List UInt8), v0))
  (bnd (q32 N x) fun v1 =>
  bnd (q68 N (v1, ([60, 62, 38] : List UInt8))) fun v2 =>
  cnd v2
   (some (([] : List UInt8), 10))
   (jn (fun (v3 : Unit × List UInt8) =>
    some (v3.2, 0))
   fun v4 =>
   bnd (q71 N x) fun v5 =>
   fixN (fun v6 (v7 : Int × Unit × List UInt8) =>
    cnd (ilt v7.1 (len v5))
     (grd (inb v7.1 (len v5))
      (cnd (lget v5 (toN v7.1) ([], ((0, (false, false)), []))).2.1.2.2
       (grd (catOk (iadd (len ([60, 117, 62] : List UInt8)) (len (lget v5 (toN v7.1) ([], ((0, (false, false)), []))).1)))
        (grd (catOk (iadd (len (lapp ([60, 117, 62] : List UInt8) (lget v5 (toN v7.1) ([], ((0, (false, false)), []))).1)) (len ([60, 47, 117, 62] : List UInt8))))
         (cnd (lget v5 (toN v7.1) ([], ((0, (false, false)), []))).2.1.2.1
          (grd (catOk (iadd (len ([60, 105, 62] : List UInt8)) (len (lapp (lapp ([60, 117, 62] : List UInt8) (lget v5 (toN v7.1) ([], ((0, (false, false)), []))).1) ([60, 47, 117, 62] : List UInt8)))))
           (grd (catOk (iadd (len (lapp ([60, 105, 62] : List UInt8) (lapp (lapp ([60, 117, 62] : List UInt8) (lget v5 (toN v7.1) ([], ((0, (false, false)), []))).1) ([60, 47, 117, 62] : List UInt8)))) (len ([60, 47, 105, 62] : List UInt8))))
            (bnd (q31 N (((), v7.2.2), lapp (lapp ([60, 105, 62] : List UInt8) (lapp (lapp ([60, 117, 62] : List UInt8) (lget v5 (toN v7.1) ([], ((0, (false, false)), []))).1) ([60, 47, 117, 62] : List UInt8))) ([60, 47, 105, 62] : List UInt8))) fun v8 =>
            v6 (w64 (iadd v7.1 1), (), v8.2.2.2))))
          (bnd (q31 N (((), v7.2.2), lapp (lapp ([60, 117, 62] : List UInt8) (lget v5 (toN v7.1) ([], ((0, (false, false)), []))).1) ([60, 47, 117, 62] : List UInt8))) fun v9 =>
          v6 (w64 (iadd v7.1 1), (), v9.2.2.2)))))
       (cnd (lget v5 (toN v7.1) ([], ((0, (false, false)), []))).2.1.2.1
        (grd (catOk (iadd (len ([60, 105, 62] : List UInt8)) (len (lget v5 (toN v7.1) ([], ((0, (false, false)), []))).1)))
         (grd (catOk (iadd (len (lapp ([60, 105, 62] : List UInt8) (lget v5 (toN v7.1) ([], ((0, (false, false)), []))).1)) (len ([60, 47, 105, 62] : List UInt8))))
          (bnd (q31 N (((), v7.2.2), lapp (lapp ([60, 105, 62] : List UInt8) (lget v5 (toN v7.1) ([], ((0, (false, false)), []))).1) ([60, 47, 105, 62] : List UInt8))) fun v10 =>
          v6 (w64 (iadd v7.1 1), (), v10.2.2.2))))
        (bnd (q31 N (((), v7.2.2), (lget v5 (toN v7.1) ([], ((0, (false, false)), []))).1)) fun v11 =>
        v6 (w64 (iadd v7.1 1), (), v11.2.2.2)))))
     (v4 ((), v7.2.2))) N (0, (), ([] : List UInt8))))
def ps_q73 : List PK := [.k (.v (.u8) []), .k (.v (.int .i64) []), .k (.v Y1 [])]
def rs_q73 : List Kd := [.v (.str) [], .v (.int .i64) []]
def q73 (N : Nat) (x : UInt8 × Int × Int × (Int × Int) × (List UInt8) × UInt8 × (List UInt8) × List (List D2)) : Option (List UInt8 × Int) :=
 bnd (q55 N (x.1, x.2.2.2.1.1)) fun v0 =>
 cnd (ine v0.2 0)
  (some (([] : List UInt8), v0.2))
  (bnd (q55 N (x.1, x.2.2.2.1.2)) fun v1 =>
  cnd (ine v1.2 0)
   (some (([] : List UInt8), v1.2))
   (bnd (q59 N v0.1) fun v2 =>
   bnd (q59 N v1.1) fun v3 =>
   bnd (q57 N x.2.1) fun v4 =>
   grd (catOk (iadd (len v4) (len ([10] : List UInt8)))) <|
   grd (catOk (iadd (len (lapp v4 ([10] : List UInt8))) (len v2.1))) <|
   grd (catOk (iadd (len (lapp (lapp v4 ([10] : List UInt8)) v2.1)) (len ([32, 45, 45, 62, 32] : List UInt8)))) <|
   grd (catOk (iadd (len (lapp (lapp (lapp v4 ([10] : List UInt8)) v2.1) ([32, 45, 45, 62, 32] : List UInt8))) (len v3.1))) <|
   grd (catOk (iadd (len (lapp (lapp (lapp (lapp v4 ([10] : List UInt8)) v2.1) ([32, 45, 45, 62, 32] : List UInt8)) v3.1)) (len ([10] : List UInt8)))) <|
   jn (fun (v5 : List UInt8) =>
    grd (catOk (iadd (len v5) (len ([10] : List UInt8)))) <|
    some (lapp v5 ([10] : List UInt8), 0))
   fun v6 =>
   fixN (fun v7 (v8 : (List UInt8) × Int) =>
    cnd (ilt v8.2 (len x.2.2.2.2.2.2.2))
     (grd (inb v8.2 (len x.2.2.2.2.2.2.2))
      (bnd (q72 N (lget x.2.2.2.2.2.2.2 (toN v8.2) [])) fun v9 =>
      cnd (ine v9.2 0)
       (some (([] : List UInt8), v9.2))
       (grd (catOk (iadd (len v9.1) (len ([10] : List UInt8))))
        (grd (catOk (iadd (len v8.1) (len (lapp v9.1 ([10] : List UInt8)))))
         (v7 (lapp v8.1 (lapp v9.1 ([10] : List UInt8)), w64 (iadd v8.2 1)))))))
     (v6 v8.1)) N (lapp (lapp (lapp (lapp (lapp v4 ([10] : List UInt8)) v2.1) ([32, 45, 45, 62, 32] : List UInt8)) v3.1) ([10] : List UInt8), 0)))
def ps_q74 : List PK := [.k (.b 84 (.st (.pair (.nptr) (.slice (.u8)))) [1])]
def rs_q74 : List Kd := [.v (.int .i64) []]
def q74 (N : Nat) (x : Unit × List UInt8) : Option (Int × Unit × List UInt8) :=
 some (len x.2, (), x.2)
def ps_q75 : List PK := [.k (.v Y2 [])]
def rs_q75 : List Kd := [.v (.str) [], .v (.int .i64) [], .v (.int .i64) []]
def q75 (N : Nat) (x : D3) : Option (List UInt8 × Int × Int) :=
 bnd (q48 N x) fun v0 =>
 cnd (ine v0 0)
  (some (([] : List UInt8), (-1), v0))
  (jn (fun (v1 : Unit × List UInt8) =>
   bnd (q74 N ((), v1.2)) fun v2 =>
   cnd (ilt 262144 v2.1)
    (some (([] : List UInt8), (-1), 9))
    (some (v2.2.2, (-1), 0)))
  fun v3 =>
  fixN (fun v4 (v5 : Int × Unit × List UInt8) =>
   cnd (ilt v5.1 (len x.2.2.2.2.2.2.1))
    (grd (inb v5.1 (len x.2.2.2.2.2.2.1))
     (bnd (q73 N (x.2.2.1, w64 (iadd v5.1 1), lget x.2.2.2.2.2.2.1 (toN v5.1) (0, ((0, 0), ([], (0, ([], []))))))) fun v6 =>
     cnd (ine v6.2 0)
      (some (([] : List UInt8), v5.1, v6.2))
      (bnd (q31 N (((), v5.2.2), v6.1)) fun v7 =>
      v4 (w64 (iadd v5.1 1), (), v7.2.2.2))))
    (v3 ((), v5.2.2))) N (0, (), ([] : List UInt8)))
def ps_q76 : List PK := [.k (.v Y2 [])]
def rs_q76 : List Kd := [.v (.str) [], .v (.int .i64) []]
def q76 (N : Nat) (x : D3) : Option (List UInt8 × Int) :=
 bnd (q75 N x) fun v0 =>
 some (v0.1, v0.2.2)
def ps_q77 : List PK := [.k (.v (.str) [])]
def rs_q77 : List Kd := [.v (.int .i32) [], .v (.int .i64) []]
def q77 (N : Nat) (x : List UInt8) : Option (Int × Int) :=
 cnd (ilt (len x) 1)
  (some (65533, 0))
  (grd (inb 0 (len x))
   (grd (inb (n8 (lget x (toN 0) 0)) (ofN 256))
    (cnd (ile (n8 240) (n8 (lget gl1 (toN (n8 (lget x (toN 0) 0))) 0)))
     (grd (inb 0 (len x))
      (some (bitb .or .i32 (bitb .andNot .i32 (wr .i32 (n8 (lget x (toN 0) 0))) (shrk .i32 (wr .i32 (shlk .i32 (wr .i32 (n8 (lget gl1 (toN (n8 (lget x (toN 0) 0))) 0))) 31)) 31)) (bitb .and .i32 65533 (shrk .i32 (wr .i32 (shlk .i32 (wr .i32 (n8 (lget gl1 (toN (n8 (lget x (toN 0) 0))) 0))) 31)) 31)), 1)))
     (grd (inb (n8 (b8 (shrk .u8 (n8 (lget gl1 (toN (n8 (lget x (toN 0) 0))) 0)) 4))) (ofN 16))
      (cnd (ilt (len x) (w64 (n8 (b8 (bitb .and .u8 (n8 (lget gl1 (toN (n8 (lget x (toN 0) 0))) 0)) (n8 7))))))
       (some (65533, 1))
       (grd (inb 1 (len x))
        (cnd (ilt (n8 (lget x (toN 1) 0)) (n8 (lget gl2 (toN (n8 (b8 (shrk .u8 (n8 (lget gl1 (toN (n8 (lget x (toN 0) 0))) 0)) 4)))) (0, 0)).1))
         (some (65533, 1))
         (cnd (ilt (n8 (lget gl2 (toN (n8 (b8 (shrk .u8 (n8 (lget gl1 (toN (n8 (lget x (toN 0) 0))) 0)) 4)))) (0, 0)).2) (n8 (lget x (toN 1) 0)))
          (some (65533, 1))
          (cnd (ile (w64 (n8 (b8 (bitb .and .u8 (n8 (lget gl1 (toN (n8 (lget x (toN 0) 0))) 0)) (n8 7))))) 2)
           (some (bitb .or .i32 (wr .i32 (shlk .i32 (wr .i32 (n8 (b8 (bitb .and .u8 (n8 (lget x (toN 0) 0)) (n8 31))))) 6)) (wr .i32 (n8 (b8 (bitb .and .u8 (n8 (lget x (toN 1) 0)) (n8 63))))), 2))
           (grd (inb 2 (len x))
            (cnd (ilt (n8 (lget x (toN 2) 0)) (n8 128))
             (some (65533, 1))
             (cnd (ilt (n8 191) (n8 (lget x (toN 2) 0)))
              (some (65533, 1))
              (cnd (ile (w64 (n8 (b8 (bitb .and .u8 (n8 (lget gl1 (toN (n8 (lget x (toN 0) 0))) 0)) (n8 7))))) 3)
               (some (bitb .or .i32 (bitb .or .i32 (wr .i32 (shlk .i32 (wr .i32 (n8 (b8 (bitb .and .u8 (n8 (lget x (toN 0) 0)) (n8 15))))) 12)) (wr .i32 (shlk .i32 (wr .i32 (n8 (b8 (bitb .and .u8 (n8 (lget x (toN 1) 0)) (n8 63))))) 6))) (wr .i32 (n8 (b8 (bitb .and .u8 (n8 (lget x (toN 2) 0)) (n8 63))))), 3))
               (grd (inb 3 (len x))
                (cnd (ilt (n8 (lget x (toN 3) 0)) (n8 128))
                 (some (65533, 1))
                 (cnd (ilt (n8 191) (n8 (lget x (toN 3) 0)))
                  (some (65533, 1))
                  (some (bitb .or .i32 (bitb .or .i32 (bitb .or .i32 (wr .i32 (shlk .i32 (wr .i32 (n8 (b8 (bitb .and .u8 (n8 (lget x (toN 0) 0)) (n8 7))))) 18)) (wr .i32 (shlk .i32 (wr .i32 (n8 (b8 (bitb .and .u8 (n8 (lget x (toN 1) 0)) (n8 63))))) 12))) (wr .i32 (shlk .i32 (wr .i32 (n8 (b8 (bitb .and .u8 (n8 (lget x (toN 2) 0)) (n8 63))))) 6))) (wr .i32 (n8 (b8 (bitb .and .u8 (n8 (lget x (toN 3) 0)) (n8 63))))), 4))))))))))))))))))
def ps_q78 : List PK := [.k (.v (.str) [])]
def rs_q78 : List Kd := [.v (.int .i32) [], .v (.int .i64) []]
def q78 (N : Nat) (x : List UInt8) : Option (Int × Int) :=
 cnd (sne x ([] : List UInt8))
  (grd (inb 0 (len x))
   (cnd (ilt (n8 (lget x (toN 0) 0)) (n8 128))
    (grd (inb 0 (len x))
     (some (wr .i32 (n8 (lget x (toN 0) 0)), 1)))
    (bnd (q77 N x) fun v0 =>
    some v0)))
  (bnd (q77 N x) fun v1 =>
  some v1)
def ps_q79 : List PK := [.k (.v (.str) []), .k (.v (.int .i64) [])]
def rs_q79 : List Kd := [.v (.slice (.str)) [0]]
def q79 (N : Nat) (x : List UInt8 × Int) : Option (List (List UInt8)) :=
 bnd (q33 N x.1) fun v0 =>
 jn (fun (v1 : Int) =>
  grd (mkOk v1 v1 16) <|
  jn (fun (v2 : (List UInt8) × List (List UInt8)) =>
   cnd (ilt 0 v1)
    (grd (inb (w64 (isub v1 1)) (len v2.2))
     (some (lset v2.2 (toN (w64 (isub v1 1))) v2.1)))
    (some v2.2))
  fun v3 =>
  fixN (fun v4 (v5 : (List UInt8) × Int × List (List UInt8)) =>
   cnd (ilt v5.2.1 (w64 (isub v1 1)))
    (bnd (q78 N v5.1) fun v6 =>
    grd (in2 v6.2 (len v5.1)) <|
    grd (inb v5.2.1 (len v5.2.2)) <|
    grd (in2 v6.2 (len v5.1)) <|
    v4 (ldrop (toN v6.2) v5.1, w64 (iadd v5.2.1 1), lset v5.2.2 (toN v5.2.1) (ltake (toN v6.2) v5.1)))
    (v3 (v5.1, v5.2.2))) N (x.1, 0, lrep (toN v1) ([] : List UInt8)))
 fun v7 =>
 cnd (ilt x.2 0)
  (v7 v0)
  (cnd (ilt v0 x.2)
   (v7 v0)
   (v7 x.2))
def ps_bytealg_CountString : List PK := [.k (.v (.str) []), .k (.v (.u8) [])]
def rs_bytealg_CountString : List Kd := [.v (.int .i64) []]
def bytealg_CountString (N : Nat) (x : List UInt8 × UInt8) : Option (Int) := hand_bytealg_CountString N x
def ps_strings_Index : List PK := [.k (.v (.str) []), .k (.v (.str) [])]
def rs_strings_Index : List Kd := [.v (.int .i64) []]
def strings_Index (N : Nat) (x : List UInt8 × List UInt8) : Option (Int) := hand_strings_Index N x
def ps_q80 : List PK := [.k (.v (.str) []), .k (.v (.str) [])]
def rs_q80 : List Kd := [.v (.int .i64) []]
def q80 (N : Nat) (x : List UInt8 × List UInt8) : Option (Int) :=
 cnd (ieq (len x.2) 0)
  (bnd (q33 N x.1) fun v0 =>
  some (w64 (iadd v0 1)))
  (cnd (ieq (len x.2) 1)
   (grd (inb 0 (len x.2))
    (bnd (bytealg_CountString N (x.1, lget x.2 (toN 0) 0)) fun v1 =>
    some v1))
   (fixN (fun v2 (v3 : (List UInt8) × Int) =>
    bnd (strings_Index N (v3.1, x.2)) fun v4 =>
    cnd (ieq v4 (-1))
     (some v3.2)
     (grd (in2 (w64 (iadd v4 (len x.2))) (len v3.1))
      (v2 (ldrop (toN (w64 (iadd v4 (len x.2)))) v3.1, w64 (iadd v3.2 1))))) N (x.1, 0)))
def ps_q81 : List PK := [.k (.v (.str) []), .k (.v (.str) []), .k (.v (.int .i64) []), .k (.v (.int .i64) [])]
def rs_q81 : List Kd := [.v (.slice (.str)) [0]]
def q81 (N : Nat) (x : List UInt8 × List UInt8 × Int × Int) : Option (List (List UInt8)) :=
 cnd (ieq x.2.2.2 0)
  (some ([] : List (List UInt8)))
  (cnd (seq x.2.1 ([] : List UInt8))
   (bnd (q79 N (x.1, x.2.2.2)) fun v0 =>
   some v0)
   (jn (fun (v1 : Int) =>
    grd (mkOk (imin v1 (w64 (iadd (len x.1) 1))) (imin v1 (w64 (iadd (len x.1) 1))) 16) <|
    jn (fun (v2 : (List UInt8) × Int × List (List UInt8)) =>
     grd (inb v2.2.1 (len v2.2.2)) <|
     grd (in2 (w64 (iadd v2.2.1 1)) (ofN (nlen (lset v2.2.2 (toN v2.2.1) v2.1)))) <|
     some (cutl (lset v2.2.2 (toN v2.2.1) v2.1) 0 (toN (w64 (iadd v2.2.1 1)))))
    fun v3 =>
    fixN (fun v4 (v5 : (List UInt8) × Int × List (List UInt8)) =>
     cnd (ilt v5.2.1 (w64 (isub (imin v1 (w64 (iadd (len x.1) 1))) 1)))
      (bnd (strings_Index N (v5.1, x.2.1)) fun v6 =>
      cnd (ilt v6 0)
       (v3 v5)
       (grd (in2 (w64 (iadd v6 x.2.2.1)) (len v5.1))
        (grd (inb v5.2.1 (len v5.2.2))
         (grd (in2 (w64 (iadd v6 (len x.2.1))) (len v5.1))
          (v4 (ldrop (toN (w64 (iadd v6 (len x.2.1)))) v5.1, w64 (iadd v5.2.1 1), lset v5.2.2 (toN v5.2.1) (ltake (toN (w64 (iadd v6 x.2.2.1))) v5.1)))))))
      (v3 v5)) N (x.1, 0, lrep (toN (imin v1 (w64 (iadd (len x.1) 1)))) ([] : List UInt8)))
   fun v7 =>
   cnd (ilt x.2.2.2 0)
    (bnd (q80 N (x.1, x.2.1)) fun v8 =>
    v7 (w64 (iadd v8 1)))
    (v7 x.2.2.2)))
def ps_q82 : List PK := [.k (.v (.str) []), .k (.v (.str) [])]
def rs_q82 : List Kd := [.v (.slice (.str)) [0]]
def q82 (N : Nat) (x : List UInt8 × List UInt8) : Option (List (List UInt8)) :=
 bnd (q81 N (x.1, x.2, 0, (-1))) fun v0 =>
 some v0
def ps_q83 : List PK := [.k (.v (.str) []), .k (.v (.str) [])]
def rs_q83 : List Kd := [.v (.bool) []]
def q83 (N : Nat) (x : List UInt8 × List UInt8) : Option (Bool) :=
 cnd (ile (len x.2) (len x.1))
  (grd (in2 (w64 (isub (len x.1) (len x.2))) (len x.1))
   (some (seq (ldrop (toN (w64 (isub (len x.1) (len x.2)))) x.1) x.2)))
  (some false)
def ps_q84 : List PK := [.k (.v (.str) []), .k (.v (.str) [])]
def rs_q84 : List Kd := [.v (.str) []]
def q84 (N : Nat) (x : List UInt8 × List UInt8) : Option (List UInt8) :=
 bnd (q83 N x) fun v0 =>
 cnd v0
  (grd (in2 (w64 (isub (len x.1) (len x.2))) (len x.1))
   (some (ltake (toN (w64 (isub (len x.1) (len x.2)))) x.1)))
  (some x.1)
def ps_q85 : List PK := [.k (.v (.str) []), .k (.v (.str) [])]
def rs_q85 : List Kd := [.v (.str) []]
def q85 (N : Nat) (x : List UInt8 × List UInt8) : Option (List UInt8) :=
 bnd (q84 N x) fun v0 =>
 some v0
def ps_q86 : List PK := [.k (.v (.str) [])]
def rs_q86 : List Kd := [.v (.int .i64) []]
def q86 (N : Nat) (x : List UInt8) : Option (Int) :=
 jn (fun (v0 : Int) =>
  some v0)
 fun v1 =>
 fixN (fun v2 (v3 : Int × Int) =>
  cnd (ilt v3.2 (len x))
   (grd (inb v3.2 (len x))
    (cnd (ilt (n8 (lget x (toN v3.2) 0)) (n8 48))
     (some (-1))
     (grd (inb v3.2 (len x))
      (cnd (ilt (n8 57) (n8 (lget x (toN v3.2) 0)))
       (some (-1))
       (grd (inb v3.2 (len x))
        (v2 (w64 (iadd (w64 (imul 10 v3.1)) (w64 (n8 (b8 (isub (n8 (lget x (toN v3.2) 0)) (n8 48)))))), w64 (iadd v3.2 1))))))))
   (v1 v3.1)) N (0, 0)
def ps_q87 : List PK := [.k (.v (.str) [])]
def rs_q87 : List Kd := [.v (.bool) []]
def q87 (N : Nat) (x : List UInt8) : Option (Bool) :=
 cnd (ile 1 (len x))
  (cnd (ile (len x) 9)
   (bnd (q86 N x) fun v0 =>
   some (ile 0 v0))
   (some false))
  (some false)
def ps_q88 : List PK := [.k (.b 98 (.st (.pair (.u8) (.pair Y2 (.slice Y5)))) [6, 7, 8, 9]), .k (.v (.int .i64) []), .k (.v (.int .i64) [])]
def rs_q88 : List Kd := []
def q88 (N : Nat) (x : (UInt8 × D3 × List D6) × Int × Int) : Option (UInt8 × D3 × List D6) :=
 cnd (ilt (len x.1.2.2) 50)
  (grd (room (iadd (len x.1.2.2) (len ([(x.2.1, 1, x.2.2)] : List D6))) 24)
   (some (x.1.1, x.1.2.1, lapp x.1.2.2 ([(x.2.1, 1, x.2.2)] : List D6))))
  (some x.1)
def ps_q89 : List PK := [.k (.v (.str) [])]
def rs_q89 : List Kd := [.v (.int .i64) [], .v (.int .i64) []]
def q89 (N : Nat) (x : List UInt8) : Option (Int × Int) :=
 jn (fun (v0 : Unit) =>
  grd (in2 2 (len x)) <|
  bnd (q86 N (ltake (toN 2) x)) fun v1 =>
  grd (in3 3 5 (len x)) <|
  bnd (q86 N (ldrop (toN 3) (ltake (toN 5) x))) fun v2 =>
  grd (in3 6 8 (len x)) <|
  bnd (q86 N (ldrop (toN 6) (ltake (toN 8) x))) fun v3 =>
  grd (in2 9 (len x)) <|
  bnd (q86 N (ldrop (toN 9) x)) fun v4 =>
  cnd (ilt v1 0)
   (some (0, 4))
   (cnd (ilt v2 0)
    (some (0, 4))
    (cnd (ilt 59 v2)
     (some (0, 4))
     (cnd (ilt v3 0)
      (some (0, 4))
      (cnd (ilt 59 v3)
       (some (0, 4))
       (cnd (ilt v4 0)
        (some (0, 4))
        (some (w64 (iadd (w64 (imul (w64 (iadd (w64 (imul (w64 (iadd (w64 (imul v1 60)) v2)) 60)) v3)) 1000)) v4), 0))))))))
 fun v5 =>
 cnd (ine (len x) 12)
  (some (0, 4))
  (grd (inb 2 (len x))
   (cnd (ine (n8 (lget x (toN 2) 0)) (n8 58))
    (some (0, 4))
    (grd (inb 5 (len x))
     (cnd (ine (n8 (lget x (toN 5) 0)) (n8 58))
      (some (0, 4))
      (grd (inb 8 (len x))
       (cnd (ine (n8 (lget x (toN 8) 0)) (n8 44))
        (grd (inb 8 (len x))
         (cnd (ine (n8 (lget x (toN 8) 0)) (n8 46))
          (some (0, 4))
          (v5 ())))
        (v5 ())))))))
def ps_q90 : List PK := [.k (.v (.str) [])]
def rs_q90 : List Kd := [.v (.int .i64) [], .v (.int .i64) [], .v (.bool) []]
def q90 (N : Nat) (x : List UInt8) : Option (Int × Int × Bool) :=
 cnd (ine (len x) 29)
  (some (0, 0, false))
  (grd (in3 12 17 (len x))
   (cnd (sne (ldrop (toN 12) (ltake (toN 17) x)) ([32, 45, 45, 62, 32] : List UInt8))
    (some (0, 0, false))
    (grd (in2 12 (len x))
     (bnd (q89 N (ltake (toN 12) x)) fun v0 =>
     grd (in2 17 (len x)) <|
     bnd (q89 N (ldrop (toN 17) x)) fun v1 =>
     cnd (ieq v0.2 0)
      (some (v0.1, v1.1, ieq v1.2 0))
      (some (v0.1, v1.1, false))))))
def ps_q91 : List PK := [.k (.v (.u8) []), .k (.v (.int .i64) []), .k (.v (.u8) [])]
def rs_q91 : List Kd := [.v (.int .i64) [], .v (.int .i64) []]
def q91 (N : Nat) (x : UInt8 × Int × UInt8) : Option (Int × Int) :=
 bnd (q16 N x.1) fun v0 =>
 cnd (bnot v0)
  (some (0, 3))
  (cnd (ilt (n8 x.2.2) (n8 1))
   (some (0, 3))
   (cnd (ilt (n8 3) (n8 x.2.2))
    (some (0, 3))
    (cnd (ilt x.2.1 0)
     (some (0, 2))
     (cnd (ilt 10378368000 x.2.1)
      (some (0, 2))
      (bnd (q49 N x.1) fun v1 =>
      bnd (q54 N (x.2.1, v1, x.2.2)) fun v2 =>
      bnd (q49 N x.1) fun v3 =>
      cnd (ilt 10378368000 (w64 (imul v2.1 v3)))
       (some (0, 2))
       (some (v2.1, 0)))))))
def ps_q92 : List PK := [.k (.v (.u8) []), .k (.v (.int .i64) [])]
def rs_q92 : List Kd := [.v (.int .i64) [], .v (.int .i64) []]
def q92 (N : Nat) (x : UInt8 × Int) : Option (Int × Int) :=
 bnd (q16 N x.1) fun v0 =>
 cnd (bnot v0)
  (some (0, 3))
  (cnd (ilt x.2 0)
   (some (0, 2))
   (cnd (ilt 86486400 x.2)
    (some (0, 2))
    (bnd (q91 N (x.1, w64 (imul x.2 120), 2)) fun v1 =>
    some v1)))
def ps_q93 : List PK := [.k (.v Y7 []), .k (.b 31 (.st Y3) [0]), .k (.b 9 (.str) []), .k (.b 38 Y7 [])]
def rs_q93 : List Kd := []
def q93 (N : Nat) (x : (UInt8 × Bool × Bool) × (List D2) × List UInt8 × UInt8 × Bool × Bool) : Option ((List D2) × List UInt8 × UInt8 × Bool × Bool) :=
 grd (room (iadd (len x.2.1) (len ([(x.2.2.1, x.2.2.2, ([] : List UInt8))] : List D2))) 40) <|
 some (lapp x.2.1 ([(x.2.2.1, x.2.2.2, ([] : List UInt8))] : List D2), ([] : List UInt8), x.1)
def ps_q94 : List PK := [.k (.v (.str) []), .k (.v (.str) [])]
def rs_q94 : List Kd := [.v (.bool) []]
def q94 (N : Nat) (x : List UInt8 × List UInt8) : Option (Bool) :=
 cnd (ile (len x.2) (len x.1))
  (grd (in2 (len x.2) (len x.1))
   (some (seq (ltake (toN (len x.2)) x.1) x.2)))
  (some false)
def ps_q95 : List PK := [.k (.v (.str) []), .k (.v (.str) [])]
def rs_q95 : List Kd := [.v (.bool) []]
def q95 (N : Nat) (x : List UInt8 × List UInt8) : Option (Bool) :=
 bnd (q94 N x) fun v0 =>
 some v0
def ps_q96 : List PK := [.k (.v (.str) [])]
def rs_q96 : List Kd := [.v (.st Y3) [0]]
def q96 (N : Nat) (x : List UInt8) : Option (List D2) :=
 jn (fun (v0 : (List D2) × (List UInt8) × UInt8 × Bool × Bool) =>
  bnd (q93 N (v0.2.2, v0)) fun v1 =>
  bnd (q70 N v1.1) fun v2 =>
  some v2)
 fun v3 =>
 fixN (fun v4 (v5 : (List UInt8) × (List D2) × (List UInt8) × UInt8 × Bool × Bool) =>
  cnd (sne v5.1 ([] : List UInt8))
   (jn (fun (v6 : List UInt8) =>
    jn (fun (v7 : UInt8 × Bool × Bool) =>
     bnd (q93 N (v7, v5.2)) fun v8 =>
     grd (in2 (len v6) (len v5.1)) <|
     v4 (ldrop (toN (len v6)) v5.1, v8))
    fun v9 =>
    cnd (seq v6 ([] : List UInt8))
     (grd (in2 1 (len v5.1))
      (grd (catOk (iadd (len v5.2.2.1) (len (ltake (toN 1) v5.1))))
       (grd (in2 1 (len v5.1))
        (v4 (ldrop (toN 1) v5.1, v5.2.1, lapp v5.2.2.1 (ltake (toN 1) v5.1), v5.2.2.2)))))
     (jn (fun (v10 : Bool) =>
      cnd v10
       (v9 (v5.2.2.2.1, seq v6 ([60, 105, 62] : List UInt8), v5.2.2.2.2.2))
       (cnd (seq v6 ([60, 117, 62] : List UInt8))
        (cnd (seq v6 ([60, 117, 62] : List UInt8))
         (v9 (v5.2.2.2.1, v5.2.2.2.2.1, seq v6 ([60, 117, 62] : List UInt8)))
         (v9 v5.2.2.2))
        (cnd (seq v6 ([60, 47, 117, 62] : List UInt8))
         (v9 (v5.2.2.2.1, v5.2.2.2.2.1, seq v6 ([60, 117, 62] : List UInt8)))
         (v9 v5.2.2.2))))
     fun v11 =>
     cnd (seq v6 ([60, 105, 62] : List UInt8))
      (v11 (seq v6 ([60, 105, 62] : List UInt8)))
      (v11 (seq v6 ([60, 47, 105, 62] : List UInt8)))))
   fun v12 =>
   fixN (fun v13 (v14 : (List UInt8) × Int) =>
    cnd (ilt v14.2 (len ([([60, 105, 62] : List UInt8), ([60, 47, 105, 62] : List UInt8), ([60, 117, 62] : List UInt8), ([60, 47, 117, 62] : List UInt8), ([60, 98, 62] : List UInt8), ([60, 47, 98, 62] : List UInt8)] : List (List UInt8))))
     (grd (inb v14.2 (len ([([60, 105, 62] : List UInt8), ([60, 47, 105, 62] : List UInt8), ([60, 117, 62] : List UInt8), ([60, 47, 117, 62] : List UInt8), ([60, 98, 62] : List UInt8), ([60, 47, 98, 62] : List UInt8)] : List (List UInt8))))
      (bnd (q95 N (v5.1, lget ([([60, 105, 62] : List UInt8), ([60, 47, 105, 62] : List UInt8), ([60, 117, 62] : List UInt8), ([60, 47, 117, 62] : List UInt8), ([60, 98, 62] : List UInt8), ([60, 47, 98, 62] : List UInt8)] : List (List UInt8)) (toN v14.2) [])) fun v15 =>
      cnd v15
       (v13 (lget ([([60, 105, 62] : List UInt8), ([60, 47, 105, 62] : List UInt8), ([60, 117, 62] : List UInt8), ([60, 47, 117, 62] : List UInt8), ([60, 98, 62] : List UInt8), ([60, 47, 98, 62] : List UInt8)] : List (List UInt8)) (toN v14.2) [], w64 (iadd v14.2 1)))
       (v13 (v14.1, w64 (iadd v14.2 1)))))
     (v12 v14.1)) N (([] : List UInt8), 0))
   (v3 v5.2)) N (x, ([] : List D2), ([] : List UInt8), 0, false, false)
def ps_q97 : List PK := [.k (.b 98 (.st (.pair (.u8) (.pair Y2 (.slice Y5)))) [6, 7, 8, 9]), .k (.v (.slice (.str)) []), .k (.v (.int .i64) [])]
def rs_q97 : List Kd := []
def q97 (N : Nat) (x : (UInt8 × D3 × List D6) × List (List UInt8) × Int) : Option (UInt8 × D3 × List D6) :=
 jn (fun (v0 : (List (List UInt8)) × Int) =>
  grd (inb 0 (len v0.1)) <|
  bnd (q90 N (lget v0.1 (toN 0) [])) fun v1 =>
  cnd (bnot v1.2.2)
   (bnd (q88 N (x.1, v0.2, 4)) fun v2 =>
   some v2)
   (cnd (ile 400 (len x.1.2.1.2.2.2.2.2.2.1))
    (bnd (q88 N (x.1, v0.2, 9)) fun v3 =>
    some v3)
    (bnd (q92 N (x.1.1, v1.1)) fun v4 =>
    cnd (ine v4.2 0)
     (bnd (q88 N (x.1, v0.2, v4.2)) fun v5 =>
     some v5)
     (bnd (q92 N (x.1.1, v1.2.1)) fun v6 =>
     cnd (ine v6.2 0)
      (bnd (q88 N (x.1, v0.2, v6.2)) fun v7 =>
      some v7)
      (jn (fun (v8 : D1) =>
       bnd (q40 N (v8, ([] : List D4))) fun v9 =>
       cnd (ine v9 0)
        (bnd (q88 N (x.1, v0.2, v9)) fun v10 =>
        some v10)
        (grd (room (iadd (len x.1.2.1.2.2.2.2.2.2.1) (len ([v8] : List D1))) 88)
         (some (x.1.1, (x.1.2.1.1, x.1.2.1.2.1, x.1.2.1.2.2.1, x.1.2.1.2.2.2.1, x.1.2.1.2.2.2.2.1, x.1.2.1.2.2.2.2.2.1, lapp x.1.2.1.2.2.2.2.2.2.1 ([v8] : List D1), x.1.2.1.2.2.2.2.2.2.2), x.1.2.2))))
      fun v11 =>
      grd (in2 1 (len v0.1)) <|
      fixN (fun v12 (v13 : Int × Int × (Int × Int) × (List UInt8) × UInt8 × (List UInt8) × List (List D2)) =>
       cnd (ilt v13.1 (len (ldrop (toN 1) v0.1)))
        (grd (inb v13.1 (len (ldrop (toN 1) v0.1)))
         (bnd (q96 N (lget (ldrop (toN 1) v0.1) (toN v13.1) [])) fun v14 =>
         grd (room (iadd (len v13.2.2.2.2.2.2) (len ([v14] : List (List D2)))) 24) <|
         v12 (w64 (iadd v13.1 1), v13.2.1, v13.2.2.1, v13.2.2.2.1, v13.2.2.2.2.1, v13.2.2.2.2.2.1, lapp v13.2.2.2.2.2.2 ([v14] : List (List D2)))))
        (v11 v13.2)) N (0, w64 (iadd (len x.1.2.1.2.2.2.2.2.2.1) 1), (v4.1, v6.1), ([] : List UInt8), 1, ([] : List UInt8), ([] : List (List D2))))))))
 fun v15 =>
 grd (inb 0 (len x.2.1)) <|
 bnd (q87 N (lget x.2.1 (toN 0) [])) fun v16 =>
 cnd v16
  (cnd (ieq (len x.2.1) 1)
   (bnd (q88 N (x.1, x.2.2, 4)) fun v17 =>
   some v17)
   (grd (in2 1 (len x.2.1))
    (v15 (ldrop (toN 1) x.2.1, w64 (iadd x.2.2 1)))))
  (v15 x.2)
def ps_q98 : List PK := [.k (.v (.slice (.st Y3)) [])]
def rs_q98 : List Kd := [.v (.slice (.st Y3)) [0]]
def q98 (N : Nat) (x : List (List D2)) : Option (List (List D2)) :=
 cnd (ine (len x) 0)
  (grd (room (iadd (len ([] : List (List D2))) (len x)) 24)
   (some (lapp ([] : List (List D2)) x)))
  (univ fun v0 =>
  cnd v0
   (some ([] : List (List D2)))
   (grd (room (iadd (len ([] : List (List D2))) (len x)) 24)
    (some (lapp ([] : List (List D2)) x))))
def ps_q99 : List PK := [.k (.v Y3 [])]
def rs_q99 : List Kd := [.v Y3 [0]]
def q99 (N : Nat) (x : List D2) : Option (List D2) :=
 cnd (ine (len x) 0)
  (grd (room (iadd (len ([] : List D2)) (len x)) 40)
   (some (lapp ([] : List D2) x)))
  (univ fun v0 =>
  cnd v0
   (some ([] : List D2))
   (grd (room (iadd (len ([] : List D2)) (len x)) 40)
    (some (lapp ([] : List D2) x))))
def ps_q100 : List PK := [.k (.v (.slice (.st Y3)) [])]
def rs_q100 : List Kd := [.v (.slice (.st Y3)) [0]]
def q100 (N : Nat) (x : List (List D2)) : Option (List (List D2)) :=
 bnd (q98 N x) fun v0 =>
 jn (fun (v1 : List (List D2)) =>
  some v1)
 fun v2 =>
 fixN (fun v3 (v4 : Int × List (List D2)) =>
  cnd (ilt v4.1 (len v0))
   (grd (inb v4.1 (len v4.2))
    (bnd (q99 N (lget v4.2 (toN v4.1) [])) fun v5 =>
    grd (inb v4.1 (len v4.2)) <|
    v3 (w64 (iadd v4.1 1), lset v4.2 (toN v4.1) v5)))
   (v2 v4.2)) N (0, v0)
def ps_q101 : List PK := [.k (.v Y1 [])]
def rs_q101 : List Kd := [.v Y1 [6]]
def q101 (N : Nat) (x : D1) : Option D1 :=
 bnd (q100 N x.2.2.2.2.2) fun v0 =>
 some (x.1, x.2.1, x.2.2.1, x.2.2.2.1, x.2.2.2.2.1, v0)
def ps_q102 : List PK := [.k (.v Y1 []), .k (.v Y1 [])]
def rs_q102 : List Kd := [.v (.int .i64) []]
def q102 (N : Nat) (x : D1 × Int × (Int × Int) × (List UInt8) × UInt8 × (List UInt8) × List (List D2)) : Option (Int) :=
 bnd (q42 N (x.1.2.1.1, x.2.2.1.1)) fun v0 =>
 bnd (q42 N (x.1.1, x.2.1)) fun v1 =>
 bnd (q43 N ([v0, v1] : List Int)) fun v2 =>
 some v2
def ps_q103 : List PK := [.k (.r 4 Y1), .k (.v (.int .i64) []), .k (.v (.int .i64) []), .fn 110]
def rs_q103 : List Kd := []
def q103 (N : Nat) (x : (List D1) × Int × Int) : Option (List D1) :=
 fixN (fun v0 (v1 : Int × List D1) =>
  cnd (ilt v1.1 x.2.2)
   (jn (fun (v2 : List D1) =>
    v0 (w64 (iadd v1.1 1), v2))
   fun v3 =>
   fixN (fun v4 (v5 : Int × List D1) =>
    cnd (ilt x.2.1 v5.1)
     (grd (inb v5.1 (len v5.2))
      (grd (inb (w64 (isub v5.1 1)) (len v5.2))
       (bnd (q102 N (lget v5.2 (toN v5.1) (0, ((0, 0), ([], (0, ([], []))))), lget v5.2 (toN (w64 (isub v5.1 1))) (0, ((0, 0), ([], (0, ([], []))))))) fun v6 =>
       cnd (ilt v6 0)
        (grd (inb (w64 (isub v5.1 1)) (len v5.2))
         (grd (inb v5.1 (len v5.2))
          (grd (inb v5.1 (len v5.2))
           (grd (inb (w64 (isub v5.1 1)) (len (lset v5.2 (toN v5.1) (lget v5.2 (toN (w64 (isub v5.1 1))) (0, ((0, 0), ([], (0, ([], [])))))))))
            (v4 (w64 (isub v5.1 1), lset (lset v5.2 (toN v5.1) (lget v5.2 (toN (w64 (isub v5.1 1))) (0, ((0, 0), ([], (0, ([], []))))))) (toN (w64 (isub v5.1 1))) (lget v5.2 (toN v5.1) (0, ((0, 0), ([], (0, ([], []))))))))))))
        (v3 v5.2))))
     (v3 v5.2)) N v1)
   (some v1.2)) N (w64 (iadd x.2.1 1), x.1)
def ps_q104 : List PK := [.k (.r 4 Y1), .k (.v (.int .i64) []), .k (.v (.int .i64) []), .k (.v (.int .i64) []), .fn 110]
def rs_q104 : List Kd := []
def q104 (N : Nat) (x : (List D1) × Int × Int × Int) : Option (List D1) :=
 fixN (fun v0 (v1 : Int × List D1) =>
  cnd (ilt v1.1 x.2.2.2)
   (grd (inb (w64 (iadd x.2.2.1 v1.1)) (len v1.2))
    (grd (inb (w64 (iadd x.2.1 v1.1)) (len v1.2))
     (grd (inb (w64 (iadd x.2.1 v1.1)) (len v1.2))
      (grd (inb (w64 (iadd x.2.2.1 v1.1)) (len (lset v1.2 (toN (w64 (iadd x.2.1 v1.1))) (lget v1.2 (toN (w64 (iadd x.2.2.1 v1.1))) (0, ((0, 0), ([], (0, ([], [])))))))))
       (v0 (w64 (iadd v1.1 1), lset (lset v1.2 (toN (w64 (iadd x.2.1 v1.1))) (lget v1.2 (toN (w64 (iadd x.2.2.1 v1.1))) (0, ((0, 0), ([], (0, ([], []))))))) (toN (w64 (iadd x.2.2.1 v1.1))) (lget v1.2 (toN (w64 (iadd x.2.1 v1.1))) (0, ((0, 0), ([], (0, ([], []))))))))))))
   (some v1.2)) N (0, x.1)
def ps_q105 : List PK := [.k (.r 4 Y1), .k (.v (.int .i64) []), .k (.v (.int .i64) []), .k (.v (.int .i64) []), .fn 110]
def rs_q105 : List Kd := []
def q105 (N : Nat) (x : (List D1) × Int × Int × Int) : Option (List D1) :=
 jn (fun (v0 : Int × List D1) =>
  bnd (q104 N (v0.2, w64 (isub x.2.2.1 v0.1), x.2.2.1, v0.1)) fun v1 =>
  some v1)
 fun v2 =>
 fixN (fun v3 (v4 : Int × Int × List D1) =>
  cnd (ine v4.1 v4.2.1)
   (cnd (ilt v4.2.1 v4.1)
    (bnd (q104 N (v4.2.2, w64 (isub x.2.2.1 v4.1), x.2.2.1, v4.2.1)) fun v5 =>
    v3 (w64 (isub v4.1 v4.2.1), v4.2.1, v5))
    (bnd (q104 N (v4.2.2, w64 (isub x.2.2.1 v4.1), w64 (isub (w64 (iadd x.2.2.1 v4.2.1)) v4.1), v4.1)) fun v6 =>
    v3 (v4.1, w64 (isub v4.2.1 v4.1), v6)))
   (v2 (v4.1, v4.2.2))) N (w64 (isub x.2.2.1 x.2.1), w64 (isub x.2.2.2 x.2.2.1), x.1)
def ps_q106 : List PK := [.k (.r 4 Y1), .k (.v (.int .i64) []), .k (.v (.int .i64) []), .k (.v (.int .i64) []), .fn 110]
def rs_q106 : List Kd := []
def q106_r (N : Nat) : Nat → ((List D1) × Int × Int × Int) → Option (List D1)
 | 0, _ => none
 | D + 1, x => jn (fun (v0 : Unit) =>
   jn (fun (v1 : Unit) =>
    jn (fun (v2 : Int × Int) =>
     jn (fun (v3 : Int) =>
      jn (fun (v4 : List D1) =>
       jn (fun (v5 : List D1) =>
        cnd (ilt (w64 (shrk .u64 (wr .u64 (w64 (iadd x.2.1 x.2.2.2))) 1)) (w64 (isub (w64 (iadd (w64 (shrk .u64 (wr .u64 (w64 (iadd x.2.1 x.2.2.2))) 1)) x.2.2.1)) v3)))
         (cnd (ilt (w64 (isub (w64 (iadd (w64 (shrk .u64 (wr .u64 (w64 (iadd x.2.1 x.2.2.2))) 1)) x.2.2.1)) v3)) x.2.2.2)
          (bnd (q106_r N D (v5, w64 (shrk .u64 (wr .u64 (w64 (iadd x.2.1 x.2.2.2))) 1), w64 (isub (w64 (iadd (w64 (shrk .u64 (wr .u64 (w64 (iadd x.2.1 x.2.2.2))) 1)) x.2.2.1)) v3), x.2.2.2)) fun v6 =>
          some v6)
          (some v5))
         (some v5))
       fun v7 =>
       cnd (ilt x.2.1 v3)
        (cnd (ilt v3 (w64 (shrk .u64 (wr .u64 (w64 (iadd x.2.1 x.2.2.2))) 1)))
         (bnd (q106_r N D (v4, x.2.1, v3, w64 (shrk .u64 (wr .u64 (w64 (iadd x.2.1 x.2.2.2))) 1))) fun v8 =>
         v7 v8)
         (v7 v4))
        (v7 v4))
      fun v9 =>
      cnd (ilt v3 x.2.2.1)
       (cnd (ilt x.2.2.1 (w64 (isub (w64 (iadd (w64 (shrk .u64 (wr .u64 (w64 (iadd x.2.1 x.2.2.2))) 1)) x.2.2.1)) v3)))
        (bnd (q105 N (x.1, v3, x.2.2.1, w64 (isub (w64 (iadd (w64 (shrk .u64 (wr .u64 (w64 (iadd x.2.1 x.2.2.2))) 1)) x.2.2.1)) v3))) fun v10 =>
        v9 v10)
        (v9 x.1))
       (v9 x.1))
     fun v11 =>
     fixN (fun v12 (v13 : Int × Int) =>
      cnd (ilt v13.1 v13.2)
       (grd (inb (w64 (isub (w64 (isub (w64 (iadd (w64 (shrk .u64 (wr .u64 (w64 (iadd x.2.1 x.2.2.2))) 1)) x.2.2.1)) 1)) (w64 (shrk .u64 (wr .u64 (w64 (iadd v13.1 v13.2))) 1)))) (len x.1))
        (grd (inb (w64 (shrk .u64 (wr .u64 (w64 (iadd v13.1 v13.2))) 1)) (len x.1))
         (bnd (q102 N (lget x.1 (toN (w64 (isub (w64 (isub (w64 (iadd (w64 (shrk .u64 (wr .u64 (w64 (iadd x.2.1 x.2.2.2))) 1)) x.2.2.1)) 1)) (w64 (shrk .u64 (wr .u64 (w64 (iadd v13.1 v13.2))) 1))))) (0, ((0, 0), ([], (0, ([], []))))), lget x.1 (toN (w64 (shrk .u64 (wr .u64 (w64 (iadd v13.1 v13.2))) 1))) (0, ((0, 0), ([], (0, ([], []))))))) fun v14 =>
         cnd (bnot (ilt v14 0))
          (v12 (w64 (iadd (w64 (shrk .u64 (wr .u64 (w64 (iadd v13.1 v13.2))) 1)) 1), v13.2))
          (v12 (v13.1, w64 (shrk .u64 (wr .u64 (w64 (iadd v13.1 v13.2))) 1))))))
       (v11 v13.1)) N v2)
    fun v15 =>
    cnd (ilt (w64 (shrk .u64 (wr .u64 (w64 (iadd x.2.1 x.2.2.2))) 1)) x.2.2.1)
     (v15 (w64 (isub (w64 (iadd (w64 (shrk .u64 (wr .u64 (w64 (iadd x.2.1 x.2.2.2))) 1)) x.2.2.1)) x.2.2.2), w64 (shrk .u64 (wr .u64 (w64 (iadd x.2.1 x.2.2.2))) 1)))
     (v15 (x.2.1, x.2.2.1)))
   fun v16 =>
   cnd (ieq (w64 (isub x.2.2.2 x.2.2.1)) 1)
    (jn (fun (v17 : Int) =>
     jn (fun (v18 : List D1) =>
      some v18)
     fun v19 =>
     fixN (fun v20 (v21 : Int × List D1) =>
      cnd (ilt v17 v21.1)
       (grd (inb (w64 (isub v21.1 1)) (len v21.2))
        (grd (inb v21.1 (len v21.2))
         (grd (inb v21.1 (len v21.2))
          (grd (inb (w64 (isub v21.1 1)) (len (lset v21.2 (toN v21.1) (lget v21.2 (toN (w64 (isub v21.1 1))) (0, ((0, 0), ([], (0, ([], [])))))))))
           (v20 (w64 (isub v21.1 1), lset (lset v21.2 (toN v21.1) (lget v21.2 (toN (w64 (isub v21.1 1))) (0, ((0, 0), ([], (0, ([], []))))))) (toN (w64 (isub v21.1 1))) (lget v21.2 (toN v21.1) (0, ((0, 0), ([], (0, ([], []))))))))))))
       (v19 v21.2)) N (x.2.2.1, x.1))
    fun v22 =>
    fixN (fun v23 (v24 : Int × Int) =>
     cnd (ilt v24.1 v24.2)
      (grd (inb x.2.2.1 (len x.1))
       (grd (inb (w64 (shrk .u64 (wr .u64 (w64 (iadd v24.1 v24.2))) 1)) (len x.1))
        (bnd (q102 N (lget x.1 (toN x.2.2.1) (0, ((0, 0), ([], (0, ([], []))))), lget x.1 (toN (w64 (shrk .u64 (wr .u64 (w64 (iadd v24.1 v24.2))) 1))) (0, ((0, 0), ([], (0, ([], []))))))) fun v25 =>
        cnd (bnot (ilt v25 0))
         (v23 (w64 (iadd (w64 (shrk .u64 (wr .u64 (w64 (iadd v24.1 v24.2))) 1)) 1), v24.2))
         (v23 (v24.1, w64 (shrk .u64 (wr .u64 (w64 (iadd v24.1 v24.2))) 1))))))
      (v22 v24.1)) N (x.2.1, x.2.2.1))
    (v16 ()))
  fun v26 =>
  cnd (ieq (w64 (isub x.2.2.1 x.2.1)) 1)
   (jn (fun (v27 : Int) =>
    jn (fun (v28 : List D1) =>
     some v28)
    fun v29 =>
    fixN (fun v30 (v31 : Int × List D1) =>
     cnd (ilt v31.1 (w64 (isub v27 1)))
      (grd (inb (w64 (iadd v31.1 1)) (len v31.2))
       (grd (inb v31.1 (len v31.2))
        (grd (inb v31.1 (len v31.2))
         (grd (inb (w64 (iadd v31.1 1)) (len (lset v31.2 (toN v31.1) (lget v31.2 (toN (w64 (iadd v31.1 1))) (0, ((0, 0), ([], (0, ([], [])))))))))
          (v30 (w64 (iadd v31.1 1), lset (lset v31.2 (toN v31.1) (lget v31.2 (toN (w64 (iadd v31.1 1))) (0, ((0, 0), ([], (0, ([], []))))))) (toN (w64 (iadd v31.1 1))) (lget v31.2 (toN v31.1) (0, ((0, 0), ([], (0, ([], []))))))))))))
      (v29 v31.2)) N (x.2.1, x.1))
   fun v32 =>
   fixN (fun v33 (v34 : Int × Int) =>
    cnd (ilt v34.1 v34.2)
     (grd (inb (w64 (shrk .u64 (wr .u64 (w64 (iadd v34.1 v34.2))) 1)) (len x.1))
      (grd (inb x.2.1 (len x.1))
       (bnd (q102 N (lget x.1 (toN (w64 (shrk .u64 (wr .u64 (w64 (iadd v34.1 v34.2))) 1))) (0, ((0, 0), ([], (0, ([], []))))), lget x.1 (toN x.2.1) (0, ((0, 0), ([], (0, ([], []))))))) fun v35 =>
       cnd (ilt v35 0)
        (v33 (w64 (iadd (w64 (shrk .u64 (wr .u64 (w64 (iadd v34.1 v34.2))) 1)) 1), v34.2))
        (v33 (v34.1, w64 (shrk .u64 (wr .u64 (w64 (iadd v34.1 v34.2))) 1))))))
     (v32 v34.1)) N x.2.2)
   (v26 ())
def q106 (N : Nat) (x : (List D1) × Int × Int × Int) : Option (List D1) := q106_r N N x
def ps_q107 : List PK := [.k (.r 4 Y1), .k (.v (.int .i64) []), .fn 110]
def rs_q107 : List Kd := []
def q107 (N : Nat) (x : (List D1) × Int) : Option (List D1) :=
 jn (fun (v0 : Int × List D1) =>
  bnd (q103 N (v0.2, v0.1, x.2)) fun v1 =>
  fixN (fun v2 (v3 : Int × List D1) =>
   cnd (ilt v3.1 x.2)
    (jn (fun (v4 : Int × List D1) =>
     cnd (ilt (w64 (iadd v4.1 v3.1)) x.2)
      (bnd (q106 N (v4.2, v4.1, w64 (iadd v4.1 v3.1), x.2)) fun v5 =>
      v2 (w64 (imul v3.1 2), v5))
      (v2 (w64 (imul v3.1 2), v4.2)))
    fun v6 =>
    fixN (fun v7 (v8 : Int × Int × List D1) =>
     cnd (ile v8.2.1 x.2)
      (bnd (q106 N (v8.2.2, v8.1, w64 (iadd v8.1 v3.1), v8.2.1)) fun v9 =>
      v7 (v8.2.1, w64 (iadd v8.2.1 (w64 (imul 2 v3.1))), v9))
      (v6 (v8.1, v8.2.2))) N (0, w64 (imul 2 v3.1), v3.2))
    (some v3.2)) N (20, v1))
 fun v10 =>
 fixN (fun v11 (v12 : Int × Int × List D1) =>
  cnd (ile v12.2.1 x.2)
   (bnd (q103 N (v12.2.2, v12.1, v12.2.1)) fun v13 =>
   v11 (v12.2.1, w64 (iadd v12.2.1 20), v13))
   (v10 (v12.1, v12.2.2))) N (0, 20, x.1)
def ps_q108 : List PK := [.k (.r 4 Y1), .fn 110]
def rs_q108 : List Kd := []
def q108 (N : Nat) (x : List D1) : Option (List D1) :=
 bnd (q107 N (x, len x)) fun v0 =>
 some v0
def ps_q109 : List PK := [.k (.v (.slice Y1) [])]
def rs_q109 : List Kd := [.v (.slice Y1) [0]]
def q109 (N : Nat) (x : List D1) : Option (List D1) :=
 jn (fun (v0 : List D1) =>
  bnd (q108 N v0) fun v1 =>
  some v1)
 fun v2 =>
 fixN (fun v3 (v4 : (List D1) × Int) =>
  cnd (ilt v4.2 (len x))
   (grd (inb v4.2 (len x))
    (bnd (q101 N (lget x (toN v4.2) (0, ((0, 0), ([], (0, ([], []))))))) fun v5 =>
    grd (room (iadd (len v4.1) (len ([v5] : List D1))) 88) <|
    v3 (lapp v4.1 ([v5] : List D1), w64 (iadd v4.2 1))))
   (v2 v4.1)) N (([] : List D1), 0)
def ps_q110 : List PK := [.k (.v (.str) []), .k (.v (.u8) []), .k (.v (.bool) [])]
def rs_q110 : List Kd := [.v Y2 [5, 6, 7], .v (.slice Y5) [0]]
def q110 (N : Nat) (x : List UInt8 × UInt8 × Bool) : Option (D3 × List D6) :=
 jn (fun (v0 : Unit) =>
  bnd (q82 N (x.1, ([10] : List UInt8))) fun v1 =>
  grd (room (iadd (len v1) (len ([([] : List UInt8)] : List (List UInt8)))) 16) <|
  jn (fun (v2 : UInt8 × D3 × List D6) =>
   bnd (q109 N v2.2.1.2.2.2.2.2.2.1) fun v3 =>
   some ((v2.2.1.1, v2.2.1.2.1, v2.2.1.2.2.1, v2.2.1.2.2.2.1, len v3, v2.2.1.2.2.2.2.2.1, v3, v2.2.1.2.2.2.2.2.2.2), v2.2.2))
  fun v4 =>
  fixN (fun v5 (v6 : (List (List UInt8)) × Int × UInt8 × D3 × List D6) =>
   cnd (ilt v6.2.1 (len (lapp v1 ([([] : List UInt8)] : List (List UInt8)))))
    (grd (inb v6.2.1 (len (lapp v1 ([([] : List UInt8)] : List (List UInt8)))))
     (bnd (q85 N (lget (lapp v1 ([([] : List UInt8)] : List (List UInt8))) (toN v6.2.1) [], ([13] : List UInt8))) fun v7 =>
     cnd (sne v7 ([] : List UInt8))
      (grd (room (iadd (len v6.1) (len ([v7] : List (List UInt8)))) 16)
       (v5 (lapp v6.1 ([v7] : List (List UInt8)), w64 (iadd v6.2.1 1), v6.2.2)))
      (cnd (ilt 0 (len v6.1))
       (bnd (q97 N (v6.2.2, v6.1, w64 (iadd (w64 (isub v6.2.1 (len v6.1))) 1))) fun v8 =>
       v5 (([] : List (List UInt8)), w64 (iadd v6.2.1 1), v8))
       (v5 (([] : List (List UInt8)), w64 (iadd v6.2.1 1), v6.2.2)))))
    (v4 v6.2.2)) N (([] : List (List UInt8)), 0, x.2.1, (([] : List UInt8), ([] : List UInt8), x.2.1, x.2.2, 0, ([] : List D4), ([] : List D1), ([] : List D5)), ([] : List D6)))
 fun v9 =>
 bnd (q16 N x.2.1) fun v10 =>
 cnd (bnot v10)
  (some ((([] : List UInt8), ([] : List UInt8), 0, false, 0, ([] : List D4), ([] : List D1), ([] : List D5)), ([(1, 1, 13)] : List D6)))
  (cnd x.2.2
   (bnd (q17 N x.2.1) fun v11 =>
   cnd (bnot v11)
    (some ((([] : List UInt8), ([] : List UInt8), 0, false, 0, ([] : List D4), ([] : List D1), ([] : List D5)), ([(1, 1, 13)] : List D6)))
    (cnd (ilt 262144 (len x.1))
     (some ((([] : List UInt8), ([] : List UInt8), 0, false, 0, ([] : List D4), ([] : List D1), ([] : List D5)), ([(1, 1, 9)] : List D6)))
     (v9 ())))
   (cnd (ilt 262144 (len x.1))
    (some ((([] : List UInt8), ([] : List UInt8), 0, false, 0, ([] : List D4), ([] : List D1), ([] : List D5)), ([(1, 1, 9)] : List D6)))
    (v9 ())))
def ps_q111 : List PK := [.k (.v Y3 []), .k (.v Y3 [])]
def rs_q111 : List Kd := [.v (.bool) []]
def q111 (N : Nat) (x : (List D2) × List D2) : Option (Bool) :=
 cnd (ine (len x.1) (len x.2))
  (some false)
  (jn (fun (v0 : Unit) =>
   some true)
  fun v1 =>
  fixN (fun v2 (v3 : Int) =>
   cnd (ilt v3 (len x.1))
    (grd (inb v3 (len x.1))
     (grd (inb v3 (len x.2))
      (cnd (bnot (band (seq (lget x.1 (toN v3) ([], ((0, (false, false)), []))).1 (lget x.2 (toN v3) ([], ((0, (false, false)), []))).1) (band (band (ieq (n8 (lget x.1 (toN v3) ([], ((0, (false, false)), []))).2.1.1) (n8 (lget x.2 (toN v3) ([], ((0, (false, false)), []))).2.1.1)) (band (beqb (lget x.1 (toN v3) ([], ((0, (false, false)), []))).2.1.2.1 (lget x.2 (toN v3) ([], ((0, (false, false)), []))).2.1.2.1) (beqb (lget x.1 (toN v3) ([], ((0, (false, false)), []))).2.1.2.2 (lget x.2 (toN v3) ([], ((0, (false, false)), []))).2.1.2.2))) (seq (lget x.1 (toN v3) ([], ((0, (false, false)), []))).2.2 (lget x.2 (toN v3) ([], ((0, (false, false)), []))).2.2))))
       (some false)
       (v2 (w64 (iadd v3 1))))))
    (v1 ())) N 0)
def ps_q112 : List PK := [.k (.v (.st Y3) []), .k (.v (.st Y3) [])]
def rs_q112 : List Kd := [.v (.bool) []]
def q112 (N : Nat) (x : (List D2) × List D2) : Option (Bool) :=
 bnd (q111 N x) fun v0 =>
 some v0
def ps_l19_awake : List PK := []
def rs_l19_awake : List Kd := [.v (.bool) []]
def l19_awake (N : Nat) (x : Unit) : Option (Bool) :=
 bnd (q76 N (([] : List UInt8), ([] : List UInt8), 3, false, 7, ([] : List D4), ([(7, (25, 50), ([] : List UInt8), 2, ([] : List UInt8), ([([(([89, 101, 115, 44, 32] : List UInt8), (0, false, false), ([] : List UInt8)), (([110, 111, 119] : List UInt8), (0, true, false), ([] : List UInt8))] : List D2)] : List (List D2)))] : List D1), ([] : List D5))) fun v0 =>
 bnd (q59 N 3723004) fun v1 =>
 cnd (ine v0.2 0)
  (some false)
  (cnd (ine v1.2 0)
   (some false)
   (cnd (sne v0.1 ([49, 10, 48, 48, 58, 48, 48, 58, 48, 49, 44, 48, 48, 48, 32, 45, 45, 62, 32, 48, 48, 58, 48, 48, 58, 48, 50, 44, 48, 48, 48, 10, 89, 101, 115, 44, 32, 60, 105, 62, 110, 111, 119, 60, 47, 105, 62, 10, 10] : List UInt8))
    (some false)
    (cnd (sne v1.1 ([48, 49, 58, 48, 50, 58, 48, 51, 44, 48, 48, 52] : List UInt8))
     (some false)
     (bnd (q110 N (([48, 48, 58, 48, 48, 58, 48, 49, 46, 48, 48, 48, 32, 45, 45, 62, 32, 48, 48, 58, 48, 48, 58, 48, 50, 46, 48, 48, 48, 13, 10, 72, 105, 13, 10] : List UInt8), 3, false)) fun v2 =>
     cnd (ine (len v2.2) 0)
      (some false)
      (cnd (ine (len v2.1.2.2.2.2.2.2.1) 1)
       (some false)
       (grd (inb 0 (len v2.1.2.2.2.2.2.2.1))
        (cnd (bnot (band (ieq (lget v2.1.2.2.2.2.2.2.1 (toN 0) (0, ((0, 0), ([], (0, ([], [])))))).2.1.1 25) (ieq (lget v2.1.2.2.2.2.2.2.1 (toN 0) (0, ((0, 0), ([], (0, ([], [])))))).2.1.2 50)))
         (some false)
         (grd (inb 0 (len v2.1.2.2.2.2.2.2.1))
          (cnd (ine (len (lget v2.1.2.2.2.2.2.2.1 (toN 0) (0, ((0, 0), ([], (0, ([], [])))))).2.2.2.2.2) 1)
           (some false)
           (grd (inb 0 (len v2.1.2.2.2.2.2.2.1))
            (grd (inb 0 (len (lget v2.1.2.2.2.2.2.2.1 (toN 0) (0, ((0, 0), ([], (0, ([], [])))))).2.2.2.2.2))
             (bnd (q32 N (lget (lget v2.1.2.2.2.2.2.2.1 (toN 0) (0, ((0, 0), ([], (0, ([], [])))))).2.2.2.2.2 (toN 0) [])) fun v3 =>
             cnd (sne v3 ([72, 105] : List UInt8))
              (some false)
              (bnd (q96 N ([60, 105, 62, 97, 60, 47, 105, 62, 60, 98, 62, 98, 60, 99, 62] : List UInt8)) fun v4 =>
              bnd (q112 N (v4, ([(([97] : List UInt8), (0, true, false), ([] : List UInt8)), (([98, 60, 99, 62] : List UInt8), (0, false, false), ([] : List UInt8))] : List D2))) fun v5 =>
              some v5)))))))))))))
def ps_l19_few : List PK := [.k (.v Y2 [])]
def rs_l19_few : List Kd := [.v Y2 []]
def l19_few (N : Nat) (x : D3) : Option D3 :=
 grd (in2 (imin (len x.2.2.2.2.2.2.1) 6) (len x.2.2.2.2.2.2.1)) <|
 grd (in2 (imin (len x.2.2.2.2.2.2.2) 4) (len x.2.2.2.2.2.2.2)) <|
 some (x.1, x.2.1, x.2.2.1, x.2.2.2.1, x.2.2.2.2.1, x.2.2.2.2.2.1, ltake (toN (imin (len x.2.2.2.2.2.2.1) 6)) x.2.2.2.2.2.2.1, ltake (toN (imin (len x.2.2.2.2.2.2.2) 4)) x.2.2.2.2.2.2.2)
def ps_strings_Replace : List PK := [.k (.v (.str) []), .k (.v (.str) []), .k (.v (.str) []), .k (.v (.int .i64) [])]
def rs_strings_Replace : List Kd := [.v (.str) []]
def strings_Replace (N : Nat) (x : List UInt8 × List UInt8 × List UInt8 × Int) : Option (List UInt8) := hand_strings_Replace N x
def ps_q113 : List PK := [.k (.v Y2 [])]
def rs_q113 : List Kd := [.v (.st (.pair (.str) (.pair (.str) (.pair (.u8) (.pair (.bool) (.int .i64)))))) []]
def q113 (N : Nat) (x : D3) : Option ((List UInt8) × (List UInt8) × UInt8 × Bool × Int) :=
 some (x.1, x.2.1, x.2.2.1, x.2.2.2.1, x.2.2.2.2.1)
def ps_q114 : List PK := [.k (.v (.slice Y4) []), .k (.v (.slice Y4) [])]
def rs_q114 : List Kd := [.v (.bool) []]
def q114 (N : Nat) (x : (List D4) × List D4) : Option (Bool) :=
 cnd (ine (len x.1) (len x.2))
  (some false)
  (jn (fun (v0 : Unit) =>
   some true)
  fun v1 =>
  fixN (fun v2 (v3 : Int) =>
   cnd (ilt v3 (len x.1))
    (grd (inb v3 (len x.1))
     (grd (inb v3 (len x.2))
      (cnd (bnot (band (seq (lget x.1 (toN v3) ([], (0, (0, (0, (0, (0, false))))))).1 (lget x.2 (toN v3) ([], (0, (0, (0, (0, (0, false))))))).1) (band (ieq (lget x.1 (toN v3) ([], (0, (0, (0, (0, (0, false))))))).2.1 (lget x.2 (toN v3) ([], (0, (0, (0, (0, (0, false))))))).2.1) (band (ieq (lget x.1 (toN v3) ([], (0, (0, (0, (0, (0, false))))))).2.2.1 (lget x.2 (toN v3) ([], (0, (0, (0, (0, (0, false))))))).2.2.1) (band (ieq (lget x.1 (toN v3) ([], (0, (0, (0, (0, (0, false))))))).2.2.2.1 (lget x.2 (toN v3) ([], (0, (0, (0, (0, (0, false))))))).2.2.2.1) (band (ieq (lget x.1 (toN v3) ([], (0, (0, (0, (0, (0, false))))))).2.2.2.2.1 (lget x.2 (toN v3) ([], (0, (0, (0, (0, (0, false))))))).2.2.2.2.1) (band (ieq (n8 (lget x.1 (toN v3) ([], (0, (0, (0, (0, (0, false))))))).2.2.2.2.2.1) (n8 (lget x.2 (toN v3) ([], (0, (0, (0, (0, (0, false))))))).2.2.2.2.2.1)) (beqb (lget x.1 (toN v3) ([], (0, (0, (0, (0, (0, false))))))).2.2.2.2.2.2 (lget x.2 (toN v3) ([], (0, (0, (0, (0, (0, false))))))).2.2.2.2.2.2))))))))
       (some false)
       (v2 (w64 (iadd v3 1))))))
    (v1 ())) N 0)
def ps_q115 : List PK := [.k (.v (.slice (.st Y3)) []), .k (.v (.slice (.st Y3)) []), .fn 20]
def rs_q115 : List Kd := [.v (.bool) []]
def q115 (N : Nat) (x : (List (List D2)) × List (List D2)) : Option (Bool) :=
 cnd (ine (len x.1) (len x.2))
  (some false)
  (jn (fun (v0 : Unit) =>
   some true)
  fun v1 =>
  fixN (fun v2 (v3 : Int) =>
   cnd (ilt v3 (len x.1))
    (grd (inb v3 (len x.1))
     (grd (inb v3 (len x.2))
      (bnd (q112 N (lget x.1 (toN v3) [], lget x.2 (toN v3) [])) fun v4 =>
      cnd (bnot v4)
       (some false)
       (v2 (w64 (iadd v3 1))))))
    (v1 ())) N 0)
def ps_q116 : List PK := [.k (.v (.slice (.st Y3)) []), .k (.v (.slice (.st Y3)) [])]
def rs_q116 : List Kd := [.v (.bool) []]
def q116 (N : Nat) (x : (List (List D2)) × List (List D2)) : Option (Bool) :=
 bnd (q115 N x) fun v0 =>
 some v0
def ps_q117 : List PK := [.k (.v Y1 []), .k (.v Y1 [])]
def rs_q117 : List Kd := [.v (.bool) []]
def q117 (N : Nat) (x : D1 × Int × (Int × Int) × (List UInt8) × UInt8 × (List UInt8) × List (List D2)) : Option (Bool) :=
 cnd (ieq x.1.1 x.2.1)
  (cnd (band (ieq x.1.2.1.1 x.2.2.1.1) (ieq x.1.2.1.2 x.2.2.1.2))
   (cnd (seq x.1.2.2.1 x.2.2.2.1)
    (cnd (ieq (n8 x.1.2.2.2.1) (n8 x.2.2.2.2.1))
     (cnd (seq x.1.2.2.2.2.1 x.2.2.2.2.2.1)
      (bnd (q116 N (x.1.2.2.2.2.2, x.2.2.2.2.2.2)) fun v0 =>
      some v0)
      (some false))
     (some false))
    (some false))
   (some false))
  (some false)
def ps_q118 : List PK := [.k (.v (.slice Y1) []), .k (.v (.slice Y1) []), .fn 74]
def rs_q118 : List Kd := [.v (.bool) []]
def q118 (N : Nat) (x : (List D1) × List D1) : Option (Bool) :=
 cnd (ine (len x.1) (len x.2))
  (some false)
  (jn (fun (v0 : Unit) =>
   some true)
  fun v1 =>
  fixN (fun v2 (v3 : Int) =>
   cnd (ilt v3 (len x.1))
    (grd (inb v3 (len x.1))
     (grd (inb v3 (len x.2))
      (bnd (q117 N (lget x.1 (toN v3) (0, ((0, 0), ([], (0, ([], []))))), lget x.2 (toN v3) (0, ((0, 0), ([], (0, ([], []))))))) fun v4 =>
      cnd (bnot v4)
       (some false)
       (v2 (w64 (iadd v3 1))))))
    (v1 ())) N 0)
def ps_q119 : List PK := [.k (.v (.slice Y6) []), .k (.v (.slice Y6) [])]
def rs_q119 : List Kd := [.v (.bool) []]
def q119 (N : Nat) (x : (List D5) × List D5) : Option (Bool) :=
 cnd (ine (len x.1) (len x.2))
  (some false)
  (jn (fun (v0 : Unit) =>
   some true)
  fun v1 =>
  fixN (fun v2 (v3 : Int) =>
   cnd (ilt v3 (len x.1))
    (grd (inb v3 (len x.1))
     (grd (inb v3 (len x.2))
      (cnd (bnot (band (ieq (lget x.1 (toN v3) (0, (0, (0, (0, ([], ([], (false, false)))))))).1 (lget x.2 (toN v3) (0, (0, (0, (0, ([], ([], (false, false)))))))).1) (band (ieq (lget x.1 (toN v3) (0, (0, (0, (0, ([], ([], (false, false)))))))).2.1 (lget x.2 (toN v3) (0, (0, (0, (0, ([], ([], (false, false)))))))).2.1) (band (ieq (lget x.1 (toN v3) (0, (0, (0, (0, ([], ([], (false, false)))))))).2.2.1 (lget x.2 (toN v3) (0, (0, (0, (0, ([], ([], (false, false)))))))).2.2.1) (band (ieq (lget x.1 (toN v3) (0, (0, (0, (0, ([], ([], (false, false)))))))).2.2.2.1 (lget x.2 (toN v3) (0, (0, (0, (0, ([], ([], (false, false)))))))).2.2.2.1) (band (seq (lget x.1 (toN v3) (0, (0, (0, (0, ([], ([], (false, false)))))))).2.2.2.2.1 (lget x.2 (toN v3) (0, (0, (0, (0, ([], ([], (false, false)))))))).2.2.2.2.1) (band (seq (lget x.1 (toN v3) (0, (0, (0, (0, ([], ([], (false, false)))))))).2.2.2.2.2.1 (lget x.2 (toN v3) (0, (0, (0, (0, ([], ([], (false, false)))))))).2.2.2.2.2.1) (band (beqb (lget x.1 (toN v3) (0, (0, (0, (0, ([], ([], (false, false)))))))).2.2.2.2.2.2.1 (lget x.2 (toN v3) (0, (0, (0, (0, ([], ([], (false, false)))))))).2.2.2.2.2.2.1) (beqb (lget x.1 (toN v3) (0, (0, (0, (0, ([], ([], (false, false)))))))).2.2.2.2.2.2.2 (lget x.2 (toN v3) (0, (0, (0, (0, ([], ([], (false, false)))))))).2.2.2.2.2.2.2)))))))))
       (some false)
       (v2 (w64 (iadd v3 1))))))
    (v1 ())) N 0)
def ps_q120 : List PK := [.k (.v Y2 []), .k (.v Y2 [])]
def rs_q120 : List Kd := [.v (.bool) []]
def q120 (N : Nat) (x : D3 × (List UInt8) × (List UInt8) × UInt8 × Bool × Int × (List D4) × (List D1) × List D5) : Option (Bool) :=
 bnd (q113 N x.1) fun v0 =>
 bnd (q113 N x.2) fun v1 =>
 cnd (band (seq v0.1 v1.1) (band (seq v0.2.1 v1.2.1) (band (ieq (n8 v0.2.2.1) (n8 v1.2.2.1)) (band (beqb v0.2.2.2.1 v1.2.2.2.1) (ieq v0.2.2.2.2 v1.2.2.2.2)))))
  (bnd (q114 N (x.1.2.2.2.2.2.1, x.2.2.2.2.2.2.1)) fun v2 =>
  cnd v2
   (bnd (q118 N (x.1.2.2.2.2.2.2.1, x.2.2.2.2.2.2.2.1)) fun v3 =>
   cnd v3
    (bnd (q119 N (x.1.2.2.2.2.2.2.2, x.2.2.2.2.2.2.2.2)) fun v4 =>
    some v4)
    (some false))
   (some false))
  (some false)
def ps_l19_SubripTolerates : List PK := [.k (.v Y2 []), .k (.v (.bool) [])]
def rs_l19_SubripTolerates : List Kd := [.v (.bool) []]
def l19_SubripTolerates (N : Nat) (x : D3 × Bool) : Option (Bool) :=
 bnd (l19_awake N ()) fun v0 =>
 cnd (bnot v0)
  (some false)
  (bnd (l19_few N x.1) fun v1 =>
  bnd (q76 N v1) fun v2 =>
  cnd (ine v2.2 0)
   (some true)
   (jn (fun (v3 : List UInt8) =>
    bnd (q110 N (v2.1, v1.2.2.1, v1.2.2.2.1)) fun v4 =>
    grd (catOk (iadd (len v3) (len ([10, 10] : List UInt8)))) <|
    bnd (q110 N (lapp v3 ([10, 10] : List UInt8), v1.2.2.1, v1.2.2.2.1)) fun v5 =>
    cnd (ieq (len v4.2) 0)
     (cnd (ieq (len v5.2) 0)
      (bnd (q120 N (v4.1, v5.1)) fun v6 =>
      some v6)
      (some false))
     (some false))
   fun v7 =>
   bnd (q82 N (v2.1, ([10] : List UInt8))) fun v8 =>
   fixN (fun v9 (v10 : (List UInt8) × Bool × Int) =>
    cnd (ilt v10.2.2 (len v8))
     (grd (inb v10.2.2 (len v8))
      (jn (fun (v11 : List UInt8) =>
       cnd (bnot v10.2.1)
        (grd (catOk (iadd (len v11) (len ([13, 10] : List UInt8))))
         (grd (catOk (iadd (len v10.1) (len (lapp v11 ([13, 10] : List UInt8)))))
          (v9 (lapp v10.1 (lapp v11 ([13, 10] : List UInt8)), seq v11 ([] : List UInt8), w64 (iadd v10.2.2 1)))))
        (cnd (bnot x.2)
         (grd (catOk (iadd (len v11) (len ([13, 10] : List UInt8))))
          (grd (catOk (iadd (len v10.1) (len (lapp v11 ([13, 10] : List UInt8)))))
           (v9 (lapp v10.1 (lapp v11 ([13, 10] : List UInt8)), seq v11 ([] : List UInt8), w64 (iadd v10.2.2 1)))))
         (v9 (v10.1, seq v11 ([] : List UInt8), w64 (iadd v10.2.2 1)))))
      fun v12 =>
      bnd (strings_Index N (lget v8 (toN v10.2.2) [], ([32, 45, 45, 62, 32] : List UInt8))) fun v13 =>
      cnd (ieq v13 12)
       (cnd x.2
        (bnd (strings_Replace N (lget v8 (toN v10.2.2) [], ([44] : List UInt8), ([46] : List UInt8), 2)) fun v14 =>
        v12 v14)
        (v12 (lget v8 (toN v10.2.2) [])))
       (v12 (lget v8 (toN v10.2.2) []))))
     (v7 v10.1)) N (([10] : List UInt8), true, 0)))
def ps_l19_short : List PK := [.k (.v (.str) [])]
def rs_l19_short : List Kd := [.v (.str) []]
def l19_short (N : Nat) (x : List UInt8) : Option (List UInt8) :=
 grd (in2 (imin (len x) 600) (len x)) <|
 some (ltake (toN (imin (len x) 600)) x)
def ps_q121 : List PK := [.k (.v (.u8) [])]
def rs_q121 : List Kd := [.v (.bool) []]
def q121 (N : Nat) (x : UInt8) : Option (Bool) :=
 cnd (ile (n8 1) (n8 x))
  (some (ile (n8 x) (n8 7)))
  (some false)
def ps_q122 : List PK := [.k (.v (.u8) [])]
def rs_q122 : List Kd := [.v (.bool) []]
def q122 (N : Nat) (x : UInt8) : Option (Bool) :=
 cnd (ieq (n8 x) (n8 4))
  (some true)
  (some (ieq (n8 x) (n8 7)))
def ps_q123 : List PK := [.k (.v (.str) [])]
def rs_q123 : List Kd := [.v (.slice (.slice (.st (.pair (.str) (.int .i64))))) [0]]
def q123 (N : Nat) (x : List UInt8) : Option (List (List ((List UInt8) × Int))) :=
 jn (fun (v0 : (List (List ((List UInt8) × Int))) × List ((List UInt8) × Int)) =>
  cnd (ilt 0 (len v0.2))
   (grd (room (iadd (len v0.1) (len ([v0.2] : List (List ((List UInt8) × Int))))) 24)
    (some (lapp v0.1 ([v0.2] : List (List ((List UInt8) × Int))))))
   (some v0.1))
 fun v1 =>
 fixN (fun v2 (v3 : (List (List ((List UInt8) × Int))) × (List ((List UInt8) × Int)) × Int × Int × Int) =>
  cnd (ile v3.2.2.2.2 (len x))
   (jn (fun (v4 : Unit) =>
    grd (in3 v3.2.2.2.1 v3.2.2.2.2 (len x)) <|
    jn (fun (v5 : List UInt8) =>
     cnd (sne v5 ([] : List UInt8))
      (grd (room (iadd (len v3.2.1) (len ([(v5, v3.2.2.1)] : List ((List UInt8) × Int)))) 24)
       (v2 (v3.1, lapp v3.2.1 ([(v5, v3.2.2.1)] : List ((List UInt8) × Int)), w64 (iadd v3.2.2.1 1), w64 (iadd v3.2.2.2.2 1), w64 (iadd v3.2.2.2.2 1))))
      (cnd (ilt 0 (len v3.2.1))
       (grd (room (iadd (len v3.1) (len ([v3.2.1] : List (List ((List UInt8) × Int))))) 24)
        (v2 (lapp v3.1 ([v3.2.1] : List (List ((List UInt8) × Int))), ([] : List ((List UInt8) × Int)), w64 (iadd v3.2.2.1 1), w64 (iadd v3.2.2.2.2 1), w64 (iadd v3.2.2.2.2 1))))
       (v2 (v3.1, v3.2.1, w64 (iadd v3.2.2.1 1), w64 (iadd v3.2.2.2.2 1), w64 (iadd v3.2.2.2.2 1)))))
    fun v6 =>
    cnd (ilt 0 (len (ldrop (toN v3.2.2.2.1) (ltake (toN v3.2.2.2.2) x))))
     (grd (inb (w64 (isub (len (ldrop (toN v3.2.2.2.1) (ltake (toN v3.2.2.2.2) x))) 1)) (len (ldrop (toN v3.2.2.2.1) (ltake (toN v3.2.2.2.2) x))))
      (cnd (ieq (n8 (lget (ldrop (toN v3.2.2.2.1) (ltake (toN v3.2.2.2.2) x)) (toN (w64 (isub (len (ldrop (toN v3.2.2.2.1) (ltake (toN v3.2.2.2.2) x))) 1))) 0)) (n8 13))
       (grd (in2 (w64 (isub (len (ldrop (toN v3.2.2.2.1) (ltake (toN v3.2.2.2.2) x))) 1)) (len (ldrop (toN v3.2.2.2.1) (ltake (toN v3.2.2.2.2) x))))
        (v6 (ltake (toN (w64 (isub (len (ldrop (toN v3.2.2.2.1) (ltake (toN v3.2.2.2.2) x))) 1))) (ldrop (toN v3.2.2.2.1) (ltake (toN v3.2.2.2.2) x)))))
       (v6 (ldrop (toN v3.2.2.2.1) (ltake (toN v3.2.2.2.2) x)))))
     (v6 (ldrop (toN v3.2.2.2.1) (ltake (toN v3.2.2.2.2) x))))
   fun v7 =>
   cnd (ilt v3.2.2.2.2 (len x))
    (grd (inb v3.2.2.2.2 (len x))
     (cnd (ine (n8 (lget x (toN v3.2.2.2.2) 0)) (n8 10))
      (v2 (v3.1, v3.2.1, v3.2.2.1, v3.2.2.2.1, w64 (iadd v3.2.2.2.2 1)))
      (v7 ())))
    (v7 ()))
   (v1 (v3.1, v3.2.1))) N (([] : List (List ((List UInt8) × Int))), ([] : List ((List UInt8) × Int)), 1, 0, 0)
def ps_q124 : List PK := [.k (.v (.str) [])]
def rs_q124 : List Kd := [.v (.bool) []]
def q124 (N : Nat) (x : List UInt8) : Option (Bool) :=
 jn (fun (v0 : Unit) =>
  some true)
 fun v1 =>
 fixN (fun v2 (v3 : Int) =>
  cnd (ilt v3 (len x))
   (grd (inb v3 (len x))
    (cnd (ilt (n8 (lget x (toN v3) 0)) (n8 48))
     (some false)
     (grd (inb v3 (len x))
      (cnd (ilt (n8 57) (n8 (lget x (toN v3) 0)))
       (some false)
       (v2 (w64 (iadd v3 1)))))))
   (v1 ())) N 0
def ps_q125 : List PK := [.k (.v (.str) [])]
def rs_q125 : List Kd := [.v (.int .i64) []]
def q125 (N : Nat) (x : List UInt8) : Option (Int) :=
 jn (fun (v0 : Int) =>
  some v0)
 fun v1 =>
 fixN (fun v2 (v3 : Int × Int) =>
  cnd (ilt v3.2 (len x))
   (grd (inb v3.2 (len x))
    (v2 (w64 (iadd (w64 (imul 10 v3.1)) (w64 (n8 (b8 (isub (n8 (lget x (toN v3.2) 0)) (n8 48)))))), w64 (iadd v3.2 1))))
   (v1 v3.1)) N (0, 0)
def ps_q126 : List PK := [.k (.v (.str) [])]
def rs_q126 : List Kd := [.v (.int .i64) [], .v (.int .i64) []]
def q126 (N : Nat) (x : List UInt8) : Option (Int × Int) :=
 jn (fun (v0 : Unit) =>
  grd (in2 2 (len x)) <|
  grd (in3 3 5 (len x)) <|
  grd (catOk (iadd (len (ltake (toN 2) x)) (len (ldrop (toN 3) (ltake (toN 5) x))))) <|
  grd (in3 6 8 (len x)) <|
  grd (catOk (iadd (len (lapp (ltake (toN 2) x) (ldrop (toN 3) (ltake (toN 5) x)))) (len (ldrop (toN 6) (ltake (toN 8) x))))) <|
  grd (in2 9 (len x)) <|
  grd (catOk (iadd (len (lapp (lapp (ltake (toN 2) x) (ldrop (toN 3) (ltake (toN 5) x))) (ldrop (toN 6) (ltake (toN 8) x)))) (len (ldrop (toN 9) x)))) <|
  bnd (q124 N (lapp (lapp (lapp (ltake (toN 2) x) (ldrop (toN 3) (ltake (toN 5) x))) (ldrop (toN 6) (ltake (toN 8) x))) (ldrop (toN 9) x))) fun v1 =>
  cnd (bnot v1)
   (some (0, 4))
   (grd (in2 2 (len x))
    (bnd (q125 N (ltake (toN 2) x)) fun v2 =>
    grd (in3 3 5 (len x)) <|
    bnd (q125 N (ldrop (toN 3) (ltake (toN 5) x))) fun v3 =>
    grd (in3 6 8 (len x)) <|
    bnd (q125 N (ldrop (toN 6) (ltake (toN 8) x))) fun v4 =>
    grd (in2 9 (len x)) <|
    bnd (q125 N (ldrop (toN 9) x)) fun v5 =>
    cnd (ilt 59 v3)
     (some (0, 4))
     (cnd (ilt 59 v4)
      (some (0, 4))
      (some (w64 (iadd (w64 (imul (w64 (iadd (w64 (imul (w64 (iadd (w64 (imul v2 60)) v3)) 60)) v4)) 1000)) v5), 0))))))
 fun v6 =>
 cnd (ine (len x) 12)
  (some (0, 4))
  (grd (inb 2 (len x))
   (cnd (ine (n8 (lget x (toN 2) 0)) (n8 58))
    (some (0, 4))
    (grd (inb 5 (len x))
     (cnd (ine (n8 (lget x (toN 5) 0)) (n8 58))
      (some (0, 4))
      (grd (inb 8 (len x))
       (cnd (ine (n8 (lget x (toN 8) 0)) (n8 44))
        (grd (inb 8 (len x))
         (cnd (ine (n8 (lget x (toN 8) 0)) (n8 46))
          (some (0, 4))
          (v6 ())))
        (v6 ())))))))
def ps_q127 : List PK := [.k (.v (.str) [])]
def rs_q127 : List Kd := [.v (.int .i64) [], .v (.int .i64) [], .v (.bool) []]
def q127 (N : Nat) (x : List UInt8) : Option (Int × Int × Bool) :=
 cnd (ine (len x) 29)
  (some (0, 0, false))
  (grd (in3 12 17 (len x))
   (cnd (sne (ldrop (toN 12) (ltake (toN 17) x)) ([32, 45, 45, 62, 32] : List UInt8))
    (some (0, 0, false))
    (grd (in2 12 (len x))
     (bnd (q126 N (ltake (toN 12) x)) fun v0 =>
     grd (in2 17 (len x)) <|
     bnd (q126 N (ldrop (toN 17) x)) fun v1 =>
     cnd (ieq v0.2 0)
      (some (v0.1, v1.1, ieq v1.2 0))
      (some (v0.1, v1.1, false))))))
def ps_r01_Mode : List PK := [.k (.v (.u8) [])]
def rs_r01_Mode : List Kd := [.v (.bool) []]
def r01_Mode (N : Nat) (x : UInt8) : Option (Bool) :=
 cnd (ile (n8 1) (n8 x))
  (some (ile (n8 x) (n8 3)))
  (some false)
def ps_q128 : List PK := [.k (.v (.u8) [])]
def rs_q128 : List Kd := [.v (.int .i64) []]
def q128 (N : Nat) (x : UInt8) : Option (Int) :=
 bnd (q121 N x) fun v0 =>
 cnd (bnot v0)
  (some 0)
  (grd (inb (n8 (b8 (isub (n8 x) (n8 1)))) (len ([5005, 5000, 4800, 4004, 4000, 2400, 2002] : List Int)))
   (some (lget ([5005, 5000, 4800, 4004, 4000, 2400, 2002] : List Int) (toN (n8 (b8 (isub (n8 x) (n8 1))))) 0)))
def ps_q129 : List PK := [.k (.v (.int .i64) [])]
def rs_q129 : List Kd := [.v (.int .i64) []]
def q129 (N : Nat) (x : Int) : Option (Int) :=
 cnd (ilt 0 x)
  (some (w64 (isub 0 x)))
  (some x)
def ps_q130 : List PK := [.k (.v (.int .i64) []), .k (.v (.int .i64) []), .k (.v (.u8) [])]
def rs_q130 : List Kd := [.v (.int .i64) [], .v (.int .i64) []]
def q130 (N : Nat) (x : Int × Int × UInt8) : Option (Int × Int) :=
 cnd (ieq x.2.1 0)
  (some (0, 1))
  (bnd (r01_Mode N x.2.2) fun v0 =>
  cnd (bnot v0)
   (some (0, 3))
   (jn (fun (v1 : Unit) =>
    grd (ine x.2.1 0) <|
    grd (ine x.2.1 0) <|
    jn (fun (v2 : Int × Int) =>
     cnd (ieq v2.2 0)
      (some (v2.1, 0))
      (cnd (ieq (n8 x.2.2) (n8 1))
       (some (v2.1, 0))
       (cnd (ieq (n8 x.2.2) (n8 3))
        (some (w64 (iadd v2.1 1), 0))
        (bnd (q129 N v2.2) fun v3 =>
        bnd (q129 N x.2.1) fun v4 =>
        bnd (q129 N v2.2) fun v5 =>
        cnd (ile v3 (w64 (isub v4 v5)))
         (some (w64 (iadd v2.1 1), 0))
         (some (v2.1, 0))))))
    fun v6 =>
    cnd (ine (imod x.1 x.2.1) 0)
     (cnd (bneb (ilt (imod x.1 x.2.1) 0) (ilt x.2.1 0))
      (v6 (w64 (isub (w64 (idiv x.1 x.2.1)) 1), w64 (iadd (imod x.1 x.2.1) x.2.1)))
      (v6 (w64 (idiv x.1 x.2.1), imod x.1 x.2.1)))
     (v6 (w64 (idiv x.1 x.2.1), imod x.1 x.2.1)))
   fun v7 =>
   cnd (ieq x.1 (-9223372036854775808))
    (cnd (ieq x.2.1 (-1))
     (some (0, 2))
     (v7 ()))
    (v7 ())))
def ps_q131 : List PK := [.k (.v (.u8) []), .k (.v (.int .i64) []), .k (.v (.u8) [])]
def rs_q131 : List Kd := [.v (.int .i64) [], .v (.int .i64) []]
def q131 (N : Nat) (x : UInt8 × Int × UInt8) : Option (Int × Int) :=
 bnd (q121 N x.1) fun v0 =>
 cnd (bnot v0)
  (some (0, 3))
  (bnd (r01_Mode N x.2.2) fun v1 =>
  cnd (bnot v1)
   (some (0, 3))
   (cnd (ilt x.2.1 0)
    (some (0, 2))
    (cnd (ilt 10378368000 x.2.1)
     (some (0, 2))
     (bnd (q128 N x.1) fun v2 =>
     bnd (q130 N (x.2.1, v2, x.2.2)) fun v3 =>
     bnd (q128 N x.1) fun v4 =>
     cnd (ilt 10378368000 (w64 (imul v3.1 v4)))
      (some (0, 2))
      (some (v3.1, 0))))))
def ps_q132 : List PK := [.k (.v (.u8) []), .k (.v (.int .i64) [])]
def rs_q132 : List Kd := [.v (.int .i64) [], .v (.int .i64) []]
def q132 (N : Nat) (x : UInt8 × Int) : Option (Int × Int) :=
 bnd (q121 N x.1) fun v0 =>
 cnd (bnot v0)
  (some (0, 3))
  (cnd (ilt x.2 0)
   (some (0, 2))
   (cnd (ilt 86486400 x.2)
    (some (0, 2))
    (bnd (q131 N (x.1, w64 (imul x.2 120), 2)) fun v1 =>
    some v1)))
def ps_q133 : List PK := [.k (.v (.str) []), .k (.v (.str) [])]
def rs_q133 : List Kd := [.v (.bool) []]
def q133 (N : Nat) (x : List UInt8 × List UInt8) : Option (Bool) :=
 cnd (ile (len x.2) (len x.1))
  (grd (in2 (len x.2) (len x.1))
   (some (seq (ltake (toN (len x.2)) x.1) x.2)))
  (some false)
def ps_r19_tag : List PK := [.k (.v (.str) [])]
def rs_r19_tag : List Kd := [.v (.str) []]
def r19_tag (N : Nat) (x : List UInt8) : Option (List UInt8) :=
 jn (fun (v0 : Unit) =>
  some ([] : List UInt8))
 fun v1 =>
 fixN (fun v2 (v3 : Int) =>
  cnd (ilt v3 (len ([([60, 105, 62] : List UInt8), ([60, 47, 105, 62] : List UInt8), ([60, 117, 62] : List UInt8), ([60, 47, 117, 62] : List UInt8), ([60, 98, 62] : List UInt8), ([60, 47, 98, 62] : List UInt8)] : List (List UInt8))))
   (grd (inb v3 (len ([([60, 105, 62] : List UInt8), ([60, 47, 105, 62] : List UInt8), ([60, 117, 62] : List UInt8), ([60, 47, 117, 62] : List UInt8), ([60, 98, 62] : List UInt8), ([60, 47, 98, 62] : List UInt8)] : List (List UInt8))))
    (bnd (q133 N (x, lget ([([60, 105, 62] : List UInt8), ([60, 47, 105, 62] : List UInt8), ([60, 117, 62] : List UInt8), ([60, 47, 117, 62] : List UInt8), ([60, 98, 62] : List UInt8), ([60, 47, 98, 62] : List UInt8)] : List (List UInt8)) (toN v3) [])) fun v4 =>
    cnd v4
     (some (lget ([([60, 105, 62] : List UInt8), ([60, 47, 105, 62] : List UInt8), ([60, 117, 62] : List UInt8), ([60, 47, 117, 62] : List UInt8), ([60, 98, 62] : List UInt8), ([60, 47, 98, 62] : List UInt8)] : List (List UInt8)) (toN v3) []))
     (v2 (w64 (iadd v3 1)))))
   (v1 ())) N 0
def ps_r09_Norm : List PK := [.k (.v (.st Y3) [])]
def rs_r09_Norm : List Kd := [.v (.st Y3) [0]]
def r09_Norm (N : Nat) (x : List D2) : Option (List D2) :=
 jn (fun (v0 : List D2) =>
  some v0)
 fun v1 =>
 fixN (fun v2 (v3 : (List D2) × Int) =>
  cnd (ilt v3.2 (len x))
   (grd (inb v3.2 (len x))
    (cnd (seq (lget x (toN v3.2) ([], ((0, (false, false)), []))).1 ([] : List UInt8))
     (v2 (v3.1, w64 (iadd v3.2 1)))
     (jn (fun (v4 : Unit) =>
      grd (room (iadd (len v3.1) (len ([lget x (toN v3.2) ([], ((0, (false, false)), []))] : List D2))) 40) <|
      v2 (lapp v3.1 ([lget x (toN v3.2) ([], ((0, (false, false)), []))] : List D2), w64 (iadd v3.2 1)))
     fun v5 =>
     cnd (ilt 0 (len v3.1))
      (grd (inb (w64 (isub (len v3.1) 1)) (len v3.1))
       (cnd (band (ieq (n8 (lget v3.1 (toN (w64 (isub (len v3.1) 1))) ([], ((0, (false, false)), []))).2.1.1) (n8 (lget x (toN v3.2) ([], ((0, (false, false)), []))).2.1.1)) (band (beqb (lget v3.1 (toN (w64 (isub (len v3.1) 1))) ([], ((0, (false, false)), []))).2.1.2.1 (lget x (toN v3.2) ([], ((0, (false, false)), []))).2.1.2.1) (beqb (lget v3.1 (toN (w64 (isub (len v3.1) 1))) ([], ((0, (false, false)), []))).2.1.2.2 (lget x (toN v3.2) ([], ((0, (false, false)), []))).2.1.2.2)))
        (grd (inb (w64 (isub (len v3.1) 1)) (len v3.1))
         (cnd (seq (lget v3.1 (toN (w64 (isub (len v3.1) 1))) ([], ((0, (false, false)), []))).2.2 ([] : List UInt8))
          (cnd (seq (lget x (toN v3.2) ([], ((0, (false, false)), []))).2.2 ([] : List UInt8))
           (grd (inb (w64 (isub (len v3.1) 1)) (len v3.1))
            (grd (catOk (iadd (len (lget v3.1 (toN (w64 (isub (len v3.1) 1))) ([], ((0, (false, false)), []))).1) (len (lget x (toN v3.2) ([], ((0, (false, false)), []))).1)))
             (grd (inb (w64 (isub (len v3.1) 1)) (len v3.1))
              (v2 (lset v3.1 (toN (w64 (isub (len v3.1) 1))) (lapp (lget v3.1 (toN (w64 (isub (len v3.1) 1))) ([], ((0, (false, false)), []))).1 (lget x (toN v3.2) ([], ((0, (false, false)), []))).1, (lget v3.1 (toN (w64 (isub (len v3.1) 1))) ([], ((0, (false, false)), []))).2), w64 (iadd v3.2 1))))))
           (v5 ()))
          (v5 ())))
        (v5 ())))
      (v5 ()))))
   (v1 v3.1)) N (([] : List D2), 0)
def ps_q134 : List PK := [.k (.v (.str) [])]
def rs_q134 : List Kd := [.v (.st Y3) [0]]
def q134 (N : Nat) (x : List UInt8) : Option (List D2) :=
 jn (fun (v0 : (List UInt8) × (UInt8 × Bool × Bool) × List D2) =>
  grd (room (iadd (len v0.2.2) (len ([(v0.1, v0.2.1, ([] : List UInt8))] : List D2))) 40) <|
  bnd (r09_Norm N (lapp v0.2.2 ([(v0.1, v0.2.1, ([] : List UInt8))] : List D2))) fun v1 =>
  some v1)
 fun v2 =>
 fixN (fun v3 (v4 : (List UInt8) × (List UInt8) × (UInt8 × Bool × Bool) × List D2) =>
  cnd (sne v4.1 ([] : List UInt8))
   (bnd (r19_tag N v4.1) fun v5 =>
   cnd (seq v5 ([] : List UInt8))
    (grd (in2 1 (len v4.1))
     (grd (catOk (iadd (len v4.2.1) (len (ltake (toN 1) v4.1))))
      (grd (in2 1 (len v4.1))
       (v3 (ldrop (toN 1) v4.1, lapp v4.2.1 (ltake (toN 1) v4.1), v4.2.2)))))
    (grd (room (iadd (len v4.2.2.2) (len ([(v4.2.1, v4.2.2.1, ([] : List UInt8))] : List D2))) 40)
     (jn (fun (v6 : UInt8 × Bool × Bool) =>
      grd (in2 (len v5) (len v4.1)) <|
      v3 (ldrop (toN (len v5)) v4.1, ([] : List UInt8), v6, lapp v4.2.2.2 ([(v4.2.1, v4.2.2.1, ([] : List UInt8))] : List D2)))
     fun v7 =>
     cnd (seq v5 ([60, 105, 62] : List UInt8))
      (v7 (v4.2.2.1.1, true, v4.2.2.1.2.2))
      (cnd (seq v5 ([60, 47, 105, 62] : List UInt8))
       (v7 (v4.2.2.1.1, false, v4.2.2.1.2.2))
       (cnd (seq v5 ([60, 117, 62] : List UInt8))
        (v7 (v4.2.2.1.1, v4.2.2.1.2.1, true))
        (cnd (seq v5 ([60, 47, 117, 62] : List UInt8))
         (v7 (v4.2.2.1.1, v4.2.2.1.2.1, false))
         (v7 v4.2.2.1)))))))
   (v2 v4.2)) N (x, ([] : List UInt8), (0, false, false), ([] : List D2))
def ps_q135 : List PK := [.k (.v (.st (.pair (.int .i64) (.int .i64))) [])]
def rs_q135 : List Kd := [.v (.bool) []]
def q135 (N : Nat) (x : Int × Int) : Option (Bool) :=
 cnd (ile 0 x.1)
  (cnd (ilt x.1 x.2)
   (some (ile x.2 5184000))
   (some false))
  (some false)
def ps_q136 : List PK := []
def rs_q136 : List Kd := [.v Y4 []]
def q136 (N : Nat) (x : Unit) : Option D4 :=
 some (([] : List UInt8), 11, 4, 0, 32, 2, true)
def ps_r10_Find : List PK := [.k (.v (.slice Y4) []), .k (.v (.str) [])]
def rs_r10_Find : List Kd := [.v Y4 [], .v (.bool) []]
def r10_Find (N : Nat) (x : (List D4) × List UInt8) : Option (D4 × Bool) :=
 cnd (seq x.2 ([] : List UInt8))
  (bnd (q136 N ()) fun v0 =>
  some (v0, true))
  (jn (fun (v1 : Unit) =>
   some ((([] : List UInt8), 0, 0, 0, 0, 0, false), false))
  fun v2 =>
  fixN (fun v3 (v4 : Int) =>
   cnd (ilt v4 (len x.1))
    (grd (inb v4 (len x.1))
     (cnd (seq (lget x.1 (toN v4) ([], (0, (0, (0, (0, (0, false))))))).1 x.2)
      (some (lget x.1 (toN v4) ([], (0, (0, (0, (0, (0, false)))))), true))
      (v3 (w64 (iadd v4 1)))))
    (v2 ())) N 0)
def ps_q137 : List PK := [.k (.v (.u8) [])]
def rs_q137 : List Kd := [.v (.bool) []]
def q137 (N : Nat) (x : UInt8) : Option (Bool) :=
 cnd (ile (n8 48) (n8 x))
  (some (ile (n8 x) (n8 57)))
  (some false)
def ps_r07_Name : List PK := [.k (.v (.str) [])]
def rs_r07_Name : List Kd := [.v (.bool) []]
def r07_Name (N : Nat) (x : List UInt8) : Option (Bool) :=
 cnd (ilt (len x) 1)
  (some false)
  (cnd (ilt 16 (len x))
   (some false)
   (jn (fun (v0 : Unit) =>
    some true)
   fun v1 =>
   fixN (fun v2 (v3 : Int) =>
    cnd (ilt v3 (len x))
     (jn (fun (v4 : Bool) =>
      cnd (bnot v4)
       (cnd (ieq v3 0)
        (some false)
        (grd (inb v3 (len x))
         (bnd (q137 N (lget x (toN v3) 0)) fun v5 =>
         cnd (bnot v5)
          (grd (inb v3 (len x))
           (cnd (ine (n8 (lget x (toN v3) 0)) (n8 95))
            (grd (inb v3 (len x))
             (cnd (ine (n8 (lget x (toN v3) 0)) (n8 45))
              (some false)
              (v2 (w64 (iadd v3 1)))))
            (v2 (w64 (iadd v3 1)))))
          (v2 (w64 (iadd v3 1))))))
       (v2 (w64 (iadd v3 1))))
     fun v6 =>
     grd (inb v3 (len x)) <|
     cnd (ile (n8 65) (n8 (lget x (toN v3) 0)))
      (grd (inb v3 (len x))
       (v6 (ile (n8 (lget x (toN v3) 0)) (n8 90))))
      (v6 false))
     (v1 ())) N 0))
def ps_q138 : List PK := []
def rs_q138 : List Kd := [.v (.str) []]
def q138 (N : Nat) (x : Unit) : Option (List UInt8) :=
 some ([32, 33, 34, 35, 36, 37, 38, 39, 40, 41, 42, 43, 44, 45, 46, 47, 48, 49, 50, 51, 52, 53, 54, 55, 56, 57, 58, 59, 60, 61, 62, 63, 64, 65, 66, 67, 68, 69, 70, 71, 72, 73, 74, 75, 76, 77, 78, 79, 80, 81, 82, 83, 84, 85, 86, 87, 88, 89, 90, 91, 92, 93, 94, 95, 96, 97, 98, 99, 100, 101, 102, 103, 104, 105, 106, 107, 108, 109, 110, 111, 112, 113, 114, 115, 116, 117, 118, 119, 120, 121, 122, 123, 124, 125, 126, 194, 161, 194, 162, 194, 163, 194, 164, 194, 165, 194, 166, 194, 167, 194, 169, 194, 171, 194, 174, 194, 176, 194, 183, 194, 187, 194, 189, 194, 191, 195, 128, 195, 129, 195, 130, 195, 131, 195, 132, 195, 133, 195, 134, 195, 135, 195, 136, 195, 137, 195, 138, 195, 139, 195, 140, 195, 141, 195, 142, 195, 143, 195, 145, 195, 146, 195, 147, 195, 148, 195, 149, 195, 150, 195, 152, 195, 153, 195, 154, 195, 155, 195, 156, 195, 159, 195, 160, 195, 161, 195, 162, 195, 163, 195, 164, 195, 165, 195, 166, 195, 167, 195, 168, 195, 169, 195, 170, 195, 171, 195, 172, 195, 173, 195, 174, 195, 175, 195, 177, 195, 178, 195, 179, 195, 180, 195, 181, 195, 182, 195, 184, 195, 185, 195, 186, 195, 187, 195, 188, 197, 146, 197, 147, 226, 128, 148, 226, 128, 152, 226, 128, 153, 226, 128, 156, 226, 128, 157, 226, 128, 162, 226, 128, 166, 226, 132, 162, 226, 153, 170] : List UInt8)
def ps_q139 : List PK := [.k (.v (.int .i32) [])]
def rs_q139 : List Kd := [.v (.int .i64) []]
def q139 (N : Nat) (x : Int) : Option (Int) :=
 jn (fun (v0 : Unit) =>
  jn (fun (v1 : Unit) =>
   some (-1))
  fun v2 =>
  bnd (q138 N ()) fun v3 =>
  fixN (fun v4 (v5 : Int × (List UInt8) × Int) =>
   cnd (nlt (toN v5.2.2) (nlen v5.2.1))
    (cnd (ieq (decR v5.2.1 (toN v5.2.2)) x)
     (some v5.1)
     (v4 (w64 (iadd v5.1 1), v5.2.1, ofN (nadd (toN v5.2.2) (decW v5.2.1 (toN v5.2.2))))))
    (v2 ())) N (0, v3, ofN 0))
 fun v6 =>
 cnd (ile 32 x)
  (cnd (ile x 126)
   (some (w64 (wr .i32 (isub x 32))))
   (v6 ()))
  (v6 ())
def ps_q140 : List PK := [.k (.v (.str) [])]
def rs_q140 : List Kd := [.v (.bool) []]
def q140 (N : Nat) (x : List UInt8) : Option (Bool) :=
 jn (fun (v0 : Unit) =>
  some true)
 fun v1 =>
 fixN (fun v2 (v3 : (List UInt8) × Int) =>
  cnd (nlt (toN v3.2) (nlen v3.1))
   (bnd (q139 N (decR v3.1 (toN v3.2))) fun v4 =>
   cnd (ilt v4 0)
    (some false)
    (v2 (v3.1, ofN (nadd (toN v3.2) (decW v3.1 (toN v3.2))))))
   (v1 ())) N (x, ofN 0)
def ps_q141 : List PK := [.k (.v Y7 [])]
def rs_q141 : List Kd := [.v (.bool) []]
def q141 (N : Nat) (x : UInt8 × Bool × Bool) : Option (Bool) :=
 some (ile (n8 x.1) (n8 6))
def ps_q142 : List PK := [.k (.v (.st Y3) [])]
def rs_q142 : List Kd := [.v (.int .i64) []]
def q142 (N : Nat) (x : List D2) : Option (Int) :=
 cnd (ilt 16 (len x))
  (some 9)
  (jn (fun (v0 : Unit) =>
   some 0)
  fun v1 =>
  fixN (fun v2 (v3 : Int) =>
   cnd (ilt v3 (len x))
    (grd (inb v3 (len x))
     (bnd (q140 N (lget x (toN v3) ([], ((0, (false, false)), []))).1) fun v4 =>
     cnd (bnot v4)
      (some 10)
      (cnd (seq (lget x (toN v3) ([], ((0, (false, false)), []))).1 ([] : List UInt8))
       (some 4)
       (bnd (q141 N (lget x (toN v3) ([], ((0, (false, false)), []))).2.1) fun v5 =>
       cnd (bnot v5)
        (some 12)
        (bnd (q140 N (lget x (toN v3) ([], ((0, (false, false)), []))).2.2) fun v6 =>
        cnd (bnot v6)
         (some 10)
         (cnd (ilt 0 v3)
          (grd (inb (w64 (isub v3 1)) (len x))
           (cnd (band (ieq (n8 (lget x (toN (w64 (isub v3 1))) ([], ((0, (false, false)), []))).2.1.1) (n8 (lget x (toN v3) ([], ((0, (false, false)), []))).2.1.1)) (band (beqb (lget x (toN (w64 (isub v3 1))) ([], ((0, (false, false)), []))).2.1.2.1 (lget x (toN v3) ([], ((0, (false, false)), []))).2.1.2.1) (beqb (lget x (toN (w64 (isub v3 1))) ([], ((0, (false, false)), []))).2.1.2.2 (lget x (toN v3) ([], ((0, (false, false)), []))).2.1.2.2)))
            (grd (inb (w64 (isub v3 1)) (len x))
             (cnd (seq (lget x (toN (w64 (isub v3 1))) ([], ((0, (false, false)), []))).2.2 ([] : List UInt8))
              (cnd (seq (lget x (toN v3) ([], ((0, (false, false)), []))).2.2 ([] : List UInt8))
               (some 8)
               (v2 (w64 (iadd v3 1))))
              (v2 (w64 (iadd v3 1)))))
            (v2 (w64 (iadd v3 1)))))
          (v2 (w64 (iadd v3 1)))))))))
    (v1 ())) N 0)
def ps_q143 : List PK := [.k (.v (.st Y3) [])]
def rs_q143 : List Kd := [.v (.str) []]
def q143 (N : Nat) (x : List D2) : Option (List UInt8) :=
 jn (fun (v0 : List UInt8) =>
  some v0)
 fun v1 =>
 fixN (fun v2 (v3 : (List UInt8) × Int) =>
  cnd (ilt v3.2 (len x))
   (grd (inb v3.2 (len x))
    (grd (catOk (iadd (len v3.1) (len (lget x (toN v3.2) ([], ((0, (false, false)), []))).1)))
     (v2 (lapp v3.1 (lget x (toN v3.2) ([], ((0, (false, false)), []))).1, w64 (iadd v3.2 1)))))
   (v1 v3.1)) N (([] : List UInt8), 0)
def ps_r11_neat : List PK := [.k (.v (.str) [])]
def rs_r11_neat : List Kd := [.v (.bool) []]
def r11_neat (N : Nat) (x : List UInt8) : Option (Bool) :=
 cnd (seq x ([] : List UInt8))
  (some false)
  (grd (inb 0 (len x))
   (cnd (ieq (n8 (lget x (toN 0) 0)) (n8 32))
    (some false)
    (grd (inb (w64 (isub (len x) 1)) (len x))
     (cnd (ieq (n8 (lget x (toN (w64 (isub (len x) 1))) 0)) (n8 32))
      (some false)
      (jn (fun (v0 : Unit) =>
       some true)
      fun v1 =>
      fixN (fun v2 (v3 : Int) =>
       cnd (ilt v3 (len x))
        (grd (inb v3 (len x))
         (cnd (ieq (n8 (lget x (toN v3) 0)) (n8 32))
          (grd (inb (w64 (isub v3 1)) (len x))
           (cnd (ieq (n8 (lget x (toN (w64 (isub v3 1))) 0)) (n8 32))
            (some false)
            (v2 (w64 (iadd v3 1)))))
          (v2 (w64 (iadd v3 1)))))
        (v1 ())) N 1)))))
def ps_q144 : List PK := [.k (.v (.str) [])]
def rs_q144 : List Kd := [.v (.slice (.int .i32)) [0]]
def q144 (N : Nat) (x : List UInt8) : Option (List Int) :=
 jn (fun (v0 : List Int) =>
  some v0)
 fun v1 =>
 fixN (fun v2 (v3 : (List Int) × (List UInt8) × Int) =>
  cnd (nlt (toN v3.2.2) (nlen v3.2.1))
   (grd (room (iadd (len v3.1) (len ([decR v3.2.1 (toN v3.2.2)] : List Int))) 4)
    (v2 (lapp v3.1 ([decR v3.2.1 (toN v3.2.2)] : List Int), v3.2.1, ofN (nadd (toN v3.2.2) (decW v3.2.1 (toN v3.2.2))))))
   (v1 v3.1)) N (([] : List Int), x, ofN 0)
def ps_r08_Len : List PK := [.k (.v (.str) [])]
def rs_r08_Len : List Kd := [.v (.int .i64) []]
def r08_Len (N : Nat) (x : List UInt8) : Option (Int) :=
 bnd (q140 N x) fun v0 =>
 cnd (bnot v0)
  (some (-1))
  (bnd (q144 N x) fun v1 =>
  some (len v1))
def ps_r09_Len : List PK := [.k (.v (.st Y3) [])]
def rs_r09_Len : List Kd := [.v (.int .i64) []]
def r09_Len (N : Nat) (x : List D2) : Option (Int) :=
 jn (fun (v0 : Int) =>
  some v0)
 fun v1 =>
 fixN (fun v2 (v3 : Int × Int) =>
  cnd (ilt v3.2 (len x))
   (grd (inb v3.2 (len x))
    (bnd (r08_Len N (lget x (toN v3.2) ([], ((0, (false, false)), []))).1) fun v4 =>
    cnd (ilt v4 0)
     (some (-1))
     (v2 (w64 (iadd v3.1 v4), w64 (iadd v3.2 1)))))
   (v1 v3.1)) N (0, 0)
def ps_q145 : List PK := [.k (.v Y4 [])]
def rs_q145 : List Kd := [.v (.int .i64) []]
def q145 (N : Nat) (x : D4) : Option (Int) :=
 bnd (r07_Name N x.1) fun v0 =>
 cnd (bnot v0)
  (some 5)
  (cnd (ilt x.2.1 0)
   (some 2)
   (cnd (ilt 14 x.2.1)
    (some 2)
    (cnd (ilt x.2.2.1 1)
     (some 2)
     (cnd (ilt (w64 (isub 15 x.2.1)) x.2.2.1)
      (some 2)
      (cnd (ilt x.2.2.2.1 0)
       (some 2)
       (cnd (ilt 31 x.2.2.2.1)
        (some 2)
        (cnd (ilt x.2.2.2.2.1 1)
         (some 2)
         (cnd (ilt (w64 (isub 32 x.2.2.2.1)) x.2.2.2.2.1)
          (some 2)
          (cnd (ine (n8 x.2.2.2.2.2.1) (n8 1))
           (cnd (ine (n8 x.2.2.2.2.2.1) (n8 2))
            (cnd (ine (n8 x.2.2.2.2.2.1) (n8 3))
             (some 3)
             (some 0))
            (some 0))
           (some 0))))))))))
def ps_q146 : List PK := [.k (.v Y4 [])]
def rs_q146 : List Kd := [.v (.bool) []]
def q146 (N : Nat) (x : D4) : Option (Bool) :=
 bnd (q145 N x) fun v0 =>
 cnd (ieq v0 0)
  (some true)
  (bnd (q136 N ()) fun v1 =>
  some (band (seq x.1 v1.1) (band (ieq x.2.1 v1.2.1) (band (ieq x.2.2.1 v1.2.2.1) (band (ieq x.2.2.2.1 v1.2.2.2.1) (band (ieq x.2.2.2.2.1 v1.2.2.2.2.1) (band (ieq (n8 x.2.2.2.2.2.1) (n8 v1.2.2.2.2.2.1)) (beqb x.2.2.2.2.2.2 v1.2.2.2.2.2.2))))))))
def ps_q147 : List PK := [.k (.v Y4 []), .k (.v (.slice (.int .i64)) [])]
def rs_q147 : List Kd := [.v (.slice Y5) [0], .v (.int .i64) []]
def q147 (N : Nat) (x : D4 × List Int) : Option ((List D6) × Int) :=
 bnd (q146 N x.1) fun v0 =>
 cnd (bnot v0)
  (some (([] : List D6), 1))
  (cnd (ilt x.1.2.2.1 (len x.2))
   (some (([] : List D6), 9))
   (jn (fun (v1 : List D6) =>
    some (v1, 0))
   fun v2 =>
   fixN (fun v3 (v4 : (List D6) × Int) =>
    cnd (ilt v4.2 (len x.2))
     (grd (inb v4.2 (len x.2))
      (cnd (ilt (lget x.2 (toN v4.2) 0) 0)
       (some (([] : List D6), 2))
       (cnd (ilt x.1.2.2.2.2.1 (lget x.2 (toN v4.2) 0))
        (some (([] : List D6), 11))
        (jn (fun (v5 : D6) =>
         cnd (ieq (n8 x.1.2.2.2.2.2.1) (n8 3))
          (grd (room (iadd (len v4.1) (len ([(v5.1, w64 (iadd v5.2.1 (w64 (isub x.1.2.2.2.2.1 (lget x.2 (toN v4.2) 0)))), v5.2.2)] : List D6))) 24)
           (v3 (lapp v4.1 ([(v5.1, w64 (iadd v5.2.1 (w64 (isub x.1.2.2.2.2.1 (lget x.2 (toN v4.2) 0)))), v5.2.2)] : List D6), w64 (iadd v4.2 1))))
          (cnd (ieq (n8 x.1.2.2.2.2.2.1) (n8 2))
           (grd (room (iadd (len v4.1) (len ([(v5.1, w64 (iadd v5.2.1 (w64 (idiv (w64 (isub x.1.2.2.2.2.1 (lget x.2 (toN v4.2) 0))) 2))), v5.2.2)] : List D6))) 24)
            (v3 (lapp v4.1 ([(v5.1, w64 (iadd v5.2.1 (w64 (idiv (w64 (isub x.1.2.2.2.2.1 (lget x.2 (toN v4.2) 0))) 2))), v5.2.2)] : List D6), w64 (iadd v4.2 1))))
           (grd (room (iadd (len v4.1) (len ([v5] : List D6))) 24)
            (v3 (lapp v4.1 ([v5] : List D6), w64 (iadd v4.2 1))))))
        fun v6 =>
        cnd x.1.2.2.2.2.2.2
         (v6 (w64 (iadd (w64 (iadd x.1.2.1 v4.2)) (w64 (isub x.1.2.2.1 (len x.2)))), x.1.2.2.2.1, lget x.2 (toN v4.2) 0))
         (v6 (w64 (iadd x.1.2.1 v4.2), x.1.2.2.2.1, lget x.2 (toN v4.2) 0))))))
     (v2 v4.1)) N (([] : List D6), 0)))
def ps_q148 : List PK := [.k (.v Y1 []), .k (.v (.slice Y4) [])]
def rs_q148 : List Kd := [.v (.int .i64) []]
def q148 (N : Nat) (x : D1 × List D4) : Option (Int) :=
 cnd (ilt x.1.1 1)
  (some 2)
  (cnd (ilt 1099511627776 x.1.1)
   (some 2)
   (bnd (q135 N x.1.2.1) fun v0 =>
   cnd (bnot v0)
    (some 2)
    (bnd (r10_Find N (x.2, x.1.2.2.1)) fun v1 =>
    cnd (bnot v1.2)
     (some 6)
     (cnd (ilt (n8 x.1.2.2.2.1) (n8 1))
      (some 3)
      (cnd (ilt (n8 4) (n8 x.1.2.2.2.1))
       (some 3)
       (jn (fun (v2 : Bool) =>
        cnd v2
         (some 5)
         (cnd (ieq (len x.1.2.2.2.2.2) 0)
          (some 9)
          (cnd (ilt 4 (len x.1.2.2.2.2.2))
           (some 9)
           (jn (fun (v3 : List Int) =>
            bnd (q147 N (v1.1, v3)) fun v4 =>
            some v4.2)
           fun v5 =>
           fixN (fun v6 (v7 : (List Int) × Int) =>
            cnd (ilt v7.2 (len x.1.2.2.2.2.2))
             (grd (inb v7.2 (len x.1.2.2.2.2.2))
              (bnd (q142 N (lget x.1.2.2.2.2.2 (toN v7.2) [])) fun v8 =>
              cnd (ine v8 0)
               (some v8)
               (bnd (q143 N (lget x.1.2.2.2.2.2 (toN v7.2) [])) fun v9 =>
               bnd (r11_neat N v9) fun v10 =>
               cnd (bnot v10)
                (some 4)
                (bnd (r09_Len N (lget x.1.2.2.2.2.2 (toN v7.2) [])) fun v11 =>
                cnd (ilt 32 v11)
                 (some 11)
                 (bnd (r09_Len N (lget x.1.2.2.2.2.2 (toN v7.2) [])) fun v12 =>
                 grd (room (iadd (len v7.1) (len ([v12] : List Int))) 8) <|
                 v6 (lapp v7.1 ([v12] : List Int), w64 (iadd v7.2 1)))))))
             (v5 v7.1)) N (([] : List Int), 0)))))
       fun v13 =>
       cnd (sne x.1.2.2.2.2.1 ([] : List UInt8))
        (bnd (r07_Name N x.1.2.2.2.2.1) fun v14 =>
        v13 (bnot v14))
        (v13 false)))))))
def ps_r19_read : List PK := [.k (.v (.slice (.st (.pair (.str) (.int .i64)))) []), .k (.v (.int .i64) []), .k (.v (.u8) [])]
def rs_r19_read : List Kd := [.v Y1 [], .v Y5 []]
def r19_read (N : Nat) (x : (List ((List UInt8) × Int)) × Int × UInt8) : Option (D1 × Int × Int × Int) :=
 grd (inb (w64 (isub (len x.1) 1)) (len x.1)) <|
 jn (fun (v0 : List ((List UInt8) × Int)) =>
  cnd (ieq (len v0) 0)
   (some ((0, (0, 0), ([] : List UInt8), 0, ([] : List UInt8), ([] : List (List D2))), (lget x.1 (toN (w64 (isub (len x.1) 1))) ([], 0)).2, 1, 4))
   (grd (inb 0 (len v0))
    (grd (inb 0 (len v0))
     (bnd (q127 N (lget v0 (toN 0) ([], 0)).1) fun v1 =>
     cnd (bnot v1.2.2)
      (some ((0, (0, 0), ([] : List UInt8), 0, ([] : List UInt8), ([] : List (List D2))), (lget v0 (toN 0) ([], 0)).2, 1, 4))
      (cnd (ilt 400 x.2.1)
       (some ((0, (0, 0), ([] : List UInt8), 0, ([] : List UInt8), ([] : List (List D2))), (lget v0 (toN 0) ([], 0)).2, 1, 9))
       (bnd (q132 N (x.2.2, v1.1)) fun v2 =>
       cnd (ine v2.2 0)
        (some ((0, (0, 0), ([] : List UInt8), 0, ([] : List UInt8), ([] : List (List D2))), (lget v0 (toN 0) ([], 0)).2, 1, v2.2))
        (bnd (q132 N (x.2.2, v1.2.1)) fun v3 =>
        cnd (ine v3.2 0)
         (some ((0, (0, 0), ([] : List UInt8), 0, ([] : List UInt8), ([] : List (List D2))), (lget v0 (toN 0) ([], 0)).2, 1, v3.2))
         (jn (fun (v4 : D1) =>
          bnd (q148 N (v4, ([] : List D4))) fun v5 =>
          some (v4, (lget v0 (toN 0) ([], 0)).2, 1, v5))
         fun v6 =>
         grd (in2 1 (len v0)) <|
         fixN (fun v7 (v8 : Int × Int × (Int × Int) × (List UInt8) × UInt8 × (List UInt8) × List (List D2)) =>
          cnd (ilt v8.1 (len (ldrop (toN 1) v0)))
           (grd (inb v8.1 (len (ldrop (toN 1) v0)))
            (bnd (q134 N (lget (ldrop (toN 1) v0) (toN v8.1) ([], 0)).1) fun v9 =>
            grd (room (iadd (len v8.2.2.2.2.2.2) (len ([v9] : List (List D2)))) 24) <|
            v7 (w64 (iadd v8.1 1), v8.2.1, v8.2.2.1, v8.2.2.2.1, v8.2.2.2.2.1, v8.2.2.2.2.2.1, lapp v8.2.2.2.2.2.2 ([v9] : List (List D2)))))
           (v6 v8.2)) N (0, x.2.1, (v2.1, v3.1), ([] : List UInt8), 1, ([] : List UInt8), ([] : List (List D2)))))))))))
 fun v10 =>
 grd (inb 0 (len x.1)) <|
 cnd (ile (len (lget x.1 (toN 0) ([], 0)).1) 9)
  (grd (inb 0 (len x.1))
   (bnd (q124 N (lget x.1 (toN 0) ([], 0)).1) fun v11 =>
   cnd v11
    (grd (in2 1 (len x.1))
     (v10 (ldrop (toN 1) x.1)))
    (v10 x.1)))
  (v10 x.1)
def ps_r11_Less : List PK := [.k (.v Y1 []), .k (.v Y1 [])]
def rs_r11_Less : List Kd := [.v (.bool) []]
def r11_Less (N : Nat) (x : D1 × Int × (Int × Int) × (List UInt8) × UInt8 × (List UInt8) × List (List D2)) : Option (Bool) :=
 cnd (ilt x.1.2.1.1 x.2.2.1.1)
  (some true)
  (cnd (ieq x.1.2.1.1 x.2.2.1.1)
   (some (ilt x.1.1 x.2.1))
   (some false))
def ps_q149 : List PK := [.k (.v (.slice (.st Y3)) [])]
def rs_q149 : List Kd := [.v (.slice (.st Y3)) [0]]
def q149 (N : Nat) (x : List (List D2)) : Option (List (List D2)) :=
 jn (fun (v0 : List (List D2)) =>
  some v0)
 fun v1 =>
 fixN (fun v2 (v3 : (List (List D2)) × Int) =>
  cnd (ilt v3.2 (len x))
   (grd (inb v3.2 (len x))
    (grd (room (iadd (len ([] : List D2)) (len (lget x (toN v3.2) []))) 40)
     (grd (room (iadd (len v3.1) (len ([lapp ([] : List D2) (lget x (toN v3.2) [])] : List (List D2)))) 24)
      (v2 (lapp v3.1 ([lapp ([] : List D2) (lget x (toN v3.2) [])] : List (List D2)), w64 (iadd v3.2 1))))))
   (v1 v3.1)) N (([] : List (List D2)), 0)
def ps_q150 : List PK := [.k (.v Y1 [])]
def rs_q150 : List Kd := [.v Y1 [6]]
def q150 (N : Nat) (x : D1) : Option D1 :=
 bnd (q149 N x.2.2.2.2.2) fun v0 =>
 some (x.1, x.2.1, x.2.2.1, x.2.2.2.1, x.2.2.2.2.1, v0)
def ps_r12_Sort : List PK := [.k (.v (.slice Y1) [])]
def rs_r12_Sort : List Kd := [.v (.slice Y1) [0]]
def r12_Sort (N : Nat) (x : List D1) : Option (List D1) :=
 jn (fun (v0 : List D1) =>
  some v0)
 fun v1 =>
 fixN (fun v2 (v3 : (List D1) × Int) =>
  cnd (ilt v3.2 (len x))
   (jn (fun (v4 : List D1) =>
    v2 (v4, w64 (iadd v3.2 1)))
   fun v5 =>
   grd (inb v3.2 (len x)) <|
   jn (fun (v6 : Int) =>
    grd (in2 v6 (ofN (nlen v3.1))) <|
    grd (room (len (cutl v3.1 0 (toN v6))) 88) <|
    bnd (q150 N (lget x (toN v3.2) (0, ((0, 0), ([], (0, ([], []))))))) fun v7 =>
    grd (room (iadd (len (cutl v3.1 0 (toN v6))) (len ([v7] : List D1))) 88) <|
    grd (in2 v6 (ofN (nlen v3.1))) <|
    grd (room (iadd (len (lapp (cutl v3.1 0 (toN v6)) ([v7] : List D1))) (len (cutl v3.1 (toN v6) (nsub (nlen v3.1) (toN v6))))) 88) <|
    v5 (lapp (lapp (cutl v3.1 0 (toN v6)) ([v7] : List D1)) (cutl v3.1 (toN v6) (nsub (nlen v3.1) (toN v6)))))
   fun v8 =>
   fixN (fun v9 (v10 : Int) =>
    cnd (ilt 0 v10)
     (grd (inb (w64 (isub v10 1)) (len v3.1))
      (bnd (r11_Less N (lget x (toN v3.2) (0, ((0, 0), ([], (0, ([], []))))), lget v3.1 (toN (w64 (isub v10 1))) (0, ((0, 0), ([], (0, ([], []))))))) fun v11 =>
      cnd v11
       (v9 (w64 (isub v10 1)))
       (v8 v10)))
     (v8 v10)) N (len v3.1))
   (v1 v3.1)) N (([] : List D1), 0)
def ps_q151 : List PK := [.k (.v (.str) []), .k (.v (.u8) []), .k (.v (.bool) [])]
def rs_q151 : List Kd := [.v Y2 [5, 6, 7], .v (.slice Y5) [0]]
def q151 (N : Nat) (x : List UInt8 × UInt8 × Bool) : Option (D3 × List D6) :=
 jn (fun (v0 : Unit) =>
  cnd (ilt 262144 (len x.1))
   (some ((([] : List UInt8), ([] : List UInt8), 0, false, 0, ([] : List D4), ([] : List D1), ([] : List D5)), ([(1, 1, 9)] : List D6)))
   (jn (fun (v1 : (List D6) × (List UInt8) × (List UInt8) × UInt8 × Bool × Int × (List D4) × (List D1) × List D5) =>
    bnd (r12_Sort N v1.2.2.2.2.2.2.2.1) fun v2 =>
    some ((v1.2.1, v1.2.2.1, v1.2.2.2.1, v1.2.2.2.2.1, v1.2.2.2.2.2.1, v1.2.2.2.2.2.2.1, v2, v1.2.2.2.2.2.2.2.2), v1.1))
   fun v3 =>
   bnd (q123 N x.1) fun v4 =>
   fixN (fun v5 (v6 : (List D6) × Int × (List UInt8) × (List UInt8) × UInt8 × Bool × Int × (List D4) × (List D1) × List D5) =>
    cnd (ilt v6.2.1 (len v4))
     (grd (inb v6.2.1 (len v4))
      (bnd (r19_read N (lget v4 (toN v6.2.1) [], w64 (iadd v6.2.2.2.2.2.2.1 1), x.2.1)) fun v7 =>
      cnd (ieq v7.2.2.2 0)
       (grd (room (iadd (len v6.2.2.2.2.2.2.2.2.1) (len ([v7.1] : List D1))) 88)
        (v5 (v6.1, w64 (iadd v6.2.1 1), v6.2.2.1, v6.2.2.2.1, v6.2.2.2.2.1, v6.2.2.2.2.2.1, w64 (iadd v6.2.2.2.2.2.2.1 1), v6.2.2.2.2.2.2.2.1, lapp v6.2.2.2.2.2.2.2.2.1 ([v7.1] : List D1), v6.2.2.2.2.2.2.2.2.2)))
       (cnd (ilt (len v6.1) 50)
        (grd (room (iadd (len v6.1) (len ([v7.2] : List D6))) 24)
         (v5 (lapp v6.1 ([v7.2] : List D6), w64 (iadd v6.2.1 1), v6.2.2)))
        (v5 (v6.1, w64 (iadd v6.2.1 1), v6.2.2)))))
     (v3 (v6.1, v6.2.2))) N (([] : List D6), 0, ([] : List UInt8), ([] : List UInt8), x.2.1, x.2.2, 0, ([] : List D4), ([] : List D1), ([] : List D5))))
 fun v8 =>
 bnd (q121 N x.2.1) fun v9 =>
 cnd (bnot v9)
  (some ((([] : List UInt8), ([] : List UInt8), 0, false, 0, ([] : List D4), ([] : List D1), ([] : List D5)), ([(1, 1, 13)] : List D6)))
  (cnd x.2.2
   (bnd (q122 N x.2.1) fun v10 =>
   cnd (bnot v10)
    (some ((([] : List UInt8), ([] : List UInt8), 0, false, 0, ([] : List D4), ([] : List D1), ([] : List D5)), ([(1, 1, 13)] : List D6)))
    (v8 ()))
   (v8 ()))
def ps_q152 : List PK := [.k (.v (.slice Y5) []), .k (.v (.slice Y5) [])]
def rs_q152 : List Kd := [.v (.bool) []]
def q152 (N : Nat) (x : (List D6) × List D6) : Option (Bool) :=
 cnd (ine (len x.1) (len x.2))
  (some false)
  (jn (fun (v0 : Unit) =>
   some true)
  fun v1 =>
  fixN (fun v2 (v3 : Int) =>
   cnd (ilt v3 (len x.1))
    (grd (inb v3 (len x.1))
     (grd (inb v3 (len x.2))
      (cnd (bnot (band (ieq (lget x.1 (toN v3) (0, (0, 0))).1 (lget x.2 (toN v3) (0, (0, 0))).1) (band (ieq (lget x.1 (toN v3) (0, (0, 0))).2.1 (lget x.2 (toN v3) (0, (0, 0))).2.1) (ieq (lget x.1 (toN v3) (0, (0, 0))).2.2 (lget x.2 (toN v3) (0, (0, 0))).2.2))))
       (some false)
       (v2 (w64 (iadd v3 1))))))
    (v1 ())) N 0)
def ps_l19_SubripDecodes : List PK := [.k (.v (.str) []), .k (.v (.u8) []), .k (.v (.bool) [])]
def rs_l19_SubripDecodes : List Kd := [.v (.bool) []]
def l19_SubripDecodes (N : Nat) (x : List UInt8 × UInt8 × Bool) : Option (Bool) :=
 bnd (l19_awake N ()) fun v0 =>
 cnd (bnot v0)
  (some false)
  (bnd (l19_short N x.1) fun v1 =>
  bnd (q110 N (v1, x.2)) fun v2 =>
  bnd (q151 N (v1, x.2)) fun v3 =>
  bnd (q120 N (v2.1, v3.1)) fun v4 =>
  cnd v4
   (bnd (q152 N (v2.2, v3.2)) fun v5 =>
   some v5)
   (some false))
def ps_q153 : List PK := [.k (.v Y2 [])]
def rs_q153 : List Kd := [.v (.int .i64) []]
def q153 (N : Nat) (x : D3) : Option (Int) :=
 bnd (q140 N x.1) fun v0 =>
 cnd (bnot v0)
  (some 10)
  (cnd (ilt 400 (len x.1))
   (some 9)
   (jn (fun (v1 : Bool) =>
    cnd v1
     (some 5)
     (jn (fun (v2 : Bool) =>
      cnd v2
       (some 13)
       (cnd (ilt x.2.2.2.2.1 0)
        (some 2)
        (cnd (ilt 1099511627776 x.2.2.2.2.1)
         (some 2)
         (some 0))))
     fun v3 =>
     bnd (q121 N x.2.2.1) fun v4 =>
     cnd (bnot v4)
      (v3 true)
      (cnd x.2.2.2.1
       (bnd (q122 N x.2.2.1) fun v5 =>
       v3 (bnot v5))
       (v3 false))))
   fun v6 =>
   cnd (sne x.2.1 ([] : List UInt8))
    (bnd (r07_Name N x.2.1) fun v7 =>
    v6 (bnot v7))
    (v6 false)))
def ps_q154 : List PK := [.k (.v (.slice Y4) [])]
def rs_q154 : List Kd := [.v (.int .i64) []]
def q154 (N : Nat) (x : List D4) : Option (Int) :=
 cnd (ilt 16 (len x))
  (some 9)
  (jn (fun (v0 : Unit) =>
   some 0)
  fun v1 =>
  fixN (fun v2 (v3 : Int) =>
   cnd (ilt v3 (len x))
    (grd (inb v3 (len x))
     (bnd (q145 N (lget x (toN v3) ([], (0, (0, (0, (0, (0, false)))))))) fun v4 =>
     cnd (ine v4 0)
      (some v4)
      (jn (fun (v5 : Unit) =>
       cnd (ilt 0 v3)
        (grd (inb (w64 (isub v3 1)) (len x))
         (cnd (slt (lget x (toN v3) ([], (0, (0, (0, (0, (0, false))))))).1 (lget x (toN (w64 (isub v3 1))) ([], (0, (0, (0, (0, (0, false))))))).1)
          (some 8)
          (v2 (w64 (iadd v3 1)))))
        (v2 (w64 (iadd v3 1))))
      fun v6 =>
      cnd (ilt 0 v3)
       (grd (inb (w64 (isub v3 1)) (len x))
        (cnd (seq (lget x (toN v3) ([], (0, (0, (0, (0, (0, false))))))).1 (lget x (toN (w64 (isub v3 1))) ([], (0, (0, (0, (0, (0, false))))))).1)
         (some 7)
         (v6 ())))
       (v6 ()))))
    (v1 ())) N 0)
def ps_r12_Find : List PK := [.k (.v Y2 []), .k (.v (.int .i64) [])]
def rs_r12_Find : List Kd := [.v (.int .i64) []]
def r12_Find (N : Nat) (x : D3 × Int) : Option (Int) :=
 jn (fun (v0 : Unit) =>
  some (-1))
 fun v1 =>
 fixN (fun v2 (v3 : Int) =>
  cnd (ilt v3 (len x.1.2.2.2.2.2.2.1))
   (grd (inb v3 (len x.1.2.2.2.2.2.2.1))
    (cnd (ieq (lget x.1.2.2.2.2.2.2.1 (toN v3) (0, ((0, 0), ([], (0, ([], [])))))).1 x.2)
     (some v3)
     (v2 (w64 (iadd v3 1)))))
   (v1 ())) N 0
def ps_r11_Len : List PK := [.k (.v Y1 [])]
def rs_r11_Len : List Kd := [.v (.int .i64) []]
def r11_Len (N : Nat) (x : D1) : Option (Int) :=
 jn (fun (v0 : Int) =>
  some v0)
 fun v1 =>
 fixN (fun v2 (v3 : Int × Int) =>
  cnd (ilt v3.2 (len x.2.2.2.2.2))
   (grd (inb v3.2 (len x.2.2.2.2.2))
    (bnd (r09_Len N (lget x.2.2.2.2.2 (toN v3.2) [])) fun v4 =>
    cnd (ilt v4 0)
     (some (-1))
     (cnd (ilt 0 v3.2)
      (v2 (w64 (iadd (w64 (iadd v3.1 1)) v4), w64 (iadd v3.2 1)))
      (v2 (w64 (iadd v3.1 v4), w64 (iadd v3.2 1))))))
   (v1 v3.1)) N (0, 0)
def ps_q155 : List PK := [.k (.v Y2 []), .k (.v (.int .i64) [])]
def rs_q155 : List Kd := [.v (.int .i64) []]
def q155 (N : Nat) (x : D3 × Int) : Option (Int) :=
 grd (inb x.2 (len x.1.2.2.2.2.2.2.2)) <|
 cnd (ilt (lget x.1.2.2.2.2.2.2.2 (toN x.2) (0, (0, (0, (0, ([], ([], (false, false)))))))).1 1)
  (some 2)
  (cnd (ilt x.1.2.2.2.2.1 (lget x.1.2.2.2.2.2.2.2 (toN x.2) (0, (0, (0, (0, ([], ([], (false, false)))))))).1)
   (some 2)
   (jn (fun (v0 : Unit) =>
    bnd (r12_Find N (x.1, (lget x.1.2.2.2.2.2.2.2 (toN x.2) (0, (0, (0, (0, ([], ([], (false, false)))))))).1)) fun v1 =>
    cnd (ile 0 v1)
     (some 7)
     (cnd (ilt (lget x.1.2.2.2.2.2.2.2 (toN x.2) (0, (0, (0, (0, ([], ([], (false, false)))))))).2.1 1)
      (some 2)
      (cnd (ilt x.1.2.2.2.2.1 (lget x.1.2.2.2.2.2.2.2 (toN x.2) (0, (0, (0, (0, ([], ([], (false, false)))))))).2.1)
       (some 2)
       (jn (fun (v2 : Unit) =>
        bnd (r07_Name N (lget x.1.2.2.2.2.2.2.2 (toN x.2) (0, (0, (0, (0, ([], ([], (false, false)))))))).2.2.2.2.1) fun v3 =>
        cnd (bnot v3)
         (some 5)
         (bnd (q140 N (lget x.1.2.2.2.2.2.2.2 (toN x.2) (0, (0, (0, (0, ([], ([], (false, false)))))))).2.2.2.2.2.1) fun v4 =>
         cnd (bnot v4)
          (some 10)
          (cnd (seq (lget x.1.2.2.2.2.2.2.2 (toN x.2) (0, (0, (0, (0, ([], ([], (false, false)))))))).2.2.2.2.2.1 ([] : List UInt8))
           (some 4)
           (cnd (ilt 400 (len (lget x.1.2.2.2.2.2.2.2 (toN x.2) (0, (0, (0, (0, ([], ([], (false, false)))))))).2.2.2.2.2.1))
            (some 9)
            (some 0)))))
       fun v5 =>
       cnd (lget x.1.2.2.2.2.2.2.2 (toN x.2) (0, (0, (0, (0, ([], ([], (false, false)))))))).2.2.2.2.2.2.2
        (cnd (ine (lget x.1.2.2.2.2.2.2.2 (toN x.2) (0, (0, (0, (0, ([], ([], (false, false)))))))).2.2.1 0)
         (some 2)
         (cnd (ine (lget x.1.2.2.2.2.2.2.2 (toN x.2) (0, (0, (0, (0, ([], ([], (false, false)))))))).2.2.2.1 0)
          (some 2)
          (v5 ())))
        (bnd (r12_Find N (x.1, (lget x.1.2.2.2.2.2.2.2 (toN x.2) (0, (0, (0, (0, ([], ([], (false, false)))))))).2.1)) fun v6 =>
        cnd (ilt v6 0)
         (some 6)
         (cnd (ilt (lget x.1.2.2.2.2.2.2.2 (toN x.2) (0, (0, (0, (0, ([], ([], (false, false)))))))).2.2.1 0)
          (some 2)
          (cnd (ile (lget x.1.2.2.2.2.2.2.2 (toN x.2) (0, (0, (0, (0, ([], ([], (false, false)))))))).2.2.2.1 (lget x.1.2.2.2.2.2.2.2 (toN x.2) (0, (0, (0, (0, ([], ([], (false, false)))))))).2.2.1)
           (some 2)
           (grd (inb v6 (len x.1.2.2.2.2.2.2.1))
            (bnd (r11_Len N (lget x.1.2.2.2.2.2.2.1 (toN v6) (0, ((0, 0), ([], (0, ([], []))))))) fun v7 =>
            cnd (ilt v7 (lget x.1.2.2.2.2.2.2.2 (toN x.2) (0, (0, (0, (0, ([], ([], (false, false)))))))).2.2.2.1)
             (some 2)
             (v5 ()))))))))))
   fun v8 =>
   cnd (ilt 0 x.2)
    (grd (inb (w64 (isub x.2 1)) (len x.1.2.2.2.2.2.2.2))
     (cnd (ile (lget x.1.2.2.2.2.2.2.2 (toN x.2) (0, (0, (0, (0, ([], ([], (false, false)))))))).1 (lget x.1.2.2.2.2.2.2.2 (toN (w64 (isub x.2 1))) (0, (0, (0, (0, ([], ([], (false, false)))))))).1)
      (some 8)
      (v8 ())))
    (v8 ())))
def ps_q156 : List PK := [.k (.v Y2 [])]
def rs_q156 : List Kd := [.v (.int .i64) []]
def q156 (N : Nat) (x : D3) : Option (Int) :=
 bnd (q153 N x) fun v0 =>
 cnd (ine v0 0)
  (some v0)
  (bnd (q154 N x.2.2.2.2.2.1) fun v1 =>
  cnd (ine v1 0)
   (some v1)
   (cnd (ilt 400 (len x.2.2.2.2.2.2.1))
    (some 9)
    (jn (fun (v2 : Unit) =>
     cnd (ilt 64 (len x.2.2.2.2.2.2.2))
      (some 9)
      (jn (fun (v3 : Unit) =>
       some 0)
      fun v4 =>
      fixN (fun v5 (v6 : Int) =>
       cnd (ilt v6 (len x.2.2.2.2.2.2.2))
        (bnd (q155 N (x, v6)) fun v7 =>
        cnd (ine v7 0)
         (some v7)
         (v5 (w64 (iadd v6 1))))
        (v4 ())) N 0))
    fun v8 =>
    fixN (fun v9 (v10 : Int) =>
     cnd (ilt v10 (len x.2.2.2.2.2.2.1))
      (grd (inb v10 (len x.2.2.2.2.2.2.1))
       (bnd (q148 N (lget x.2.2.2.2.2.2.1 (toN v10) (0, ((0, 0), ([], (0, ([], []))))), x.2.2.2.2.2.1)) fun v11 =>
       cnd (ine v11 0)
        (some v11)
        (cnd (ilt x.2.2.2.2.1 (lget x.2.2.2.2.2.2.1 (toN v10) (0, ((0, 0), ([], (0, ([], [])))))).1)
         (some 2)
         (cnd (ilt 0 v10)
          (grd (inb (w64 (isub v10 1)) (len x.2.2.2.2.2.2.1))
           (bnd (r11_Less N (lget x.2.2.2.2.2.2.1 (toN (w64 (isub v10 1))) (0, ((0, 0), ([], (0, ([], []))))), lget x.2.2.2.2.2.2.1 (toN v10) (0, ((0, 0), ([], (0, ([], []))))))) fun v12 =>
           cnd (bnot v12)
            (some 8)
            (bnd (r12_Find N (x, (lget x.2.2.2.2.2.2.1 (toN v10) (0, ((0, 0), ([], (0, ([], [])))))).1)) fun v13 =>
            cnd (ine v13 v10)
             (some 7)
             (v9 (w64 (iadd v10 1))))))
          (bnd (r12_Find N (x, (lget x.2.2.2.2.2.2.1 (toN v10) (0, ((0, 0), ([], (0, ([], [])))))).1)) fun v14 =>
          cnd (ine v14 v10)
           (some 7)
           (v9 (w64 (iadd v10 1))))))))
      (v8 ())) N 0)))
def ps_r02_Time : List PK := [.k (.v (.u8) []), .k (.v (.int .i64) [])]
def rs_r02_Time : List Kd := [.v (.int .i64) [], .v (.int .i64) []]
def r02_Time (N : Nat) (x : UInt8 × Int) : Option (Int × Int) :=
 bnd (q121 N x.1) fun v0 =>
 cnd (bnot v0)
  (some (0, 3))
  (cnd (ilt x.2 0)
   (some (0, 2))
   (bnd (q128 N x.1) fun v1 =>
   grd (ine v1 0) <|
   cnd (ilt (w64 (idiv 10378368000 v1)) x.2)
    (some (0, 2))
    (bnd (q128 N x.1) fun v2 =>
    some (w64 (imul x.2 v2), 0))))
def ps_q157 : List PK := [.k (.v (.u8) []), .k (.v (.int .i64) [])]
def rs_q157 : List Kd := [.v (.int .i64) [], .v (.int .i64) []]
def q157 (N : Nat) (x : UInt8 × Int) : Option (Int × Int) :=
 bnd (r02_Time N x) fun v0 =>
 cnd (ine v0.2 0)
  (some (0, v0.2))
  (bnd (q130 N (v0.1, 120, 2)) fun v1 =>
  some v1)
def ps_q158 : List PK := [.k (.v (.int .i64) []), .k (.v (.int .i64) [])]
def rs_q158 : List Kd := [.v (.str) []]
def q158_r (N : Nat) : Nat → (Int × Int) → Option (List UInt8)
 | 0, _ => none
 | D + 1, x => cnd (ieq x.2 0)
   (some ([] : List UInt8))
   (bnd (q158_r N D (w64 (idiv x.1 10), w64 (isub x.2 1))) fun v0 =>
   grd (catOk (iadd (len v0) (len ([b8 (w64 (iadd 48 (imod x.1 10)))] : List UInt8)))) <|
   some (lapp v0 ([b8 (w64 (iadd 48 (imod x.1 10)))] : List UInt8)))
def q158 (N : Nat) (x : Int × Int) : Option (List UInt8) := q158_r N N x
def ps_q159 : List PK := [.k (.v (.int .i64) [])]
def rs_q159 : List Kd := [.v (.str) [], .v (.int .i64) []]
def q159 (N : Nat) (x : Int) : Option (List UInt8 × Int) :=
 cnd (ilt x 0)
  (some (([] : List UInt8), 2))
  (cnd (ilt 359999999 x)
   (some (([] : List UInt8), 2))
   (bnd (q158 N (w64 (idiv x 3600000), 2)) fun v0 =>
   grd (catOk (iadd (len v0) (len ([58] : List UInt8)))) <|
   bnd (q158 N (imod (w64 (idiv x 60000)) 60, 2)) fun v1 =>
   grd (catOk (iadd (len (lapp v0 ([58] : List UInt8))) (len v1))) <|
   grd (catOk (iadd (len (lapp (lapp v0 ([58] : List UInt8)) v1)) (len ([58] : List UInt8)))) <|
   bnd (q158 N (imod (w64 (idiv x 1000)) 60, 2)) fun v2 =>
   grd (catOk (iadd (len (lapp (lapp (lapp v0 ([58] : List UInt8)) v1) ([58] : List UInt8))) (len v2))) <|
   grd (catOk (iadd (len (lapp (lapp (lapp (lapp v0 ([58] : List UInt8)) v1) ([58] : List UInt8)) v2)) (len ([44] : List UInt8)))) <|
   bnd (q158 N (imod x 1000, 3)) fun v3 =>
   grd (catOk (iadd (len (lapp (lapp (lapp (lapp (lapp v0 ([58] : List UInt8)) v1) ([58] : List UInt8)) v2) ([44] : List UInt8))) (len v3))) <|
   some (lapp (lapp (lapp (lapp (lapp (lapp v0 ([58] : List UInt8)) v1) ([58] : List UInt8)) v2) ([44] : List UInt8)) v3, 0)))
def ps_q160 : List PK := [.k (.v (.int .i64) [])]
def rs_q160 : List Kd := [.v (.str) []]
def q160 (N : Nat) (x : Int) : Option (List UInt8) :=
 jn (fun (v0 : Int × List UInt8) =>
  jn (fun (v1 : Int × List UInt8) =>
   grd (in3 v1.1 (wr .u64 (iadd v1.1 1)) (len ([48, 49, 50, 51, 52, 53, 54, 55, 56, 57] : List UInt8))) <|
   grd (catOk (iadd (len v0.2) (len (ldrop (toN v1.1) (ltake (toN (wr .u64 (iadd v1.1 1))) ([48, 49, 50, 51, 52, 53, 54, 55, 56, 57] : List UInt8)))))) <|
   grd (catOk (iadd (len (lapp v0.2 (ldrop (toN v1.1) (ltake (toN (wr .u64 (iadd v1.1 1))) ([48, 49, 50, 51, 52, 53, 54, 55, 56, 57] : List UInt8))))) (len v1.2))) <|
   some (lapp (lapp v0.2 (ldrop (toN v1.1) (ltake (toN (wr .u64 (iadd v1.1 1))) ([48, 49, 50, 51, 52, 53, 54, 55, 56, 57] : List UInt8)))) v1.2))
  fun v2 =>
  fixN (fun v3 (v4 : Int × List UInt8) =>
   cnd (ile 10 v4.1)
    (grd (in3 (imod v4.1 10) (wr .u64 (iadd (imod v4.1 10) 1)) (len ([48, 49, 50, 51, 52, 53, 54, 55, 56, 57] : List UInt8)))
     (grd (catOk (iadd (len (ldrop (toN (imod v4.1 10)) (ltake (toN (wr .u64 (iadd (imod v4.1 10) 1))) ([48, 49, 50, 51, 52, 53, 54, 55, 56, 57] : List UInt8)))) (len v4.2)))
      (v3 (wr .u64 (idiv v4.1 10), lapp (ldrop (toN (imod v4.1 10)) (ltake (toN (wr .u64 (iadd (imod v4.1 10) 1))) ([48, 49, 50, 51, 52, 53, 54, 55, 56, 57] : List UInt8))) v4.2))))
    (v2 v4)) N (v0.1, ([] : List UInt8)))
 fun v5 =>
 cnd (ilt x 0)
  (v5 (wr .u64 (isub 0 (wr .u64 x)), ([45] : List UInt8)))
  (v5 (wr .u64 x, ([] : List UInt8)))
def ps_q161 : List PK := [.k (.v (.st Y3) [])]
def rs_q161 : List Kd := [.v (.st Y3) [0]]
def q161 (N : Nat) (x : List D2) : Option (List D2) :=
 jn (fun (v0 : List D2) =>
  bnd (r09_Norm N v0) fun v1 =>
  some v1)
 fun v2 =>
 fixN (fun v3 (v4 : Int × List D2) =>
  cnd (ilt v4.1 (len x))
   (grd (inb v4.1 (len x))
    (grd (room (iadd (len v4.2) (len ([((lget x (toN v4.1) ([], ((0, (false, false)), []))).1, (0, (lget x (toN v4.1) ([], ((0, (false, false)), []))).2.1.2), ([] : List UInt8))] : List D2))) 40)
     (v3 (w64 (iadd v4.1 1), lapp v4.2 ([((lget x (toN v4.1) ([], ((0, (false, false)), []))).1, (0, (lget x (toN v4.1) ([], ((0, (false, false)), []))).2.1.2), ([] : List UInt8))] : List D2)))))
   (v2 v4.2)) N (0, ([] : List D2))
def ps_q162 : List PK := [.k (.v (.st Y3) [])]
def rs_q162 : List Kd := [.v (.str) [], .v (.int .i64) []]
def q162 (N : Nat) (x : List D2) : Option (List UInt8 × Int) :=
 bnd (q142 N x) fun v0 =>
 cnd (ine v0 0)
  (some (([] : List UInt8), v0))
  (jn (fun (v1 : List UInt8) =>
   some (v1, 0))
  fun v2 =>
  bnd (q161 N x) fun v3 =>
  fixN (fun v4 (v5 : (List UInt8) × Int) =>
   cnd (ilt v5.2 (len v3))
    (jn (fun (v6 : List UInt8) =>
     v4 (v6, w64 (iadd v5.2 1)))
    fun v7 =>
    grd (inb v5.2 (len v3)) <|
    jn (fun (v8 : Unit) =>
     jn (fun (v9 : List UInt8) =>
      cnd (lget v3 (toN v5.2) ([], ((0, (false, false)), []))).2.1.2.1
       (grd (catOk (iadd (len ([60, 105, 62] : List UInt8)) (len v9)))
        (grd (catOk (iadd (len (lapp ([60, 105, 62] : List UInt8) v9)) (len ([60, 47, 105, 62] : List UInt8))))
         (grd (catOk (iadd (len v5.1) (len (lapp (lapp ([60, 105, 62] : List UInt8) v9) ([60, 47, 105, 62] : List UInt8)))))
          (v7 (lapp v5.1 (lapp (lapp ([60, 105, 62] : List UInt8) v9) ([60, 47, 105, 62] : List UInt8)))))))
       (grd (catOk (iadd (len v5.1) (len v9)))
        (v7 (lapp v5.1 v9))))
     fun v10 =>
     cnd (lget v3 (toN v5.2) ([], ((0, (false, false)), []))).2.1.2.2
      (grd (catOk (iadd (len ([60, 117, 62] : List UInt8)) (len (lget v3 (toN v5.2) ([], ((0, (false, false)), []))).1)))
       (grd (catOk (iadd (len (lapp ([60, 117, 62] : List UInt8) (lget v3 (toN v5.2) ([], ((0, (false, false)), []))).1)) (len ([60, 47, 117, 62] : List UInt8))))
        (v10 (lapp (lapp ([60, 117, 62] : List UInt8) (lget v3 (toN v5.2) ([], ((0, (false, false)), []))).1) ([60, 47, 117, 62] : List UInt8)))))
      (v10 (lget v3 (toN v5.2) ([], ((0, (false, false)), []))).1))
    fun v11 =>
    fixN (fun v12 (v13 : Int) =>
     cnd (ilt v13 (len (lget v3 (toN v5.2) ([], ((0, (false, false)), []))).1))
      (grd (inb v13 (len (lget v3 (toN v5.2) ([], ((0, (false, false)), []))).1))
       (cnd (ieq (n8 (lget (lget v3 (toN v5.2) ([], ((0, (false, false)), []))).1 (toN v13) 0)) (n8 60))
        (some (([] : List UInt8), 10))
        (grd (inb v13 (len (lget v3 (toN v5.2) ([], ((0, (false, false)), []))).1))
         (cnd (ieq (n8 (lget (lget v3 (toN v5.2) ([], ((0, (false, false)), []))).1 (toN v13) 0)) (n8 62))
          (some (([] : List UInt8), 10))
          (grd (inb v13 (len (lget v3 (toN v5.2) ([], ((0, (false, false)), []))).1))
           (cnd (ieq (n8 (lget (lget v3 (toN v5.2) ([], ((0, (false, false)), []))).1 (toN v13) 0)) (n8 38))
            (some (([] : List UInt8), 10))
            (v12 (w64 (iadd v13 1)))))))))
      (v11 ())) N 0)
    (v2 v5.1)) N (([] : List UInt8), 0))
def ps_r19_file : List PK := [.k (.v Y2 [])]
def rs_r19_file : List Kd := [.v (.str) [], .v (.int .i64) [], .v (.int .i64) []]
def r19_file (N : Nat) (x : D3) : Option (List UInt8 × Int × Int) :=
 jn (fun (v0 : List UInt8) =>
  some (v0, (-1), 0))
 fun v1 =>
 fixN (fun v2 (v3 : (List UInt8) × Int) =>
  cnd (ilt v3.2 (len x.2.2.2.2.2.2.1))
   (jn (fun (v4 : List UInt8) =>
    v2 (v4, w64 (iadd v3.2 1)))
   fun v5 =>
   grd (inb v3.2 (len x.2.2.2.2.2.2.1)) <|
   bnd (q157 N (x.2.2.1, (lget x.2.2.2.2.2.2.1 (toN v3.2) (0, ((0, 0), ([], (0, ([], [])))))).2.1.1)) fun v6 =>
   cnd (ine v6.2 0)
    (some (([] : List UInt8), v3.2, v6.2))
    (bnd (q157 N (x.2.2.1, (lget x.2.2.2.2.2.2.1 (toN v3.2) (0, ((0, 0), ([], (0, ([], [])))))).2.1.2)) fun v7 =>
    cnd (ine v7.2 0)
     (some (([] : List UInt8), v3.2, v7.2))
     (bnd (q159 N v6.1) fun v8 =>
     bnd (q159 N v7.1) fun v9 =>
     bnd (q160 N (w64 (iadd v3.2 1))) fun v10 =>
     grd (catOk (iadd (len v10) (len ([10] : List UInt8)))) <|
     grd (catOk (iadd (len (lapp v10 ([10] : List UInt8))) (len v8.1))) <|
     grd (catOk (iadd (len (lapp (lapp v10 ([10] : List UInt8)) v8.1)) (len ([32, 45, 45, 62, 32] : List UInt8)))) <|
     grd (catOk (iadd (len (lapp (lapp (lapp v10 ([10] : List UInt8)) v8.1) ([32, 45, 45, 62, 32] : List UInt8))) (len v9.1))) <|
     grd (catOk (iadd (len (lapp (lapp (lapp (lapp v10 ([10] : List UInt8)) v8.1) ([32, 45, 45, 62, 32] : List UInt8)) v9.1)) (len ([10] : List UInt8)))) <|
     grd (catOk (iadd (len v3.1) (len (lapp (lapp (lapp (lapp (lapp v10 ([10] : List UInt8)) v8.1) ([32, 45, 45, 62, 32] : List UInt8)) v9.1) ([10] : List UInt8))))) <|
     jn (fun (v11 : List UInt8) =>
      grd (catOk (iadd (len v11) (len ([10] : List UInt8)))) <|
      v5 (lapp v11 ([10] : List UInt8)))
     fun v12 =>
     fixN (fun v13 (v14 : (List UInt8) × Int) =>
      cnd (ilt v14.2 (len (lget x.2.2.2.2.2.2.1 (toN v3.2) (0, ((0, 0), ([], (0, ([], [])))))).2.2.2.2.2))
       (grd (inb v14.2 (len (lget x.2.2.2.2.2.2.1 (toN v3.2) (0, ((0, 0), ([], (0, ([], [])))))).2.2.2.2.2))
        (bnd (q162 N (lget (lget x.2.2.2.2.2.2.1 (toN v3.2) (0, ((0, 0), ([], (0, ([], [])))))).2.2.2.2.2 (toN v14.2) [])) fun v15 =>
        cnd (ine v15.2 0)
         (some (([] : List UInt8), v3.2, v15.2))
         (grd (catOk (iadd (len v15.1) (len ([10] : List UInt8))))
          (grd (catOk (iadd (len v14.1) (len (lapp v15.1 ([10] : List UInt8)))))
           (v13 (lapp v14.1 (lapp v15.1 ([10] : List UInt8)), w64 (iadd v14.2 1)))))))
       (v12 v14.1)) N (lapp v3.1 (lapp (lapp (lapp (lapp (lapp v10 ([10] : List UInt8)) v8.1) ([32, 45, 45, 62, 32] : List UInt8)) v9.1) ([10] : List UInt8)), 0))))
   (v1 v3.1)) N (([] : List UInt8), 0)
def ps_q163 : List PK := [.k (.v Y2 [])]
def rs_q163 : List Kd := [.v (.int .i64) [], .v (.int .i64) []]
def q163 (N : Nat) (x : D3) : Option (Int × Int) :=
 bnd (q156 N x) fun v0 =>
 cnd (ine v0 0)
  (some ((-1), v0))
  (bnd (r19_file N x) fun v1 =>
  cnd (ine v1.2.2 0)
   (some v1.2)
   (cnd (ilt 262144 (len v1.1))
    (some ((-1), 9))
    (some ((-1), 0))))
def ps_q164 : List PK := [.k (.v Y2 [])]
def rs_q164 : List Kd := [.v (.str) [], .v (.int .i64) []]
def q164 (N : Nat) (x : D3) : Option (List UInt8 × Int) :=
 bnd (q163 N x) fun v0 =>
 cnd (ine v0.2 0)
  (some (([] : List UInt8), v0.2))
  (bnd (r19_file N x) fun v1 =>
  some (v1.1, 0))
def ps_l19_SubripEncodes : List PK := [.k (.v Y2 [])]
def rs_l19_SubripEncodes : List Kd := [.v (.bool) []]
def l19_SubripEncodes (N : Nat) (x : D3) : Option (Bool) :=
 bnd (l19_awake N ()) fun v0 =>
 cnd (bnot v0)
  (some false)
  (bnd (l19_few N x) fun v1 =>
  bnd (q76 N v1) fun v2 =>
  bnd (q164 N v1) fun v3 =>
  cnd (seq v2.1 v3.1)
   (some (ieq v2.2 v3.2))
   (some false))
end
end Go.Mo
end

section
/-
  Two functions of strings.Builder, walked by hand. The numbers are printed by a program.
-/
set_option linter.unusedVariables false
namespace Go.Mo
open Go Go.W Go.Proofs Go.RowKit
theorem sizeB : (Tryz.prog.info? 84).map (·.size) = some 2 := by kernel_rfl
theorem liesB : liesAt Tryz.prog Tryz.prog.depth 84 (2 / Tryz.prog.cellsOf 84) 0 84 1 = true := by kernel_rfl
theorem cellsByte : Tryz.prog.cellsOf 5 = 1 := by kernel_rfl
theorem undP : Tryz.prog.underlying 81 = some (.pointer 84) := by kernel_rfl
theorem undU : Tryz.prog.underlying 177 = some .unsafePointer := by kernel_rfl
theorem undBP : Tryz.prog.underlying 132 = some (.pointer 5) := by kernel_rfl
theorem undSl : Tryz.prog.underlying 82 = some (.slice 5) := by kernel_rfl
theorem mixedB : Tryz.prog.follows .mixedOrders = true := by kernel_rfl
theorem fNe : Tryz.prog.funcs[149]? = some Tryz.f149 := by kernel_rfl
set_option maxHeartbeats 1000000 in
set_option maxRecDepth 100000 in
theorem cc_used (b : Nat) (w : World) (h0 : w.cell? ⟨b, 0, none⟩ = some (.pointer (some ⟨b, 0, none⟩))) :
  Calls Tryz.prog 93 #[.pointer (some ⟨b, 0, none⟩)] w fun e w' => e = .returned (.tuple #[]) ∧ w' = w := by
 obtain ⟨j, hj, _⟩ := Option.map_eq_some_iff.1 sizeB
 go_enter Tryz.func93, Tryz.ntmps93
 go_wp2
 rw [Lib.run_neq_ptr_same w _ undP hj]
 go_wp2
 go_end0
 exact ⟨rfl, rfl⟩
set_option maxHeartbeats 1000000 in
set_option maxRecDepth 100000 in
theorem cc_fresh (b : Nat) (w : World) (h0 : w.cell? ⟨b, 0, none⟩ = some (.pointer none)) (hsh : w.shape? b = some (84, 2)) (hfz : w.frozen? ⟨b, 0, none⟩ = false) :
  Calls Tryz.prog 93 #[.pointer (some ⟨b, 0, none⟩)] w fun e w' => e = .returned (.tuple #[]) ∧ w' = w.setCell ⟨b, 0, none⟩ (.pointer (some ⟨b, 0, none⟩)) := by
 obtain ⟨j, hj, hjs⟩ := Option.map_eq_some_iff.1 sizeB
 go_enter Tryz.func93, Tryz.ntmps93
 go_wp2
 rw [Lib.run_to_unsafe w ⟨b, 0, none⟩ undP undU hj (by rw [hjs]; decide) hsh (Nat.zero_lt_succ 1)]
 simp only [Result.andThen]
 rw [Oper.upon_value]
 go_wp2
 rw [run_callFunc_extern fNe (by kernel_rfl) (by kernel_rfl) (by kernel_rfl) (e := Extern.AbiNoEscape.same) (by kernel_rfl)]
 rw [Lib.run_noEscape]
 simp only [Result.andThen]
 rw [Oper.upon_value]
 go_wp2
 rw [Lib.run_from_unsafe w ⟨b, 0, none⟩ undU undP hj hsh liesB]
 simp only [Result.andThen]
 rw [Oper.upon_value]
 go_wp2
 go_end0
 exact ⟨rfl, rfl⟩
theorem ccOk : CcOk Tryz.prog 93 84 := by
 intro w b p v hb hp
 refine ⟨by
  unfold callFunc
  simp only [program, Sem.run_bind, Sem.run, Result.andThen_ok, show Tryz.prog.funcs[93]? = some Tryz.f93 from by kernel_rfl]
  rfl, ?_⟩
 have c0 : w.cell? ⟨b, 0, none⟩ = some p := by rw [Lib.cell_of_heap hb]; rfl
 rcases hp with hp | hp
 ·subst hp
  refine (cc_fresh b w c0 (by simp [World.shape?, hb]) (Lib.frozen_of_heap hb 0)).mono ?_
  rintro e w' ⟨rfl, rfl⟩
  refine ⟨rfl, rfl, rfl, rfl, by simp [World.setCell], fun b' hb' => ?_, .pointer (some ⟨b, 0, none⟩), ?_, .inr rfl⟩
  ·simp [World.setCell, Array.getElem?_modify, Ne.symm hb']
  ·simp [World.setCell, Array.getElem?_modify, hb]
 ·subst hp
  refine (cc_used b w c0).mono ?_
  rintro e w' ⟨rfl, rfl⟩
  exact ⟨rfl, rfl, rfl, rfl, rfl, fun _ _ => rfl, _, hb, .inr rfl⟩
section
variable (b : Nat) (p : Value) (w : World)
set_option maxHeartbeats 2000000 in
set_option maxRecDepth 100000 in
theorem bs_some (l : List UInt8) (h0 : l ≠ []) (g cap : Nat) (cur : Array Value) (fz : Nat × Nat) (hbk : w.heap[b]? = some (.cells #[p, .slice (some ⟨g, 0, none⟩) l.length cap] 84 (0, 0))) (hg : w.heap[g]? = some (.cells cur 5 fz)) (hnc : l.length ≤ cap) (hcm : cap ≤ maxLen) (hcs : cap ≤ cur.size) (htake : cur.toList.take l.length = l.map fun b => Value.int .u8 (b.toNat : Int)) :
  Calls Tryz.prog 50 #[.pointer (some ⟨b, 0, none⟩)] w fun e w' => e = .returned (.string ⟨l.toArray⟩) ∧ w' = w.drew.freeze ⟨g, 0, none⟩ l.length := by
 have hl0 : l.length ≠ 0 := by simpa using h0
 have c1 : w.drew.cell? ⟨b, 1, none⟩ = some (.slice (some ⟨g, 0, none⟩) l.length cap) := by
  have : w.drew.heap[b]? = some (.cells #[p, .slice (some ⟨g, 0, none⟩) l.length cap] 84 (0, 0)) := hbk
  rw [Lib.cell_of_heap this]; rfl
 have hSD : (Builtin.unsafeSliceData_ #[82] 132 #[.slice (some ⟨g, 0, none⟩) l.length cap]).run Tryz.prog w.drew = .ok (.pointer (some ⟨g, 0, none⟩)) w.drew :=
  Lib.run_unsafeSliceData_row _ _ _ _ _ _ (by omega)
 have hUS : (Builtin.unsafeString_ #[132, 3] 9 #[.pointer (some ⟨g, 0, none⟩), .int .i64 l.length]).run Tryz.prog w.drew = .ok (.string ⟨l.toArray⟩) (w.drew.freeze ⟨g, 0, none⟩ l.length) := by
  refine Lib.run_unsafeString_row w.drew 132 3 9 5 undBP cellsByte g cur.size (by have hg' : w.drew.heap[g]? = some (.cells cur 5 fz) := hg; simp [World.shape?, hg']) l h0 (by omega) (by unfold maxLen at hcm; omega) ?_
  intro j x hx
  have hg' : w.drew.heap[g]? = some (.cells cur 5 fz) := hg
  rw [add_lit, cell_row hg', Nat.zero_add]
  have hj : j < l.length := (List.getElem?_eq_some_iff.1 hx).1
  have := congrArg (·[j]?) htake
  simp only [List.getElem?_take, hj, if_true, List.getElem?_map, hx, Option.map_some] at this
  simpa using this
 go_enter Tryz.func50, Tryz.ntmps50
 go_wp2
 go_region
 all_goals (go_wp2; go_ret; exact ⟨rfl, rfl⟩)
theorem us_none (W : World) (q : Option Addr) : (Builtin.unsafeString_ #[132, 3] 9 #[.pointer q, .int .i64 0]).run Tryz.prog W = .ok (.string .empty) W := Lib.run_unsafeString_none W _ _ _ q
set_option maxHeartbeats 2000000 in
set_option maxRecDepth 100000 in
theorem bs_nil (hbk : w.heap[b]? = some (.cells #[p, .slice none 0 0] 84 (0, 0))) :
  Calls Tryz.prog 50 #[.pointer (some ⟨b, 0, none⟩)] w fun e w' => e = .returned (.string ⟨#[]⟩) ∧ w' = w.drew := by
 have hUS := us_none
 have c1 : w.drew.cell? ⟨b, 1, none⟩ = some (.slice none 0 0) := by
  have : w.drew.heap[b]? = some (.cells #[p, .slice none 0 0] 84 (0, 0)) := hbk
  rw [Lib.cell_of_heap this]; rfl
 have hSD : (Builtin.unsafeSliceData_ #[82] 132 #[.slice none 0 0]).run Tryz.prog w.drew = .ok (.pointer none) w.drew := rfl
 go_enter Tryz.func50, Tryz.ntmps50
 go_wp2
 go_region
 all_goals (go_wp2; go_ret; exact ⟨rfl, rfl⟩)
set_option maxHeartbeats 2000000 in
set_option maxRecDepth 100000 in
theorem bs_noroom (g : Nat) (cur : Array Value) (fz : Nat × Nat) (hbk : w.heap[b]? = some (.cells #[p, .slice (some ⟨g, 0, none⟩) 0 0] 84 (0, 0))) (hg : w.heap[g]? = some (.cells cur 5 fz)) :
  Calls Tryz.prog 50 #[.pointer (some ⟨b, 0, none⟩)] w fun e w' => e = .returned (.string ⟨#[]⟩) ∧ ∃ d o, w' = World.alloc { w with drawn := d } o := by
 have hUS := us_none
 have hlt : b < w.heap.size := (Array.getElem?_eq_some_iff.1 hbk).1
 have c1 : w.drew.cell? ⟨b, 1, none⟩ = some (.slice (some ⟨g, 0, none⟩) 0 0) := by
  have : w.drew.heap[b]? = some (.cells #[p, .slice (some ⟨g, 0, none⟩) 0 0] 84 (0, 0)) := hbk
  rw [Lib.cell_of_heap this]; rfl
 have hSD : (Builtin.unsafeSliceData_ #[82] 132 #[.slice (some ⟨g, 0, none⟩) 0 0]).run Tryz.prog w.drew = .ok (.pointer (some ⟨w.drew.heap.size, 0, none⟩)) (w.drew.alloc (.view ⟨g, 0, none⟩ 5)) :=
  Lib.run_unsafeSliceData_zero w.drew _ _ 5 undBP ⟨g, 0, none⟩ 0 (5, cur.size) (by have hg' : w.drew.heap[g]? = some (.cells cur 5 fz) := hg; simp [World.shape?, hg'])
 have c2 : (w.drew.alloc (.view ⟨g, 0, none⟩ 5)).cell? ⟨b, 1, none⟩ = some (.slice (some ⟨g, 0, none⟩) 0 0) := by
  have : (w.drew.alloc (.view ⟨g, 0, none⟩ 5)).heap[b]? = _ := (Lib.alloc_old w.drew _ b hlt).trans hbk
  rw [Lib.cell_of_heap this]; rfl
 have c3 : (w.alloc (.view ⟨g, 0, none⟩ 5)).drew.cell? ⟨b, 1, none⟩ = some (.slice (some ⟨g, 0, none⟩) 0 0) := c2
 have c0 : w.cell? ⟨b, 1, none⟩ = some (.slice (some ⟨g, 0, none⟩) 0 0) := c1
 go_enter Tryz.func50, Tryz.ntmps50
 go_wp2
 go_region
 all_goals (go_wp2; go_ret; exact ⟨rfl, w.drawn + 1, .view ⟨g, 0, none⟩ 5, rfl⟩)
set_option maxHeartbeats 2000000 in
set_option maxRecDepth 100000 in
theorem bs_room (g cap : Nat) (hc0 : cap ≠ 0) (hbk : w.heap[b]? = some (.cells #[p, .slice (some ⟨g, 0, none⟩) 0 cap] 84 (0, 0))) :
  Calls Tryz.prog 50 #[.pointer (some ⟨b, 0, none⟩)] w fun e w' => e = .returned (.string ⟨#[]⟩) ∧ w' = w.drew := by
 have hUS := us_none
 have c1 : w.drew.cell? ⟨b, 1, none⟩ = some (.slice (some ⟨g, 0, none⟩) 0 cap) := by
  have : w.drew.heap[b]? = some (.cells #[p, .slice (some ⟨g, 0, none⟩) 0 cap] 84 (0, 0)) := hbk
  rw [Lib.cell_of_heap this]; rfl
 have hSD : (Builtin.unsafeSliceData_ #[82] 132 #[.slice (some ⟨g, 0, none⟩) 0 cap]).run Tryz.prog w.drew = .ok (.pointer (some ⟨g, 0, none⟩)) w.drew :=
  Lib.run_unsafeSliceData_row _ _ _ _ _ _ hc0
 clear hc0
 go_enter Tryz.func50, Tryz.ntmps50
 go_wp2
 go_region
 all_goals (go_wp2; go_ret; exact ⟨rfl, rfl⟩)
end
theorem bsOk : BsOk Tryz.prog 50 84 := by
 intro w b p A c xs hb hcm hpre
 refine ⟨by
  unfold callFunc
  simp only [program, Sem.run_bind, Sem.run, Result.andThen_ok, show Tryz.prog.funcs[50]? = some Tryz.f50 from by kernel_rfl]
  rfl, ?_⟩
 have same : ∀ (A : Option Addr) (w' : World), w' = w.drew → SameBut w w' A := fun A w' e => by
  subst e
  exact ⟨rfl, rfl, rfl, Nat.le_refl _, fun _ _ _ => rfl, fun ad _ cs e fz h => ⟨fz, h⟩⟩
 rcases hpre with ⟨rfl, rfl, rfl⟩ | ⟨g, cur, fz, rfl, h1, h2, h3, h4, h5⟩
 ·exact (bs_nil b p w hb).mono fun e w' ⟨he, hw⟩ => ⟨he, same _ _ hw⟩
 ·by_cases hx : xs = []
  ·subst hx
   by_cases hc : c = 0
   ·subst hc
    refine (bs_noroom b p w g cur fz hb h1).mono fun e w' ⟨he, d, o, hw⟩ => ⟨he, ?_⟩
    subst hw
    have old : ∀ b', b' < w.heap.size → (World.alloc { w with drawn := d } o).heap[b']? = w.heap[b']? := fun b' hb' => Below.heap_alloc { w with drawn := d } o b' hb'
    exact ⟨rfl, rfl, rfl, by simp [World.alloc], fun b' hb' _ => old b' hb', fun ad _ cs e fz h => ⟨fz, by rw [old _ (Array.getElem?_eq_some_iff.1 h).1]; exact h⟩⟩
   ·exact (bs_room b p w g c hc hb).mono fun e w' ⟨he, hw⟩ => ⟨he, same _ _ hw⟩
  ·refine (bs_some b p w xs hx g c cur fz hb h1 h3 hcm h4 h5).mono fun e w' ⟨he, hw⟩ => ⟨he, ?_⟩
   subst hw
   have hne : xs.length ≠ 0 := by simpa using hx
   unfold World.freeze
   rw [if_neg hne]
   refine ⟨rfl, rfl, rfl, by simp, fun b' _ hb' => ?_, fun ad had cs e fz' h => ?_⟩
   ·have hgb : g ≠ b' := fun e => hb' _ rfl e.symm
    show (w.heap.modify g _)[b']? = w.heap[b']?
    rw [Array.getElem?_modify, if_neg hgb]
   ·injection had with had
    subst had
    have h : w.heap[g]? = some (.cells cs e fz') := h
    obtain ⟨lo, hi⟩ := fz'
    refine ⟨if lo == hi then (0, 0 + xs.length) else (min lo 0, max hi (0 + xs.length)), ?_⟩
    show (w.heap.modify g _)[g]? = _
    rw [Array.getElem?_modify, if_pos rfl, h]
    rfl
end Go.Mo
end

section
/-
  unicode/utf8.ValidString: the library's contract. The numbers are printed by a program.
-/
set_option linter.unusedVariables false
namespace Go.Mo
open Go Go.W Go.Proofs Go.Shelf Go.RowKit
set_option maxRecDepth 100000
def rhoV : Ren := ⟨fun n => match n with | 196 => 143 | 259 => 182 | n => n, fun n => match n with | 46 => 167 | 53 => 181 | 119 => 199 | 138 => 201 | 139 => 202 | n => n, fun n => match n with | 3 => 1 | 4 => 2 | n => n⟩
theorem laysV : Lays.n196 Tryz.prog rhoV := { mixed := by kernel_rfl, f196 := by kernel_rfl, f259 := by kernel_rfl, t0 := by kernel_rfl, a0 := fun _ => by kernel_rfl, z0 := fun _ => by kernel_rfl, v0 := fun _ => by kernel_rfl, t3 := by kernel_rfl, a3 := fun _ => by kernel_rfl, z3 := fun _ => by kernel_rfl, v3 := fun _ => by kernel_rfl, t4 := by kernel_rfl, a4 := fun _ => by kernel_rfl, z4 := fun _ => by kernel_rfl, v4 := fun _ => by kernel_rfl, t5 := by kernel_rfl, a5 := fun _ => by kernel_rfl, z5 := fun _ => by kernel_rfl, v5 := fun _ => by kernel_rfl, t9 := by kernel_rfl, a9 := fun _ => by kernel_rfl, z9 := fun _ => by kernel_rfl, v9 := fun _ => by kernel_rfl, t12 := by kernel_rfl, a12 := fun _ => by kernel_rfl, z12 := fun _ => by kernel_rfl, v12 := fun _ => by kernel_rfl, t46 := by kernel_rfl, a46 := fun _ => by kernel_rfl, z46 := fun _ => by kernel_rfl, v46 := fun _ => by kernel_rfl, t53 := by kernel_rfl, a53 := fun _ => by kernel_rfl, z53 := fun _ => by kernel_rfl, v53 := fun _ => by kernel_rfl, t119 := by kernel_rfl, a119 := fun _ => by kernel_rfl, z119 := fun _ => by kernel_rfl, t138 := by kernel_rfl, a138 := fun _ => by kernel_rfl, z138 := fun _ => by kernel_rfl, v138 := fun _ => by kernel_rfl, t139 := by kernel_rfl, a139 := fun _ => by kernel_rfl, z139 := fun _ => by kernel_rfl, v139 := fun _ => by kernel_rfl, g3 := by kernel_rfl, g4 := by kernel_rfl }
theorem first_tab : ((List.range 256).all fun c => Nat.beq ((gl1.getD c 0).toNat) (Lib.firstT c) && Nat.beq gl1.length 256) = true := by kernel_rfl
theorem acc_tab : ((List.range 16).all fun c => Nat.beq ((gl2.getD c (0, 0)).1.toNat) (Lib.accLo c) && Nat.beq ((gl2.getD c (0, 0)).2.toNat) (Lib.accHi c) && Nat.beq gl2.length 16) = true := by kernel_rfl
theorem rep_pairs {K : Kn} : ∀ {xs : List (UInt8 × UInt8)} {vs : List Value}, RepL (RepC K (.st (.pair .u8 .u8))) xs vs → ∀ i x, xs[i]? = some x → vs[2 * i]? = some (.int .u8 (n8 x.1)) ∧ vs[2 * i + 1]? = some (.int .u8 (n8 x.2))
 | [], vs, h, i, x, hx => by simp at hx
 | y :: xs, vs, ⟨c1, c2, e, h1, h2⟩, i, x, hx => by
  obtain ⟨d1, d2, e1, e2, e3⟩ := h1
  have e2 : d1 = [.int .u8 (n8 y.1)] := e2
  have e3 : d2 = [.int .u8 (n8 y.2)] := e3
  subst e2
  subst e3
  subst e1
  subst e
  cases i with
  | zero => simp at hx; subst hx; exact ⟨rfl, rfl⟩
  | succ i =>
   have := rep_pairs h2 i x (by simpa using hx)
   rw [show 2 * (i + 1) = 2 * i + 1 + 1 by omega]
   simpa using this
theorem tabsV {K : Kn} {w : World} (hg : GlobOk E K) (hk : KOk K w) : Lib.Utf8Tabs 1 2 w := by
 have cell : ∀ {b o : Nat} {v : Value}, K b o = some v → v.oneCell' = true → w.cell? ⟨b, o, none⟩ = some v := fun {b o v} h hv => by
  obtain ⟨cs, e, fz, h1, h2⟩ := hk b o v h
  rw [cell_row h1]
  exact h2.1 hv
 constructor
 ·obtain ⟨cs, ⟨_, r2⟩, r3, _⟩ := hg.1 1 _ _ (show lkG E.gl 1 = some ⟨.arr 256 .u8, gl1⟩ from by kernel_rfl)
  have hcs := repL_u8_cells r2
  intro c hc
  have ht := List.all_eq_true.1 first_tab c (List.mem_range.2 hc)
  simp only [Bool.and_eq_true] at ht
  have ht1 := Nat.eq_of_beq_eq_true ht.1
  have ht2 := Nat.eq_of_beq_eq_true ht.2
  have hlt : c < gl1.length := by rw [ht2]; exact hc
  refine cell (r3 c _ ?_) rfl
  rw [hcs, List.getElem?_map, List.getElem?_eq_getElem hlt]
  have : gl1.getD c 0 = gl1[c] := by simp [hlt]
  rw [this] at ht1
  simp [ht1]
 ·obtain ⟨cs, ⟨_, r2⟩, r3, _⟩ := hg.1 2 _ _ (show lkG E.gl 2 = some ⟨.arr 16 (.st (.pair .u8 .u8)), gl2⟩ from by kernel_rfl)
  intro c hc
  have ht := List.all_eq_true.1 acc_tab c (List.mem_range.2 hc)
  simp only [Bool.and_eq_true] at ht
  have ht1 := Nat.eq_of_beq_eq_true ht.1.1
  have ht2 := Nat.eq_of_beq_eq_true ht.1.2
  have ht3 := Nat.eq_of_beq_eq_true ht.2
  have hlt : c < gl2.length := by rw [ht3]; exact hc
  obtain ⟨q1, q2⟩ := rep_pairs r2 c _ (List.getElem?_eq_getElem hlt)
  have : gl2.getD c (0, 0) = gl2[c] := by simp [hlt]
  rw [this] at ht1 ht2
  refine ⟨cell (r3 _ _ (by rw [q1]; unfold n8; rw [ht1])) rfl, cell (r3 _ _ (by rw [q2]; unfold n8; rw [ht2])) rfl⟩
theorem khV (N : Nat) : ConOk E ⟨143, [.k (.v .str [])], [.v .bool []], hand_utf8_ValidString N⟩ := by
 intro x r h w K H γ args hEnt
 obtain ⟨hgd, h⟩ := grd_some (show grd (catOk (len x)) (some (Lib.validD x)) = some r from h)
 injection h with h
 subst h
 have hgd : (x.length : Int) ≤ 9223372036854775807 := of_decide_eq_true hgd
 right
 have hs : args.size = 1 := hEnt.size
 have s0 := (hEnt.slots 0 0 (.val (.one (.v .str x))) rfl).2
 have s0 : args.getD 0 undef = .string (bst x) := by simpa [RepSV, RepV, RepCell, RepC] using s0
 have ha : args = #[.string (bst x)] := by
  apply Array.ext
  ·simpa using hs
  ·intro i h1 h3
   simp at h3
   subst h3
   have : args.getD 0 undef = args[0] := by simp [Array.getD, hs]
   rw [← this, s0]
   rfl
 subst ha
 have hsz : (bst x).size = x.length := bst_size x
 refine ⟨by
  unfold callFunc
  simp only [program, Sem.run_bind, Sem.run, Result.andThen_ok, show E.P.funcs[143]? = some Tryz.f143 from by kernel_rfl]
  rfl, ?_⟩
 have hT := tabsV hEnt.glob hEnt.hp.kok
 refine (Any.utf8_ValidString laysV (bst x) w (by rw [hsz]; omega) hT).mono fun e w' he => ?_
 obtain ⟨rfl, hb⟩ := he
 intro tk _
 refine ⟨γ, obs (W.start [.k (.v .str [])] x), K, [], [], ?_, ⟨rfl, rfl⟩, fun j => by simp, fun i o ho => ?_, fun γ2 _ => rfl⟩
 ·have hn : ∀ j, obs (W.start [.k (.v .str [])] x) j = none := fun j => rfl
  refine ⟨hb.os, hb.tape, hb.output, hb.size, fun b hlt _ => ⟨hb.block b hlt, fun _ => rfl⟩, Kn.le.refl K, fun b o v hv => ?_, fun j o g hj => (by rw [hn] at hj; cases hj), fun j o g hj => (by rw [hn] at hj; cases hj), fun i j p q g g' hi => (by rw [hn] at hi; cases hi)⟩
  obtain ⟨cs, ee, fz, h1, h2⟩ := hEnt.hp.kok b o v hv
  exact ⟨cs, ee, fz, by rw [hb.block b (Array.getElem?_eq_some_iff.1 h1).1]; exact h1, h2⟩
 ·have ho : ([] : List Ob)[i]? = some o := ho
  simp at ho
end Go.Mo
end

section
/-
  Functions of the library, by its own contracts. The numbers are printed by a program.
-/
set_option linter.all false
namespace Go.Mo
open Go Go.W Go.Proofs Go.Shelf Go.RowKit
set_option maxRecDepth 100000
def rhoC : Ren := ⟨fun n => match n with | 143 => 38 | 144 => 172 | 217 => 134 | 219 => 84 | 224 => 136 | 225 => 135 | 266 => 178 | 267 => 137 | 314 => 179 | n => n, fun n => match n with | 46 => 167 | 51 => 195 | 146 => 196 | 22 => 80 | 23 => 99 | 27 => 66 | 28 => 159 | 31 => 64 | 37 => 82 | 39 => 169 | 40 => 204 | 41 => 176 | 47 => 226 | 52 => 227 | 53 => 181 | 54 => 214 | 55 => 165 | 61 => 65 | 64 => 170 | 65 => 67 | 69 => 52 | 70 => 81 | 71 => 83 | 72 => 84 | 73 => 126 | 74 => 85 | 75 => 86 | 76 => 87 | 77 => 88 | 80 => 89 | 81 => 134 | 83 => 212 | 84 => 76 | 103 => 168 | 104 => 78 | 105 => 127 | 106 => 128 | 111 => 171 | 113 => 125 | 114 => 166 | 115 => 172 | 116 => 173 | 117 => 174 | 118 => 175 | 119 => 199 | 124 => 205 | 127 => 132 | 131 => 122 | 136 => 203 | 137 => 200 | 138 => 201 | 139 => 202 | 150 => 164 | 151 => 197 | 164 => 177 | 165 => 178 | 166 => 198 | 171 => 213 | 172 => 215 | 173 => 216 | 174 => 217 | 211 => 223 | 212 => 224 | 213 => 225 | 232 => 228 | 233 => 229 | 238 => 230 | 239 => 231 | 240 => 232 | 241 => 233 | 242 => 234 | 243 => 235 | 244 => 236 | 245 => 237 | 246 => 238 | 247 => 239 | 248 => 240 | 249 => 241 | n => n, fun n => match n with | 1 => 0 | 3 => 1 | 4 => 2 | 17 => 3 | 18 => 4 | 19 => 5 | n => n⟩
theorem laysC : Lays.n144 Tryz.prog rhoC := { mixed := by kernel_rfl, f143 := by kernel_rfl, f144 := by kernel_rfl, f217 := by kernel_rfl, f219 := by kernel_rfl, f224 := by kernel_rfl, f225 := by kernel_rfl, f266 := by kernel_rfl, f267 := by kernel_rfl, f314 := by kernel_rfl, t3 := by kernel_rfl, a3 := fun _ => by kernel_rfl, z3 := fun _ => by kernel_rfl, v3 := fun _ => by kernel_rfl, t4 := by kernel_rfl, a4 := fun _ => by kernel_rfl, z4 := fun _ => by kernel_rfl, v4 := fun _ => by kernel_rfl, t5 := by kernel_rfl, a5 := fun _ => by kernel_rfl, z5 := fun _ => by kernel_rfl, v5 := fun _ => by kernel_rfl, t9 := by kernel_rfl, a9 := fun _ => by kernel_rfl, z9 := fun _ => by kernel_rfl, v9 := fun _ => by kernel_rfl, t46 := by kernel_rfl, a46 := fun _ => by kernel_rfl, z46 := fun _ => by kernel_rfl, v46 := fun _ => by kernel_rfl, t51 := by kernel_rfl, a51 := fun _ => by kernel_rfl, z51 := fun _ => by kernel_rfl, v51 := fun _ => by kernel_rfl, t146 := by kernel_rfl, a146 := fun _ => by kernel_rfl, z146 := fun _ => by kernel_rfl, v146 := fun _ => by kernel_rfl, g1 := by kernel_rfl }
theorem khContains (N : Nat) : ConOk E ⟨172, [.k (.v .str []), .k (.v .str [])], [.v .bool []], hand_strings_Contains N⟩ :=
 con_ssb (fn := Tryz.f172) _ (show E.P.funcs[172]? = some Tryz.f172 from by kernel_rfl) (by kernel_rfl) (by kernel_rfl) fun x r h w K hG hk => by
  obtain ⟨hb, h⟩ := grd_some h
  injection h with h
  subst h
  have hb : x.1.length < 4294967281 := of_decide_eq_true hb
  obtain ⟨m, hm⟩ := hG.2 0 (by kernel_rfl)
  obtain ⟨cs, e, fz, h1, h2⟩ := hk _ _ _ hm
  exact Any.strings_Contains laysC (bst x.1) (bst x.2) m w (by rw [bst_size]; exact hb) (by
   show w.cell? ⟨0, 0, none⟩ = _
   rw [cell_row h1]
   exact h2.1 rfl)
def rhoI : Ren := ⟨fun n => match n with | 143 => 38 | 217 => 134 | 219 => 84 | 224 => 136 | 225 => 135 | 266 => 178 | 267 => 137 | 314 => 179 | n => n, fun n => match n with | 46 => 167 | 51 => 195 | 146 => 196 | 22 => 80 | 23 => 99 | 27 => 66 | 28 => 159 | 31 => 64 | 37 => 82 | 39 => 169 | 40 => 204 | 41 => 176 | 47 => 226 | 52 => 227 | 53 => 181 | 54 => 214 | 55 => 165 | 61 => 65 | 64 => 170 | 65 => 67 | 69 => 52 | 70 => 81 | 71 => 83 | 72 => 84 | 73 => 126 | 74 => 85 | 75 => 86 | 76 => 87 | 77 => 88 | 80 => 89 | 81 => 134 | 83 => 212 | 84 => 76 | 103 => 168 | 104 => 78 | 105 => 127 | 106 => 128 | 111 => 171 | 113 => 125 | 114 => 166 | 115 => 172 | 116 => 173 | 117 => 174 | 118 => 175 | 119 => 199 | 124 => 205 | 127 => 132 | 131 => 122 | 136 => 203 | 137 => 200 | 138 => 201 | 139 => 202 | 150 => 164 | 151 => 197 | 164 => 177 | 165 => 178 | 166 => 198 | 171 => 213 | 172 => 215 | 173 => 216 | 174 => 217 | 211 => 223 | 212 => 224 | 213 => 225 | 232 => 228 | 233 => 229 | 238 => 230 | 239 => 231 | 240 => 232 | 241 => 233 | 242 => 234 | 243 => 235 | 244 => 236 | 245 => 237 | 246 => 238 | 247 => 239 | 248 => 240 | 249 => 241 | n => n, fun n => match n with | 1 => 0 | 3 => 1 | 4 => 2 | 17 => 3 | 18 => 4 | 19 => 5 | n => n⟩
theorem laysI : Lays.n143 Tryz.prog rhoI := { mixed := by kernel_rfl, f143 := by kernel_rfl, f217 := by kernel_rfl, f219 := by kernel_rfl, f224 := by kernel_rfl, f225 := by kernel_rfl, f266 := by kernel_rfl, f267 := by kernel_rfl, f314 := by kernel_rfl, t3 := by kernel_rfl, a3 := fun _ => by kernel_rfl, z3 := fun _ => by kernel_rfl, v3 := fun _ => by kernel_rfl, t4 := by kernel_rfl, a4 := fun _ => by kernel_rfl, z4 := fun _ => by kernel_rfl, v4 := fun _ => by kernel_rfl, t5 := by kernel_rfl, a5 := fun _ => by kernel_rfl, z5 := fun _ => by kernel_rfl, v5 := fun _ => by kernel_rfl, t9 := by kernel_rfl, a9 := fun _ => by kernel_rfl, z9 := fun _ => by kernel_rfl, v9 := fun _ => by kernel_rfl, t46 := by kernel_rfl, a46 := fun _ => by kernel_rfl, z46 := fun _ => by kernel_rfl, v46 := fun _ => by kernel_rfl, t51 := by kernel_rfl, a51 := fun _ => by kernel_rfl, z51 := fun _ => by kernel_rfl, v51 := fun _ => by kernel_rfl, t146 := by kernel_rfl, a146 := fun _ => by kernel_rfl, z146 := fun _ => by kernel_rfl, v146 := fun _ => by kernel_rfl, g1 := by kernel_rfl }
theorem khIndex (N : Nat) : ConOk E ⟨38, [.k (.v .str []), .k (.v .str [])], [.v (.int .i64) []], hand_strings_Index N⟩ :=
 con_ssi (fn := Tryz.f38) _ (show E.P.funcs[38]? = some Tryz.f38 from by kernel_rfl) (by kernel_rfl) (by kernel_rfl) fun x r h w K hG hk => by
  obtain ⟨hb, h⟩ := grd_some h
  injection h with h
  subst h
  have hb : x.1.length < 4294967281 := of_decide_eq_true hb
  obtain ⟨m, hm⟩ := hG.2 0 (by kernel_rfl)
  obtain ⟨cs, e, fz, h1, h2⟩ := hk _ _ _ hm
  refine (Any.strings_Index laysI (bst x.1) (bst x.2) m w (by rw [bst_size]; exact hb) (by
   show w.cell? ⟨0, 0, none⟩ = _
   rw [cell_row h1]
   exact h2.1 rfl)).mono fun e w' he => ?_
  obtain ⟨q1, q2⟩ := he
  subst q2
  exact ⟨q1, rfl, rfl, rfl, Nat.le_refl _, fun b _ => rfl⟩
def rhoR : Ren := ⟨fun n => match n with | 138 => 85 | 143 => 38 | 154 => 39 | 165 => 86 | 166 => 49 | 169 => 50 | 195 => 138 | 197 => 87 | 217 => 134 | 218 => 139 | 219 => 84 | 224 => 136 | 225 => 135 | 240 => 93 | 241 => 140 | 260 => 141 | 266 => 178 | 267 => 137 | 276 => 149 | 277 => 180 | 314 => 179 | n => n, fun n => match n with | 37 => 82 | 46 => 167 | 51 => 195 | 70 => 81 | 72 => 84 | 75 => 86 | 76 => 87 | 80 => 89 | 105 => 127 | 119 => 199 | 127 => 132 | 138 => 201 | 139 => 202 | 146 => 196 | 164 => 177 | 22 => 80 | 23 => 99 | 27 => 66 | 28 => 159 | 31 => 64 | 39 => 169 | 40 => 204 | 41 => 176 | 47 => 226 | 52 => 227 | 53 => 181 | 54 => 214 | 55 => 165 | 61 => 65 | 64 => 170 | 65 => 67 | 69 => 52 | 71 => 83 | 73 => 126 | 74 => 85 | 77 => 88 | 81 => 134 | 83 => 212 | 84 => 76 | 103 => 168 | 104 => 78 | 106 => 128 | 111 => 171 | 113 => 125 | 114 => 166 | 115 => 172 | 116 => 173 | 117 => 174 | 118 => 175 | 124 => 205 | 131 => 122 | 136 => 203 | 137 => 200 | 150 => 164 | 151 => 197 | 165 => 178 | 166 => 198 | 171 => 213 | 172 => 215 | 173 => 216 | 174 => 217 | 211 => 223 | 212 => 224 | 213 => 225 | 232 => 228 | 233 => 229 | 238 => 230 | 239 => 231 | 240 => 232 | 241 => 233 | 242 => 234 | 243 => 235 | 244 => 236 | 245 => 237 | 246 => 238 | 247 => 239 | 248 => 240 | 249 => 241 | n => n, fun n => match n with | 1 => 0 | 3 => 1 | 4 => 2 | 17 => 3 | 18 => 4 | 19 => 5 | n => n⟩
theorem laysR : Lays.n154 Tryz.prog rhoR := { mixed := by kernel_rfl, f138 := by kernel_rfl, f143 := by kernel_rfl, f154 := by kernel_rfl, f165 := by kernel_rfl, f166 := by kernel_rfl, f169 := by kernel_rfl, f195 := by kernel_rfl, f197 := by kernel_rfl, f217 := by kernel_rfl, f218 := by kernel_rfl, f219 := by kernel_rfl, f224 := by kernel_rfl, f225 := by kernel_rfl, f240 := by kernel_rfl, f241 := by kernel_rfl, f260 := by kernel_rfl, f266 := by kernel_rfl, f267 := by kernel_rfl, f276 := by kernel_rfl, f277 := by kernel_rfl, f314 := by kernel_rfl, t0 := by kernel_rfl, a0 := fun _ => by kernel_rfl, z0 := fun _ => by kernel_rfl, v0 := fun _ => by kernel_rfl, t3 := by kernel_rfl, a3 := fun _ => by kernel_rfl, z3 := fun _ => by kernel_rfl, v3 := fun _ => by kernel_rfl, t4 := by kernel_rfl, a4 := fun _ => by kernel_rfl, z4 := fun _ => by kernel_rfl, v4 := fun _ => by kernel_rfl, t5 := by kernel_rfl, a5 := fun _ => by kernel_rfl, z5 := fun _ => by kernel_rfl, v5 := fun _ => by kernel_rfl, t9 := by kernel_rfl, a9 := fun _ => by kernel_rfl, z9 := fun _ => by kernel_rfl, v9 := fun _ => by kernel_rfl, t20 := by kernel_rfl, a20 := fun _ => by kernel_rfl, z20 := fun _ => by kernel_rfl, v20 := fun _ => by kernel_rfl, t21 := by kernel_rfl, a21 := fun _ => by kernel_rfl, z21 := fun _ => by kernel_rfl, v21 := fun _ => by kernel_rfl, t37 := by kernel_rfl, a37 := fun _ => by kernel_rfl, z37 := fun _ => by kernel_rfl, v37 := fun _ => by kernel_rfl, t46 := by kernel_rfl, a46 := fun _ => by kernel_rfl, z46 := fun _ => by kernel_rfl, v46 := fun _ => by kernel_rfl, t51 := by kernel_rfl, a51 := fun _ => by kernel_rfl, z51 := fun _ => by kernel_rfl, v51 := fun _ => by kernel_rfl, t70 := by kernel_rfl, a70 := fun _ => by kernel_rfl, z70 := fun _ => by kernel_rfl, v70 := fun _ => by kernel_rfl, t72 := by kernel_rfl, a72 := fun _ => by kernel_rfl, z72 := fun _ => by kernel_rfl, v72 := fun _ => by kernel_rfl, t75 := by kernel_rfl, a75 := fun _ => by kernel_rfl, z75 := fun _ => by kernel_rfl, v75 := fun _ => by kernel_rfl, t76 := by kernel_rfl, a76 := fun _ => by kernel_rfl, z76 := fun _ => by kernel_rfl, v76 := fun _ => by kernel_rfl, t105 := by kernel_rfl, a105 := fun _ => by kernel_rfl, z105 := fun _ => by kernel_rfl, v105 := fun _ => by kernel_rfl, t119 := by kernel_rfl, a119 := fun _ => by kernel_rfl, z119 := fun _ => by kernel_rfl, t127 := by kernel_rfl, a127 := fun _ => by kernel_rfl, z127 := fun _ => by kernel_rfl, v127 := fun _ => by kernel_rfl, t138 := by kernel_rfl, a138 := fun _ => by kernel_rfl, z138 := fun _ => by kernel_rfl, v138 := fun _ => by kernel_rfl, t139 := by kernel_rfl, a139 := fun _ => by kernel_rfl, z139 := fun _ => by kernel_rfl, v139 := fun _ => by kernel_rfl, t146 := by kernel_rfl, a146 := fun _ => by kernel_rfl, z146 := fun _ => by kernel_rfl, v146 := fun _ => by kernel_rfl, t164 := by kernel_rfl, a164 := fun _ => by kernel_rfl, z164 := fun _ => by kernel_rfl, v164 := fun _ => by kernel_rfl, g1 := by kernel_rfl, g3 := by kernel_rfl, g4 := by kernel_rfl }
theorem extraR : Builder.Extra Tryz.prog rhoR where
 sizeBuilder := by kernel_rfl
 liesBuilder := by kernel_rfl
 t5 := laysR.t5
 a5 := laysR.a5
 z5 := laysR.z5
 v5 := laysR.v5
 infoByte := by kernel_rfl
 cellsByte := by kernel_rfl
 sizeByte := by kernel_rfl
 neB5 := by decide
theorem khReplace (N : Nat) : ConOk E ⟨39, [.k (.v .str []), .k (.v .str []), .k (.v .str []), .k (.v (.int .i64) [])], [.v .str []], hand_strings_Replace N⟩ :=
 con_sssi (fn := Tryz.f39) _ (show E.P.funcs[39]? = some Tryz.f39 from by kernel_rfl) (by kernel_rfl) (by kernel_rfl) fun x r h w K hG hk => by
  obtain ⟨hb, h⟩ := grd_some h
  obtain ⟨hc, h⟩ := grd_some h
  obtain ⟨hd, h⟩ := grd_some h
  injection h with h
  subst h
  have hb : x.1.length < 4294967281 := of_decide_eq_true hb
  have hc : 1 ≤ x.2.1.length := of_decide_eq_true hc
  have hd : x.1.length + Lib.count x.1 x.2.1 * x.2.2.1.length ≤ 140737488355328 := of_decide_eq_true hd
  obtain ⟨m, hm⟩ := hG.2 0 (by kernel_rfl)
  obtain ⟨cs, e, fz, h1, h2⟩ := hk _ _ _ hm
  refine (Any.strings_Replace laysR extraR (bst x.1) (bst x.2.1) (bst x.2.2.1) x.2.2.2 m w (by rw [bst_size]; exact hb) (by
   show w.cell? ⟨0, 0, none⟩ = _
   rw [cell_row h1]
   exact h2.1 rfl) (by rw [bst_size]; exact hc) (by rw [bst_size, bst_size]; exact hd)).mono fun e w' he => ?_
  obtain ⟨q1, q2⟩ := he
  exact ⟨q1, q2.os, q2.tape, q2.output, q2.size, q2.block⟩
def rhoF : Ren := ⟨fun n => match n with | 129 => 212 | 246 => 181 | 283 => 202 | 284 => 203 | 285 => 204 | 286 => 205 | 317 => 211 | 318 => 213 | 319 => 214 | 320 => 215 | 337 => 217 | 338 => 218 | n => n, fun n => match n with | 37 => 82 | 46 => 167 | 51 => 195 | 53 => 181 | 171 => 213 | 173 => 216 | 212 => 224 | 213 => 225 | 232 => 228 | 233 => 229 | 22 => 80 | 23 => 99 | 27 => 66 | 28 => 159 | 31 => 64 | 39 => 169 | 40 => 204 | 41 => 176 | 47 => 226 | 52 => 227 | 54 => 214 | 55 => 165 | 61 => 65 | 64 => 170 | 65 => 67 | 69 => 52 | 70 => 81 | 71 => 83 | 72 => 84 | 73 => 126 | 74 => 85 | 75 => 86 | 76 => 87 | 77 => 88 | 80 => 89 | 81 => 134 | 83 => 212 | 84 => 76 | 103 => 168 | 104 => 78 | 105 => 127 | 106 => 128 | 111 => 171 | 113 => 125 | 114 => 166 | 115 => 172 | 116 => 173 | 117 => 174 | 118 => 175 | 119 => 199 | 124 => 205 | 127 => 132 | 131 => 122 | 136 => 203 | 137 => 200 | 138 => 201 | 139 => 202 | 146 => 196 | 150 => 164 | 151 => 197 | 164 => 177 | 165 => 178 | 166 => 198 | 172 => 215 | 174 => 217 | 211 => 223 | 238 => 230 | 239 => 231 | 240 => 232 | 241 => 233 | 242 => 234 | 243 => 235 | 244 => 236 | 245 => 237 | 246 => 238 | 247 => 239 | 248 => 240 | 249 => 241 | n => n, fun n => match n with | 17 => 3 | 18 => 4 | 19 => 5 | 1 => 0 | 3 => 1 | 4 => 2 | n => n⟩
theorem laysF : LaysM.n246 Tryz.prog rhoF := { mixed := by kernel_rfl, f129 := by kernel_rfl, f246 := by kernel_rfl, f283 := by kernel_rfl, f284 := by kernel_rfl, f285 := by kernel_rfl, f286 := by kernel_rfl, f317 := by kernel_rfl, f318 := by kernel_rfl, f319 := by kernel_rfl, f320 := by kernel_rfl, f337 := by kernel_rfl, f338 := by kernel_rfl, t0 := by kernel_rfl, a0 := fun _ => by kernel_rfl, z0 := fun _ => by kernel_rfl, v0 := fun _ => by kernel_rfl, t2 := by kernel_rfl, a2 := fun _ => by kernel_rfl, z2 := fun _ => by kernel_rfl, v2 := fun _ => by kernel_rfl, t3 := by kernel_rfl, a3 := fun _ => by kernel_rfl, z3 := fun _ => by kernel_rfl, v3 := fun _ => by kernel_rfl, t4 := by kernel_rfl, a4 := fun _ => by kernel_rfl, z4 := fun _ => by kernel_rfl, v4 := fun _ => by kernel_rfl, t5 := by kernel_rfl, a5 := fun _ => by kernel_rfl, z5 := fun _ => by kernel_rfl, v5 := fun _ => by kernel_rfl, t9 := by kernel_rfl, a9 := fun _ => by kernel_rfl, z9 := fun _ => by kernel_rfl, v9 := fun _ => by kernel_rfl, t20 := by kernel_rfl, a20 := fun _ => by kernel_rfl, z20 := fun _ => by kernel_rfl, v20 := fun _ => by kernel_rfl, t37 := by kernel_rfl, a37 := fun _ => by kernel_rfl, z37 := fun _ => by kernel_rfl, v37 := fun _ => by kernel_rfl, t46 := by kernel_rfl, a46 := fun _ => by kernel_rfl, z46 := fun _ => by kernel_rfl, v46 := fun _ => by kernel_rfl, t51 := by kernel_rfl, a51 := fun _ => by kernel_rfl, z51 := fun _ => by kernel_rfl, v51 := fun _ => by kernel_rfl, t53 := by kernel_rfl, a53 := fun _ => by kernel_rfl, z53 := fun _ => by kernel_rfl, v53 := fun _ => by kernel_rfl, t171 := by kernel_rfl, a171 := fun _ => by kernel_rfl, z171 := fun _ => by kernel_rfl, v171 := fun _ => by kernel_rfl, t173 := by kernel_rfl, a173 := fun _ => by kernel_rfl, z173 := fun _ => by kernel_rfl, v173 := fun _ => by kernel_rfl, t212 := by kernel_rfl, a212 := fun _ => by kernel_rfl, z212 := fun _ => by kernel_rfl, v212 := fun _ => by kernel_rfl, t213 := by kernel_rfl, a213 := fun _ => by kernel_rfl, z213 := fun _ => by kernel_rfl, t232 := by kernel_rfl, a232 := fun _ => by kernel_rfl, z232 := fun _ => by kernel_rfl, v232 := fun _ => by kernel_rfl, t233 := by kernel_rfl, a233 := fun _ => by kernel_rfl, z233 := fun _ => by kernel_rfl, v233 := fun _ => by kernel_rfl, g17 := by kernel_rfl, g18 := by kernel_rfl, g19 := by kernel_rfl, i0 := by kernel_rfl, i2 := by kernel_rfl, i3 := by kernel_rfl, i4 := by kernel_rfl, i5 := by kernel_rfl, i9 := by kernel_rfl, i20 := by kernel_rfl, i37 := by kernel_rfl, i46 := by kernel_rfl, i51 := by kernel_rfl, i53 := by kernel_rfl, i171 := by kernel_rfl, i173 := by kernel_rfl, i212 := by kernel_rfl, i232 := by kernel_rfl, i233 := by kernel_rfl, m17 := by kernel_rfl, m18 := by kernel_rfl, m19 := by kernel_rfl }
theorem khFormatInt (N : Nat) : ConOk E ⟨181, [.k (.v (.int .i64) []), .k (.v (.int .i64) [])], [.v .str []], hand_istrconv_FormatInt N⟩ :=
 con_fmt (fn := Tryz.f181) _ (show E.P.funcs[181]? = some Tryz.f181 from by kernel_rfl) (by kernel_rfl) (by kernel_rfl) fun x r h w K hG hk => by
  obtain ⟨h1, h⟩ := grd_some (show grd (ieq x.2 10) _ = some r from h)
  obtain ⟨h2, h⟩ := grd_some h
  obtain ⟨h3, h⟩ := grd_some h
  injection h with h
  subst h
  have e1 : x.2 = 10 := by unfold ieq at h1; simpa using h1
  have h2 : -9223372036854775808 ≤ x.1 := of_decide_eq_true h2
  have h3 : x.1 ≤ 9223372036854775807 := of_decide_eq_true h3
  obtain ⟨cs, r2, r3, r4⟩ := hG.1 3 _ _ (show lkG E.gl 3 = some ⟨.arr 20 (.int .u64), gl3⟩ from by kernel_rfl)
  have htab : Lib.TabIs E.P w "internal/strconv.uint64pow10" .u64 Lib.pow10Tab := by
   have := tab_is (P := E.P) (name := "internal/strconv.uint64pow10") hk r2 r3 r4 (by kernel_rfl)
   rwa [show (gl3 : List Int) = Lib.pow10Tab by kernel_rfl] at this
  rw [e1]
  refine (Any.internal_strconv_FormatInt_10 laysF x.1 h2 h3 w htab).mono fun e w' he => ?_
  obtain ⟨q1, k, os, q2⟩ := he
  subst q2
  exact ⟨by rw [q1, itoa10_eq h2 h3]; rfl, rfl, rfl, rfl, Lib.size_grow w k os, fun b hb => Lib.heap_grow_old w k os b hb⟩
def rhoA : Ren := ⟨fun n => match n with | 119 => 185 | 137 => 184 | 152 => 145 | 153 => 92 | 217 => 134 | 224 => 136 | 225 => 135 | 226 => 146 | 227 => 147 | 228 => 148 | 266 => 178 | n => n, fun n => match n with | 46 => 167 | 116 => 173 | 117 => 174 | 124 => 205 | 22 => 80 | 23 => 99 | 27 => 66 | 28 => 159 | 31 => 64 | 37 => 82 | 39 => 169 | 40 => 204 | 41 => 176 | 47 => 226 | 51 => 195 | 52 => 227 | 53 => 181 | 54 => 214 | 55 => 165 | 61 => 65 | 64 => 170 | 65 => 67 | 69 => 52 | 70 => 81 | 71 => 83 | 72 => 84 | 73 => 126 | 74 => 85 | 75 => 86 | 76 => 87 | 77 => 88 | 80 => 89 | 81 => 134 | 83 => 212 | 84 => 76 | 103 => 168 | 104 => 78 | 105 => 127 | 106 => 128 | 111 => 171 | 113 => 125 | 114 => 166 | 115 => 172 | 118 => 175 | 119 => 199 | 127 => 132 | 131 => 122 | 136 => 203 | 137 => 200 | 138 => 201 | 139 => 202 | 146 => 196 | 150 => 164 | 151 => 197 | 164 => 177 | 165 => 178 | 166 => 198 | 171 => 213 | 172 => 215 | 173 => 216 | 174 => 217 | 211 => 223 | 212 => 224 | 213 => 225 | 232 => 228 | 233 => 229 | 238 => 230 | 239 => 231 | 240 => 232 | 241 => 233 | 242 => 234 | 243 => 235 | 244 => 236 | 245 => 237 | 246 => 238 | 247 => 239 | 248 => 240 | 249 => 241 | n => n, fun n => match n with | 1 => 0 | 3 => 1 | 4 => 2 | 17 => 3 | 18 => 4 | 19 => 5 | n => n⟩
theorem laysA : Lays.n153 Tryz.prog rhoA := { mixed := by kernel_rfl, f119 := by kernel_rfl, f137 := by kernel_rfl, f152 := by kernel_rfl, f153 := by kernel_rfl, f217 := by kernel_rfl, f224 := by kernel_rfl, f225 := by kernel_rfl, f226 := by kernel_rfl, f227 := by kernel_rfl, f228 := by kernel_rfl, f266 := by kernel_rfl, t0 := by kernel_rfl, a0 := fun _ => by kernel_rfl, z0 := fun _ => by kernel_rfl, v0 := fun _ => by kernel_rfl, t3 := by kernel_rfl, a3 := fun _ => by kernel_rfl, z3 := fun _ => by kernel_rfl, v3 := fun _ => by kernel_rfl, t4 := by kernel_rfl, a4 := fun _ => by kernel_rfl, z4 := fun _ => by kernel_rfl, v4 := fun _ => by kernel_rfl, t5 := by kernel_rfl, a5 := fun _ => by kernel_rfl, z5 := fun _ => by kernel_rfl, v5 := fun _ => by kernel_rfl, t9 := by kernel_rfl, a9 := fun _ => by kernel_rfl, z9 := fun _ => by kernel_rfl, v9 := fun _ => by kernel_rfl, t21 := by kernel_rfl, a21 := fun _ => by kernel_rfl, z21 := fun _ => by kernel_rfl, v21 := fun _ => by kernel_rfl, t46 := by kernel_rfl, a46 := fun _ => by kernel_rfl, z46 := fun _ => by kernel_rfl, v46 := fun _ => by kernel_rfl, t116 := by kernel_rfl, a116 := fun _ => by kernel_rfl, z116 := fun _ => by kernel_rfl, t117 := by kernel_rfl, a117 := fun _ => by kernel_rfl, z117 := fun _ => by kernel_rfl, v117 := fun _ => by kernel_rfl, t124 := by kernel_rfl, a124 := fun _ => by kernel_rfl, z124 := fun _ => by kernel_rfl, v124 := fun _ => by kernel_rfl }
theorem khl_IndexAny : ConOk E ⟨92, [.k (.v .str []), .k (.v .str [])], [.v (.int .i64) []], fun x : List UInt8 × List UInt8 => grd (longAny x) (some (Lib.indexAny x.1 x.2))⟩ :=
 con_ssi (fn := Tryz.f92) _ (show E.P.funcs[92]? = some Tryz.f92 from by kernel_rfl) (by kernel_rfl) (by kernel_rfl) fun x r h w K hG hk => by
  obtain ⟨h1, h⟩ := grd_some (show grd (longAny x) _ = some r from h)
  injection h with h
  subst h
  unfold longAny at h1
  simp only [Bool.and_eq_true] at h1
  obtain ⟨⟨⟨⟨h1, h2⟩, h3⟩, h4⟩, h5⟩ := h1
  have h1 := Nat.le_of_ble_eq_true h1
  have h2 := Nat.le_of_ble_eq_true h2
  have h3 := Nat.le_of_ble_eq_true h3
  have h4 := Nat.le_of_ble_eq_true h4
  have hz := zero_of_info (P := E.P) (t := rhoA.t 116) (v := .agg (Array.replicate 256 (.bool false))) (n := 256) (by kernel_rfl)
  refine (Any.strings_IndexAny_long laysA hz.1 hz.2 (bst x.1) (bst x.2) w (by rw [bst_size]; omega) (by rw [bst_size]; omega) (by rw [bst_size]; omega) (by rw [bst_size]; omega) (asciiL_at h5)).mono fun e w' he => ?_
  obtain ⟨q1, q2⟩ := he
  subst q2
  generalize Obj.cells (Lib.setCells (bst x.2).data.toList) (rhoA.t 116) = ob
  exact ⟨q1, rfl, rfl, rfl, by rw [World.alloc, World.alloc]; simp only [Array.size_push]; omega, fun b hb => by rw [World.alloc, World.alloc]; simp only [Array.getElem?_push, Array.size_push]; rw [if_neg (by omega), if_neg (by omega)]⟩
end Go.Mo
end

section
/-
  The environment is sound; contracts by hand.
-/
namespace Go.Mo
open Go Go.W Go.Proofs
set_option maxRecDepth 100000
theorem nzOk : NzOk E.P 180 := nz_ok (show E.P.funcs[180]? = some Tryz.f180 from by kernel_rfl) (by kernel_rfl) (by kernel_rfl) (by kernel_rfl) (show Extern.find Tryz.f180 = some (Extern.BytealgMakeNoZero.makeNoZero #[3] #[82]) from by kernel_rfl) (by kernel_rfl)
theorem envOk : EnvOk E := ⟨chk, mixed, fun z h => (by injection h with h; subst h; exact nzOk), fun z t h => (by injection h with h; injection h with h1 h2; subst h1; subst h2; exact bsOk)⟩
theorem kh_utf8_ValidString (N : Nat) : ConOk E ⟨143, ps_utf8_ValidString, rs_utf8_ValidString, utf8_ValidString N⟩ := khV N
theorem kh_strings_Builder_copyCheck (N : Nat) : ConOk E ⟨93, ps_strings_Builder_copyCheck, rs_strings_Builder_copyCheck, strings_Builder_copyCheck N⟩ := W.kh_copyCheck (show CcOk E.P 93 84 from ccOk) N
theorem kh_strings_Contains (N : Nat) : ConOk E ⟨172, ps_strings_Contains, rs_strings_Contains, strings_Contains N⟩ := khContains N
theorem kh_istrconv_FormatInt (N : Nat) : ConOk E ⟨181, ps_istrconv_FormatInt, rs_istrconv_FormatInt, istrconv_FormatInt N⟩ := khFormatInt N
theorem kh_bytealg_IndexByteString (N : Nat) : ConOk E ⟨178, ps_bytealg_IndexByteString, rs_bytealg_IndexByteString, bytealg_IndexByteString N⟩ := W.kh_IndexByteString (show E.P.funcs[178]? = some Tryz.f178 from by kernel_rfl) (by kernel_rfl) (by kernel_rfl) (by kernel_rfl) (show Extern.find Tryz.f178 = some Extern.BytealgIndexByte.indexByte from by kernel_rfl) N
theorem kh_bytealg_CountString (N : Nat) : ConOk E ⟨139, ps_bytealg_CountString, rs_bytealg_CountString, bytealg_CountString N⟩ := W.kh_CountString (show E.P.funcs[139]? = some Tryz.f139 from by kernel_rfl) (by kernel_rfl) (by kernel_rfl) (by kernel_rfl) (show Extern.find Tryz.f139 = some Extern.BytealgCount.count from by kernel_rfl) N
theorem kh_strings_Index (N : Nat) : ConOk E ⟨38, ps_strings_Index, rs_strings_Index, strings_Index N⟩ := khIndex N
theorem kh_strings_Replace (N : Nat) : ConOk E ⟨39, ps_strings_Replace, rs_strings_Replace, strings_Replace N⟩ := khReplace N
end Go.Mo
end

section
/-
  The functions do what their models say. Printed by a program.
-/
namespace Go.Mo
open Go Go.W Go.Proofs
noncomputable section
set_option maxRecDepth 100000
def a_q11 : Ann := (.sq .lf (.sq .lf (.jn ⟨[], [], [], []⟩ (.sq .lf (.lp ⟨[1, 9], [], [.s 5, .o 5], [.v (.int .i64) [], .i]⟩ .lf)) .lf)))
theorem x_q11 (N : Nat) : execF E [] N Tryz.f183 a_q11 ps_q11 rs_q11 = q11 N := by kernel_rfl
def a_q12 : Ann := .lf
theorem x_q12 (N : Nat) : execF E [⟨183, ps_q11, rs_q11, q11 N⟩] N Tryz.f144 a_q12 ps_q12 rs_q12 = q12 N := by kernel_rfl
def a_q13 : Ann := (.sq .lf (.sq .lf (.jn ⟨[], [], [], []⟩ (.sq .lf (.lp ⟨[9], [], [.o 7], [.i]⟩ .lf)) .lf)))
theorem x_q13 (N : Nat) : execF E [⟨143, ps_utf8_ValidString, rs_utf8_ValidString, utf8_ValidString N⟩, ⟨144, ps_q12, rs_q12, q12 N⟩] N Tryz.f89 a_q13 ps_q13 rs_q13 = q13 N := by kernel_rfl
def a_q14 : Ann := (.sq .lf (.sq .lf (.jn ⟨[], [], [], []⟩ (.sq .lf (.lp ⟨[0, 24], [], [.s 25], [.v (.int .i64) []]⟩ (.sq .lf (.sq .lf (.jn ⟨[0, 24, 25], [], [], []⟩ .lf .lf))))) .lf)))
theorem x_q14 (N : Nat) : execF E [] N Tryz.f119 a_q14 ps_q14 rs_q14 = q14 N := by kernel_rfl
def a_q15 : Ann := .lf
theorem x_q15 (N : Nat) : execF E [] N Tryz.f102 a_q15 ps_q15 rs_q15 = q15 N := by kernel_rfl
def a_q16 : Ann := .lf
theorem x_q16 (N : Nat) : execF E [⟨102, ps_q15, rs_q15, q15 N⟩] N Tryz.f61 a_q16 ps_q16 rs_q16 = q16 N := by kernel_rfl
def a_q17 : Ann := .lf
theorem x_q17 (N : Nat) : execF E [⟨102, ps_q15, rs_q15, q15 N⟩] N Tryz.f62 a_q17 ps_q17 rs_q17 = q17 N := by kernel_rfl
def a_q18 : Ann := .lf
theorem x_q18 (N : Nat) : execF E [⟨61, ps_q16, rs_q16, q16 N⟩, ⟨62, ps_q17, rs_q17, q17 N⟩] N Tryz.f120 a_q18 ps_q18 rs_q18 = q18 N := by kernel_rfl
def a_q19 : Ann := (.sq .lf (.jn ⟨[1], [2], [], []⟩ .lf .lf))
theorem x_q19 (N : Nat) : execF E [⟨89, ps_q13, rs_q13, q13 N⟩, ⟨119, ps_q14, rs_q14, q14 N⟩, ⟨120, ps_q18, rs_q18, q18 N⟩] N Tryz.f76 a_q19 ps_q19 rs_q19 = q19 N := by kernel_rfl
def a_q20 : Ann := .lf
theorem x_q20 (N : Nat) : execF E [] N Tryz.f169 a_q20 ps_q20 rs_q20 = q20 N := by kernel_rfl
def a_q21 : Ann := .lf
theorem x_q21 (N : Nat) : execF E [⟨119, ps_q14, rs_q14, q14 N⟩, ⟨169, ps_q20, rs_q20, q20 N⟩] N Tryz.f121 a_q21 ps_q21 rs_q21 = q21 N := by kernel_rfl
def a_q22 : Ann := (.sq .lf (.sq .lf (.jn ⟨[], [], [], []⟩ (.sq .lf (.lp ⟨[0, 9, 10], [], [.s 11], [.v (.int .i64) []]⟩ (.sq .lf (.sq .lf (.sq (.sq .lf (.sq .lf (.jn ⟨[0, 3, 4, 9, 10, 11], [14], [], []⟩ .lf .lf))) .lf))))) .lf)))
theorem x_q22 (N : Nat) : execF E [⟨121, ps_q21, rs_q21, q21 N⟩] N Tryz.f77 a_q22 ps_q22 rs_q22 = q22 N := by kernel_rfl
def a_q23 : Ann := .lf
theorem x_q23 (N : Nat) : execF E [] N Tryz.f170 a_q23 ps_q23 rs_q23 = q23 N := by kernel_rfl
def a_q24 : Ann := (.sq .lf (.sq .lf (.jn ⟨[4], [2], [], []⟩ (.sq .lf (.lp ⟨[1, 4, 11, 12], [2], [.s 13], [.v (.int .i64) []]⟩ .lf)) .lf)))
theorem x_q24 (N : Nat) : execF E [⟨170, ps_q23, rs_q23, q23 N⟩] N Tryz.f122 a_q24 ps_q24 rs_q24 = q24 N := by kernel_rfl
def a_q25 : Ann := .lf
theorem x_q25 (N : Nat) : execF E [] N Tryz.f123 a_q25 ps_q25 rs_q25 = q25 N := by kernel_rfl
def a_q26 : Ann := .lf
theorem x_q26 (N : Nat) : execF E [] N Tryz.f171 a_q26 ps_q26 rs_q26 = q26 N := by kernel_rfl
def a_q27 : Ann := .lf
theorem x_q27 (N : Nat) : execF E [⟨171, ps_q26, rs_q26, q26 N⟩] N Tryz.f124 a_q27 ps_q27 rs_q27 = q27 N := by kernel_rfl
def a_q28 : Ann := .lf
theorem x_q28 (N : Nat) : execF E [] N Tryz.f90 a_q28 ps_q28 rs_q28 = q28 N := by kernel_rfl
def a_q29 : Ann := .lf
theorem x_q29 (N : Nat) : execF E [] N Tryz.f91 a_q29 ps_q29 rs_q29 = q29 N := by kernel_rfl
def a_q30 : Ann := (.sq .lf (.sq .lf (.jn ⟨[], [], [], []⟩ (.sq .lf (.lp ⟨[1, 10, 11], [2], [.s 12], [.v (.int .i64) []]⟩ .lf)) .lf)))
theorem x_q30 (N : Nat) : execF E [⟨89, ps_q13, rs_q13, q13 N⟩, ⟨90, ps_q28, rs_q28, q28 N⟩, ⟨91, ps_q29, rs_q29, q29 N⟩] N Tryz.f46 a_q30 ps_q30 rs_q30 = q30 N := by kernel_rfl
def a_q31 : Ann := .lf
theorem x_q31 (N : Nat) : execF E [⟨93, ps_strings_Builder_copyCheck, rs_strings_Builder_copyCheck, strings_Builder_copyCheck N⟩] N Tryz.f49 a_q31 ps_q31 rs_q31 = q31 N := by kernel_rfl
def a_q32 : Ann := (.sq .lf (.sq .lf (.jn ⟨[3], [], [.o 5], [.b 84 (.st (.pair (.nptr) (.slice (.u8)))) [1]]⟩ (.sq .lf (.lp ⟨[3, 7, 8], [], [.s 9, .o 5], [.v (.int .i64) [], .b 84 (.st (.pair (.nptr) (.slice (.u8)))) [1]]⟩ .lf)) .lf)))
theorem x_q32 (N : Nat) : execF E [⟨49, ps_q31, rs_q31, q31 N⟩] N Tryz.f40 a_q32 ps_q32 rs_q32 = q32 N := by kernel_rfl
def a_q33 : Ann := (.sq .lf (.jn ⟨[], [], [.s 2], [.v (.int .i64) []]⟩ (.sq .lf (.lp ⟨[4], [], [.s 2, .o 4], [.v (.int .i64) [], .i]⟩ .lf)) .lf))
theorem x_q33 (N : Nat) : execF E [] N Tryz.f138 a_q33 ps_q33 rs_q33 = q33 N := by kernel_rfl
def a_q34 : Ann := .lf
theorem x_q34 (N : Nat) : execF E [⟨89, ps_q13, rs_q13, q13 N⟩, ⟨138, ps_q33, rs_q33, q33 N⟩] N Tryz.f201 a_q34 ps_q34 rs_q34 = q34 N := by kernel_rfl
def a_q35 : Ann := (.sq .lf (.sq .lf (.jn ⟨[], [], [.s 3], [.v (.int .i64) []]⟩ (.sq .lf (.lp ⟨[8, 9], [], [.s 3, .s 10], [.v (.int .i64) [], .v (.int .i64) []]⟩ .lf)) .lf)))
theorem x_q35 (N : Nat) : execF E [⟨201, ps_q34, rs_q34, q34 N⟩] N Tryz.f173 a_q35 ps_q35 rs_q35 = q35 N := by kernel_rfl
def a_q36 : Ann := .lf
theorem x_q36 (N : Nat) : execF E [⟨46, ps_q30, rs_q30, q30 N⟩, ⟨40, ps_q32, rs_q32, q32 N⟩, ⟨172, ps_strings_Contains, rs_strings_Contains, strings_Contains N⟩, ⟨173, ps_q35, rs_q35, q35 N⟩] N Tryz.f125 a_q36 ps_q36 rs_q36 = q36 N := by kernel_rfl
def a_q37 : Ann := (.sq .lf (.sq .lf (.jn ⟨[], [], [.s 3], [.v (.slice (.int .i64)) [0]]⟩ (.sq .lf (.lp ⟨[7, 8], [], [.s 3, .s 9], [.v (.slice (.int .i64)) [0], .v (.int .i64) []]⟩ .lf)) .lf)))
theorem x_q37 (N : Nat) : execF E [⟨173, ps_q35, rs_q35, q35 N⟩] N Tryz.f127 a_q37 ps_q37 rs_q37 = q37 N := by kernel_rfl
def a_q38 : Ann := .lf
theorem x_q38 (N : Nat) : execF E [⟨170, ps_q23, rs_q23, q23 N⟩, ⟨121, ps_q21, rs_q21, q21 N⟩] N Tryz.f174 a_q38 ps_q38 rs_q38 = q38 N := by kernel_rfl
def a_q39 : Ann := (.sq .lf (.sq .lf (.sq .lf (.jn ⟨[1, 2], [2], [.s 6], [.v (.int .i64) []]⟩ .lf (.sq .lf (.jn ⟨[], [], [.s 7], [.v (.slice Y5) [0]]⟩ (.sq .lf (.lp ⟨[2, 6, 32, 33], [2], [.s 7, .s 34], [.v (.slice Y5) [0], .v (.int .i64) []]⟩ .lf)) .lf))))))
theorem x_q39 (N : Nat) : execF E [⟨174, ps_q38, rs_q38, q38 N⟩] N Tryz.f126 a_q39 ps_q39 rs_q39 = q39 N := by kernel_rfl
def a_q40 : Ann := (.sq .lf (.sq .lf (.sq (.sq .lf (.sq .lf (.sq .lf (.sq .lf (.sq .lf (.sq .lf (.jn ⟨[2, 5], [12, 2], [.s 42], [.v (.bool) []]⟩ .lf .lf))))))) (.jn ⟨[2, 5], [12, 2], [], []⟩ (.sq .lf (.lp ⟨[2, 5, 64, 65], [12, 2], [.s 66], [.v (.int .i64) []]⟩ .lf)) .lf))))
theorem x_q40 (N : Nat) : execF E [⟨122, ps_q24, rs_q24, q24 N⟩, ⟨123, ps_q25, rs_q25, q25 N⟩, ⟨124, ps_q27, rs_q27, q27 N⟩, ⟨119, ps_q14, rs_q14, q14 N⟩, ⟨125, ps_q36, rs_q36, q36 N⟩, ⟨127, ps_q37, rs_q37, q37 N⟩, ⟨126, ps_q39, rs_q39, q39 N⟩] N Tryz.f78 a_q40 ps_q40 rs_q40 = q40 N := by kernel_rfl
def a_q41 : Ann := .lf
theorem x_q41 (N : Nat) : execF E [] N Tryz.f158 a_q41 ps_q41 rs_q41 = q41 N := by kernel_rfl
def a_q42 : Ann := .lf
theorem x_q42 (N : Nat) : execF E [⟨158, ps_q41, rs_q41, q41 N⟩] N Tryz.f112 a_q42 ps_q42 rs_q42 = q42 N := by kernel_rfl
def a_q43 : Ann := (.sq .lf (.sq .lf (.jn ⟨[3], [], [], []⟩ (.sq .lf (.lp ⟨[3, 6, 7], [], [.s 8], [.v (.int .i64) []]⟩ .lf)) .lf)))
theorem x_q43 (N : Nat) : execF E [] N Tryz.f111 a_q43 ps_q43 rs_q43 = q43 N := by kernel_rfl
def a_q44 : Ann := .lf
theorem x_q44 (N : Nat) : execF E [⟨112, ps_q42, rs_q42, q42 N⟩, ⟨111, ps_q43, rs_q43, q43 N⟩] N Tryz.f79 a_q44 ps_q44 rs_q44 = q44 N := by kernel_rfl
def a_q45 : Ann := (.sq .lf (.sq .lf (.jn ⟨[], [], [.s 3], [.v (.int .i64) []]⟩ (.sq .lf (.lp ⟨[12, 13], [12], [.s 3, .s 14], [.v (.int .i64) [], .v (.int .i64) []]⟩ .lf)) .lf)))
theorem x_q45 (N : Nat) : execF E [⟨127, ps_q37, rs_q37, q37 N⟩] N Tryz.f175 a_q45 ps_q45 rs_q45 = q45 N := by kernel_rfl
def a_q46 : Ann := .lf
theorem x_q46 (N : Nat) : execF E [⟨175, ps_q45, rs_q45, q45 N⟩] N Tryz.f128 a_q46 ps_q46 rs_q46 = q46 N := by kernel_rfl
def a_q47 : Ann := (.sq .lf (.sq .lf (.jn ⟨[], [], [.o 1], [.m (.int .i64) (.int .i64)]⟩ (.sq .lf (.lp ⟨[1, 2, 15, 16], [3], [.s 17, .o 1], [.v (.int .i64) [], .m (.int .i64) (.int .i64)]⟩ (.sq .lf (.sq .lf (.sq (.sq .lf (.sq .lf (.jn ⟨[1, 2, 6, 15, 16, 17], [1, 19, 3], [], []⟩ .lf .lf))) .lf))))) .lf)))
theorem x_q47 (N : Nat) : execF E [⟨128, ps_q46, rs_q46, q46 N⟩, ⟨119, ps_q14, rs_q14, q14 N⟩, ⟨89, ps_q13, rs_q13, q13 N⟩] N Tryz.f80 a_q47 ps_q47 rs_q47 = q47 N := by kernel_rfl
def a_q48 : Ann := (.sq .lf (.sq .lf (.sq .lf (.sq .lf (.sq .lf (.jn ⟨[1, 5], [2], [.o 20], [.m (.int .i64) (.int .i64)]⟩ (.sq .lf (.lp ⟨[1, 5, 28, 29], [2], [.s 30, .o 20], [.v (.int .i64) [], .m (.int .i64) (.int .i64)]⟩ .lf)) .lf))))))
theorem x_q48 (N : Nat) : execF E [⟨76, ps_q19, rs_q19, q19 N⟩, ⟨77, ps_q22, rs_q22, q22 N⟩, ⟨78, ps_q40, rs_q40, q40 N⟩, ⟨79, ps_q44, rs_q44, q44 N⟩, ⟨80, ps_q47, rs_q47, q47 N⟩] N Tryz.f32 a_q48 ps_q48 rs_q48 = q48 N := by kernel_rfl
def a_q49 : Ann := .lf
theorem x_q49 (N : Nat) : execF E [⟨102, ps_q15, rs_q15, q15 N⟩] N Tryz.f192 a_q49 ps_q49 rs_q49 = q49 N := by kernel_rfl
def a_q50 : Ann := .lf
theorem x_q50 (N : Nat) : execF E [⟨61, ps_q16, rs_q16, q16 N⟩, ⟨192, ps_q49, rs_q49, q49 N⟩] N Tryz.f187 a_q50 ps_q50 rs_q50 = q50 N := by kernel_rfl
def a_q51 : Ann := .lf
theorem x_q51 (N : Nat) : execF E [] N Tryz.f206 a_q51 ps_q51 rs_q51 = q51 N := by kernel_rfl
def a_q52 : Ann := .lf
theorem x_q52 (N : Nat) : execF E [] N Tryz.f207 a_q52 ps_q52 rs_q52 = q52 N := by kernel_rfl
def a_q53 : Ann := .lf
theorem x_q53 (N : Nat) : execF E [] N Tryz.f208 a_q53 ps_q53 rs_q53 = q53 N := by kernel_rfl
def a_q54 : Ann := (.sq .lf (.sq .lf (.sq .lf (.sq .lf (.jn ⟨[8], [], [.s 9], [.v (.int .u64) []]⟩ .lf .lf)))))
theorem x_q54 (N : Nat) : execF E [⟨206, ps_q51, rs_q51, q51 N⟩, ⟨207, ps_q52, rs_q52, q52 N⟩, ⟨208, ps_q53, rs_q53, q53 N⟩] N Tryz.f188 a_q54 ps_q54 rs_q54 = q54 N := by kernel_rfl
def a_q55 : Ann := .lf
theorem x_q55 (N : Nat) : execF E [⟨187, ps_q50, rs_q50, q50 N⟩, ⟨188, ps_q54, rs_q54, q54 N⟩] N Tryz.f151 a_q55 ps_q55 rs_q55 = q55 N := by kernel_rfl
def a_q56 : Ann := .lf
theorem x_q56 (N : Nat) : execF E [⟨181, ps_istrconv_FormatInt, rs_istrconv_FormatInt, istrconv_FormatInt N⟩] N Tryz.f142 a_q56 ps_q56 rs_q56 = q56 N := by kernel_rfl
def a_q57 : Ann := .lf
theorem x_q57 (N : Nat) : execF E [⟨142, ps_q56, rs_q56, q56 N⟩] N Tryz.f88 a_q57 ps_q57 rs_q57 = q57 N := by kernel_rfl
def a_q58 : Ann := (.sq .lf (.sq .lf (.jn ⟨[], [], [.s 5], [.v (.str) []]⟩ (.lp ⟨[1], [], [.s 5], [.v (.str) []]⟩ .lf) .lf)))
theorem x_q58 (N : Nat) : execF E [⟨88, ps_q57, rs_q57, q57 N⟩] N Tryz.f41 a_q58 ps_q58 rs_q58 = q58 N := by kernel_rfl
def a_q59 : Ann := .lf
theorem x_q59 (N : Nat) : execF E [⟨41, ps_q58, rs_q58, q58 N⟩] N Tryz.f14 a_q59 ps_q59 rs_q59 = q59 N := by kernel_rfl
def a_q60 : Ann := .lf
theorem x_q60 (N : Nat) : execF E [⟨178, ps_bytealg_IndexByteString, rs_bytealg_IndexByteString, bytealg_IndexByteString N⟩] N Tryz.f134 a_q60 ps_q60 rs_q60 = q60 N := by kernel_rfl
def a_q61 : Ann := .lf
theorem x_q61 (N : Nat) : execF E [⟨134, ps_q60, rs_q60, q60 N⟩] N Tryz.f184 a_q61 ps_q61 rs_q61 = q61 N := by kernel_rfl
def a_q62 : Ann := .lf
theorem x_q62 (N : Nat) : execF E [] N Tryz.f185 a_q62 ps_q62 rs_q62 = q62 N := by kernel_rfl
def a_q63 : Ann := .lf
theorem x_q63 (N : Nat) : execF E [] N Tryz.f136 a_q63 ps_q63 rs_q63 = q63 N := by kernel_rfl
def a_q64 : Ann := (.sq .lf (.jn ⟨[0, 1], [], [.s 160], [.v (.bool) []]⟩ .lf (.sq .lf (.sq .lf (.sq (.jn ⟨[], [], [], []⟩ (.sq .lf (.lp ⟨[175], [], [.o 8], [.i]⟩ .lf)) .lf) (.sq .lf (.sq .lf (.sq (.sq .lf (.sq .lf (.sq .lf (.sq .lf (.jn ⟨[], [], [], []⟩ (.lp ⟨[0, 1, 7, 8], [], [.s 9, .s 10], [.v (.int .i64) [], .v (.int .i64) []]⟩ (.sq .lf (.sq (.jn ⟨[0, 1, 7, 8, 10], [], [.s 9], [.v (.int .i64) []]⟩ .lf (.jn ⟨[8, 9], [], [], []⟩ (.sq .lf (.lp ⟨[0, 1, 7, 8, 9, 10], [], [.s 12], [.v (.int .i64) []]⟩ .lf)) .lf)) .lf))) .lf))))) .lf))))))))
theorem x_q64 (N : Nat) : execF E [⟨184, ps_q61, rs_q61, q61 N⟩, ⟨185, ps_q62, rs_q62, q62 N⟩, ⟨136, ps_q63, rs_q63, q63 N⟩] N Tryz.f145 a_q64 ps_q64 rs_q64 = q64 N := by kernel_rfl
def a_q65 : Ann := .lf
theorem x_q65 (N : Nat) : execF E [] N Tryz.f146 a_q65 ps_q65 rs_q65 = q65 N := by kernel_rfl
def a_q67 : Ann := (.sq .lf (.sq .lf (.sq .lf (.jn ⟨[0, 1], [], [], []⟩ .lf (.jn ⟨[], [], [], []⟩ (.sq .lf (.lp ⟨[1, 45], [], [.o 10], [.i]⟩ .lf)) .lf)))))
theorem x_q67 (N : Nat) : execF E [⟨145, ps_q64, rs_q64, q64 N⟩, ⟨146, ps_q65, rs_q65, q65 N⟩] N Tryz.f92 a_q67 ps_q67 rs_q67 = q66 N := by kernel_rfl
def a_q68 : Ann := .lf
theorem x_q68 (N : Nat) : execF E [⟨92, ps_q67, rs_q67, q67 N⟩] N Tryz.f47 a_q68 ps_q68 rs_q68 = q68 N := by kernel_rfl
def a_q69 : Ann := (.sq .lf (.sq .lf (.jn ⟨[2, 3], [2], [.o 4], [.b 31 (.st Y3) [0]]⟩ (.sq .lf (.lp ⟨[2, 3, 7, 8], [2], [.s 9, .o 4], [.v (.int .i64) [], .b 31 (.st Y3) [0]]⟩ .lf)) .lf)))
theorem x_q69 (N : Nat) : execF E [⟨91, ps_q29, rs_q29, q29 N⟩] N Tryz.f58 a_q69 ps_q69 rs_q69 = q69 N := by kernel_rfl
def a_q70 : Ann := .lf
theorem x_q70 (N : Nat) : execF E [⟨58, ps_q69, rs_q69, q69 N⟩] N Tryz.f23 a_q70 ps_q70 rs_q70 = q70 N := by kernel_rfl
def a_q71 : Ann := (.sq .lf (.sq .lf (.jn ⟨[2, 3], [4], [.o 6], [.b 31 (.st Y3) [0]]⟩ (.sq .lf (.lp ⟨[2, 3, 7, 8], [4], [.s 9, .o 6], [.v (.int .i64) [], .b 31 (.st Y3) [0]]⟩ .lf)) .lf)))
theorem x_q71 (N : Nat) : execF E [⟨23, ps_q70, rs_q70, q70 N⟩] N Tryz.f48 a_q71 ps_q71 rs_q71 = q71 N := by kernel_rfl
def a_q72 : Ann := (.sq .lf (.sq .lf (.sq .lf (.sq .lf (.jn ⟨[5], [], [.o 14], [.b 84 (.st (.pair (.nptr) (.slice (.u8)))) [1]]⟩ (.sq .lf (.lp ⟨[5, 19, 20], [17], [.s 21, .o 14], [.v (.int .i64) [], .b 84 (.st (.pair (.nptr) (.slice (.u8)))) [1]]⟩ .lf)) .lf)))))
theorem x_q72 (N : Nat) : execF E [⟨46, ps_q30, rs_q30, q30 N⟩, ⟨40, ps_q32, rs_q32, q32 N⟩, ⟨47, ps_q68, rs_q68, q68 N⟩, ⟨48, ps_q71, rs_q71, q71 N⟩, ⟨49, ps_q31, rs_q31, q31 N⟩] N Tryz.f18 a_q72 ps_q72 rs_q72 = q72 N := by kernel_rfl
def a_q73 : Ann := (.sq .lf (.sq .lf (.sq .lf (.sq .lf (.sq .lf (.sq .lf (.sq .lf (.sq .lf (.jn ⟨[], [], [.s 15], [.v (.str) []]⟩ (.sq .lf (.lp ⟨[62, 63], [], [.s 15, .s 64], [.v (.str) [], .v (.int .i64) []]⟩ .lf)) .lf)))))))))
theorem x_q73 (N : Nat) : execF E [⟨151, ps_q55, rs_q55, q55 N⟩, ⟨14, ps_q59, rs_q59, q59 N⟩, ⟨88, ps_q57, rs_q57, q57 N⟩, ⟨18, ps_q72, rs_q72, q72 N⟩] N Tryz.f98 a_q73 ps_q73 rs_q73 = q73 N := by kernel_rfl
def a_q74 : Ann := .lf
theorem x_q74 (N : Nat) : execF E [] N Tryz.f99 a_q74 ps_q74 rs_q74 = q74 N := by kernel_rfl
def a_q75 : Ann := (.sq .lf (.sq .lf (.sq .lf (.jn ⟨[6], [], [.o 12], [.b 84 (.st (.pair (.nptr) (.slice (.u8)))) [1]]⟩ (.sq .lf (.lp ⟨[1, 6, 17, 18], [2], [.s 19, .o 12], [.v (.int .i64) [], .b 84 (.st (.pair (.nptr) (.slice (.u8)))) [1]]⟩ .lf)) .lf))))
theorem x_q75 (N : Nat) : execF E [⟨32, ps_q48, rs_q48, q48 N⟩, ⟨98, ps_q73, rs_q73, q73 N⟩, ⟨49, ps_q31, rs_q31, q31 N⟩, ⟨99, ps_q74, rs_q74, q74 N⟩] N Tryz.f59 a_q75 ps_q75 rs_q75 = q75 N := by kernel_rfl
def a_q76 : Ann := .lf
theorem x_q76 (N : Nat) : execF E [⟨59, ps_q75, rs_q75, q75 N⟩] N Tryz.f25 a_q76 ps_q76 rs_q76 = q76 N := by kernel_rfl
def a_q77 : Ann := .lf
theorem x_q77 (N : Nat) : execF E [] N Tryz.f141 a_q77 ps_q77 rs_q77 = q77 N := by kernel_rfl
def a_q78 : Ann := .lf
theorem x_q78 (N : Nat) : execF E [⟨141, ps_q77, rs_q77, q77 N⟩] N Tryz.f87 a_q78 ps_q78 rs_q78 = q78 N := by kernel_rfl
def a_q79 : Ann := (.sq .lf (.sq .lf (.jn ⟨[0], [], [.s 1], [.v (.int .i64) []]⟩ .lf (.sq .lf (.jn ⟨[1, 6], [], [.s 0, .o 8], [.v (.str) [], .r 8 (.str)]⟩ (.sq .lf (.lp ⟨[1, 6], [], [.s 0, .s 7, .o 8], [.v (.str) [], .v (.int .i64) [], .r 8 (.str)]⟩ .lf)) .lf)))))
theorem x_q79 (N : Nat) : execF E [⟨138, ps_q33, rs_q33, q33 N⟩, ⟨87, ps_q78, rs_q78, q78 N⟩] N Tryz.f133 a_q79 ps_q79 rs_q79 = q79 N := by kernel_rfl
def a_q80 : Ann := (.sq .lf (.sq .lf (.sq .lf (.sq .lf (.lp ⟨[1], [], [.s 0, .s 5], [.v (.str) [], .v (.int .i64) []]⟩ .lf)))))
theorem x_q80 (N : Nat) : execF E [⟨138, ps_q33, rs_q33, q33 N⟩, ⟨139, ps_bytealg_CountString, rs_bytealg_CountString, bytealg_CountString N⟩, ⟨38, ps_strings_Index, rs_strings_Index, strings_Index N⟩] N Tryz.f85 a_q80 ps_q80 rs_q80 = q80 N := by kernel_rfl
end
end Go.Mo
end

section
/-
  The functions do what their models say. Printed by a program.
-/
namespace Go.Mo
open Go Go.W Go.Proofs
noncomputable section
set_option maxRecDepth 100000
def a_q81 : Ann := (.sq .lf (.sq .lf (.sq .lf (.jn ⟨[0, 1, 2], [], [.s 3], [.v (.int .i64) []]⟩ .lf (.sq .lf (.sq .lf (.sq .lf (.sq .lf (.jn ⟨[9], [], [.s 0, .s 10, .o 15], [.v (.str) [], .v (.int .i64) [], .r 15 (.str)]⟩ (.lp ⟨[1, 2, 3, 9], [], [.s 0, .s 10, .o 15], [.v (.str) [], .v (.int .i64) [], .r 15 (.str)]⟩ .lf) .lf)))))))))
theorem x_q81 (N : Nat) : execF E [⟨133, ps_q79, rs_q79, q79 N⟩, ⟨85, ps_q80, rs_q80, q80 N⟩, ⟨38, ps_strings_Index, rs_strings_Index, strings_Index N⟩] N Tryz.f83 a_q81 ps_q81 rs_q81 = q81 N := by kernel_rfl
def a_q82 : Ann := .lf
theorem x_q82 (N : Nat) : execF E [⟨83, ps_q81, rs_q81, q81 N⟩] N Tryz.f37 a_q82 ps_q82 rs_q82 = q82 N := by kernel_rfl
def a_q83 : Ann := .lf
theorem x_q83 (N : Nat) : execF E [] N Tryz.f154 a_q83 ps_q83 rs_q83 = q83 N := by kernel_rfl
def a_q84 : Ann := .lf
theorem x_q84 (N : Nat) : execF E [⟨154, ps_q83, rs_q83, q83 N⟩] N Tryz.f103 a_q84 ps_q84 rs_q84 = q84 N := by kernel_rfl
def a_q85 : Ann := .lf
theorem x_q85 (N : Nat) : execF E [⟨103, ps_q84, rs_q84, q84 N⟩] N Tryz.f63 a_q85 ps_q85 rs_q85 = q85 N := by kernel_rfl
def a_q86 : Ann := (.sq .lf (.sq .lf (.jn ⟨[], [], [.s 3], [.v (.int .i64) []]⟩ (.sq .lf (.lp ⟨[0, 6], [], [.s 3, .s 7], [.v (.int .i64) [], .v (.int .i64) []]⟩ .lf)) .lf)))
theorem x_q86 (N : Nat) : execF E [] N Tryz.f43 a_q86 ps_q86 rs_q86 = q86 N := by kernel_rfl
def a_q87 : Ann := .lf
theorem x_q87 (N : Nat) : execF E [⟨43, ps_q86, rs_q86, q86 N⟩] N Tryz.f104 a_q87 ps_q87 rs_q87 = q87 N := by kernel_rfl
def a_q88 : Ann := .lf
theorem x_q88 (N : Nat) : execF E [] N Tryz.f105 a_q88 ps_q88 rs_q88 = q88 N := by kernel_rfl
def a_q89 : Ann := (.sq .lf (.jn ⟨[0], [], [], []⟩ .lf .lf))
theorem x_q89 (N : Nat) : execF E [⟨43, ps_q86, rs_q86, q86 N⟩] N Tryz.f16 a_q89 ps_q89 rs_q89 = q89 N := by kernel_rfl
def a_q90 : Ann := .lf
theorem x_q90 (N : Nat) : execF E [⟨16, ps_q89, rs_q89, q89 N⟩] N Tryz.f106 a_q90 ps_q90 rs_q90 = q90 N := by kernel_rfl
def a_q91 : Ann := .lf
theorem x_q91 (N : Nat) : execF E [⟨61, ps_q16, rs_q16, q16 N⟩, ⟨192, ps_q49, rs_q49, q49 N⟩, ⟨188, ps_q54, rs_q54, q54 N⟩] N Tryz.f155 a_q91 ps_q91 rs_q91 = q91 N := by kernel_rfl
def a_q92 : Ann := .lf
theorem x_q92 (N : Nat) : execF E [⟨61, ps_q16, rs_q16, q16 N⟩, ⟨155, ps_q91, rs_q91, q91 N⟩] N Tryz.f107 a_q92 ps_q92 rs_q92 = q92 N := by kernel_rfl
def a_q93 : Ann := .lf
theorem x_q93 (N : Nat) : execF E [] N Tryz.f54 a_q93 ps_q93 rs_q93 = q93 N := by kernel_rfl
def a_q94 : Ann := .lf
theorem x_q94 (N : Nat) : execF E [] N Tryz.f96 a_q94 ps_q94 rs_q94 = q94 N := by kernel_rfl
def a_q95 : Ann := .lf
theorem x_q95 (N : Nat) : execF E [⟨96, ps_q94, rs_q94, q94 N⟩] N Tryz.f55 a_q95 ps_q95 rs_q95 = q95 N := by kernel_rfl
def a_q96 : Ann := (.sq .lf (.sq .lf (.sq .lf (.sq .lf (.sq .lf (.jn ⟨[2, 3, 4, 6], [2], [.o 4, .o 8, .o 6], [.b 31 (.st Y3) [0], .b 9 (.str) [], .b 38 Y7 []]⟩ (.lp ⟨[2, 3, 4, 5, 6], [2], [.s 0, .o 4, .o 8, .o 6], [.v (.str) [], .b 31 (.st Y3) [0], .b 9 (.str) [], .b 38 Y7 []]⟩ (.sq .lf (.sq .lf (.sq .lf (.jn ⟨[0, 2, 3, 4, 5, 6, 7], [18, 4, 8, 6, 13, 2], [.s 8], [.v (.str) []]⟩ (.sq .lf (.lp ⟨[0, 2, 3, 4, 5, 6, 7, 15, 16], [22, 18, 4, 8, 6, 13, 2], [.s 8, .s 17], [.v (.str) [], .v (.int .i64) []]⟩ .lf)) (.jn ⟨[0, 2, 3, 4, 5, 6, 7, 8], [4, 8, 6, 13, 2], [.o 18], [.b 38 Y7 []]⟩ (.sq .lf (.sq .lf (.sq .lf (.jn ⟨[0, 2, 3, 4, 5, 6, 7, 8, 26], [18, 4, 8, 6, 13, 2], [.s 35], [.v (.bool) []]⟩ .lf .lf)))) .lf)))))) .lf))))))
theorem x_q96 (N : Nat) : execF E [⟨54, ps_q93, rs_q93, q93 N⟩, ⟨55, ps_q95, rs_q95, q95 N⟩, ⟨23, ps_q70, rs_q70, q70 N⟩] N Tryz.f21 a_q96 ps_q96 rs_q96 = q96 N := by kernel_rfl
def a_q97 : Ann := (.jn ⟨[0], [5, 1, 2, 3, 4], [.s 1, .s 2], [.v (.slice (.str)) [], .v (.int .i64) []]⟩ .lf (.sq .lf (.sq .lf (.sq .lf (.sq .lf (.sq .lf (.sq .lf (.sq .lf (.jn ⟨[0, 2, 9], [5, 1, 2, 3, 4], [.o 36], [.b 74 Y1 [6]]⟩ (.sq .lf (.lp ⟨[0, 2, 9, 93, 94], [5, 1, 2, 3, 4], [.s 95, .o 36], [.v (.int .i64) [], .b 74 Y1 [6]]⟩ .lf)) .lf)))))))))
theorem x_q97 (N : Nat) : execF E [⟨104, ps_q87, rs_q87, q87 N⟩, ⟨105, ps_q88, rs_q88, q88 N⟩, ⟨106, ps_q90, rs_q90, q90 N⟩, ⟨107, ps_q92, rs_q92, q92 N⟩, ⟨21, ps_q96, rs_q96, q96 N⟩, ⟨78, ps_q40, rs_q40, q40 N⟩] N Tryz.f64 a_q97 ps_q97 rs_q97 = q97 N := by kernel_rfl
def a_q98 : Ann := .lf
theorem x_q98 (N : Nat) : execF E [] N Tryz.f193 a_q98 ps_q98 rs_q98 = q98 N := by kernel_rfl
def a_q99 : Ann := .lf
theorem x_q99 (N : Nat) : execF E [] N Tryz.f194 a_q99 ps_q99 rs_q99 = q99 N := by kernel_rfl
def a_q100 : Ann := (.sq .lf (.sq .lf (.jn ⟨[3], [], [.o 4], [.r 4 (.st Y3)]⟩ (.sq .lf (.lp ⟨[3, 8], [], [.s 9, .o 4], [.v (.int .i64) [], .r 4 (.st Y3)]⟩ .lf)) .lf)))
theorem x_q100 (N : Nat) : execF E [⟨193, ps_q98, rs_q98, q98 N⟩, ⟨194, ps_q99, rs_q99, q99 N⟩] N Tryz.f156 a_q100 ps_q100 rs_q100 = q100 N := by kernel_rfl
def a_q101 : Ann := .lf
theorem x_q101 (N : Nat) : execF E [⟨156, ps_q100, rs_q100, q100 N⟩] N Tryz.f108 a_q101 ps_q101 rs_q101 = q101 N := by kernel_rfl
def a_q102 : Ann := .lf
theorem x_q102 (N : Nat) : execF E [⟨112, ps_q42, rs_q42, q42 N⟩, ⟨111, ps_q43, rs_q43, q43 N⟩] N Tryz.f110 a_q102 ps_q102 rs_q102 = q102 N := by kernel_rfl
def a_q103 : Ann := (.sq .lf (.lp ⟨[0, 1, 2, 3], [], [.s 8, .o 1], [.v (.int .i64) [], .r 4 Y1]⟩ (.sq .lf (.jn ⟨[0, 1, 2, 3, 8], [], [.o 1], [.r 4 Y1]⟩ (.sq .lf (.lp ⟨[0, 1, 2, 3, 8], [], [.s 9, .o 1], [.v (.int .i64) [], .r 4 Y1]⟩ .lf)) .lf))))
theorem x_q103 (N : Nat) : execF E [⟨110, ps_q102, rs_q102, q102 N⟩] N Tryz.f195 a_q103 ps_q103 rs_q103 = q103 N := by kernel_rfl
def a_q104 : Ann := (.sq .lf (.lp ⟨[0, 1, 2, 3], [], [.s 10, .o 1], [.v (.int .i64) [], .r 4 Y1]⟩ .lf))
theorem x_q104 (N : Nat) : execF E [⟨110, ps_q102, rs_q102, q102 N⟩] N Tryz.f216 a_q104 ps_q104 rs_q104 = q104 N := by kernel_rfl
def a_q105 : Ann := (.sq .lf (.sq .lf (.jn ⟨[0, 2, 4], [], [.s 10, .o 1], [.v (.int .i64) [], .r 4 Y1]⟩ (.lp ⟨[0, 2, 4], [], [.s 10, .s 11, .o 1], [.v (.int .i64) [], .v (.int .i64) [], .r 4 Y1]⟩ .lf) .lf)))
theorem x_q105 (N : Nat) : execF E [⟨110, ps_q102, rs_q102, q102 N⟩, ⟨216, ps_q104, rs_q104, q104 N⟩] N Tryz.f209 a_q105 ps_q105 rs_q105 = q105 N := by kernel_rfl
def a_q106 : Ann := (.jn ⟨[0, 1, 2, 3, 4], [1], [], []⟩ (.sq .lf (.sq (.sq .lf (.sq .lf (.jn ⟨[0, 1], [1], [.s 10], [.v (.int .i64) []]⟩ (.lp ⟨[0, 1, 4], [1], [.s 10, .s 11], [.v (.int .i64) [], .v (.int .i64) []]⟩ .lf) (.jn ⟨[], [], [.o 1], [.r 4 Y1]⟩ (.sq .lf (.lp ⟨[0, 10], [], [.s 13, .o 1], [.v (.int .i64) [], .r 4 Y1]⟩ .lf)) .lf)))) .lf)) (.jn ⟨[0, 1, 2, 3, 4], [1], [], []⟩ (.sq .lf (.sq (.sq .lf (.sq .lf (.jn ⟨[0, 2], [1], [.s 14], [.v (.int .i64) []]⟩ (.lp ⟨[0, 2, 4], [1], [.s 14, .s 15], [.v (.int .i64) [], .v (.int .i64) []]⟩ .lf) (.jn ⟨[], [], [.o 1], [.r 4 Y1]⟩ (.sq .lf (.lp ⟨[0, 14], [], [.s 17, .o 1], [.v (.int .i64) [], .r 4 Y1]⟩ .lf)) .lf)))) .lf)) (.sq .lf (.sq .lf (.sq .lf (.jn ⟨[0, 1, 2, 3, 4, 18, 19], [1], [.s 20, .s 21], [.v (.int .i64) [], .v (.int .i64) []]⟩ .lf (.sq .lf (.jn ⟨[0, 1, 2, 3, 4, 18, 19], [1], [.s 20], [.v (.int .i64) []]⟩ (.lp ⟨[0, 1, 2, 3, 4, 18, 19, 22], [1], [.s 20, .s 21], [.v (.int .i64) [], .v (.int .i64) []]⟩ .lf) (.sq .lf (.jn ⟨[0, 1, 3, 4, 18, 20, 24], [], [.o 1], [.r 4 Y1]⟩ .lf (.jn ⟨[0, 3, 4, 18, 24], [], [.o 1], [.r 4 Y1]⟩ .lf .lf)))))))))))
theorem x_q106 (N D : Nat) : execF E [⟨110, ps_q102, rs_q102, q102 N⟩, ⟨209, ps_q105, rs_q105, q105 N⟩, ⟨196, ps_q106, rs_q106, q106_r N D⟩] N Tryz.f196 a_q106 ps_q106 rs_q106 = q106_r N (D + 1) := by kernel_rfl
def a_q107 : Ann := (.sq .lf (.sq .lf (.jn ⟨[0, 1, 2, 6], [], [.s 7, .o 1], [.v (.int .i64) [], .r 4 Y1]⟩ (.lp ⟨[0, 1, 2, 6], [], [.s 7, .s 8, .o 1], [.v (.int .i64) [], .v (.int .i64) [], .r 4 Y1]⟩ .lf) (.sq .lf (.lp ⟨[0, 1, 2], [], [.s 6, .o 1], [.v (.int .i64) [], .r 4 Y1]⟩ (.sq .lf (.sq .lf (.jn ⟨[0, 1, 2, 6], [], [.s 7, .o 1], [.v (.int .i64) [], .r 4 Y1]⟩ (.lp ⟨[0, 1, 2, 6], [], [.s 7, .s 8, .o 1], [.v (.int .i64) [], .v (.int .i64) [], .r 4 Y1]⟩ .lf) .lf))))))))
theorem x_q107 (N : Nat) : execF E [⟨110, ps_q102, rs_q102, q102 N⟩, ⟨195, ps_q103, rs_q103, q103 N⟩, ⟨196, ps_q106, rs_q106, q106 N⟩] N Tryz.f157 a_q107 ps_q107 rs_q107 = q107 N := by kernel_rfl
def a_q108 : Ann := .lf
theorem x_q108 (N : Nat) : execF E [⟨110, ps_q102, rs_q102, q102 N⟩, ⟨157, ps_q107, rs_q107, q107 N⟩] N Tryz.f109 a_q108 ps_q108 rs_q108 = q108 N := by kernel_rfl
def a_q109 : Ann := (.sq .lf (.sq .lf (.jn ⟨[], [], [.s 3], [.v (.slice Y1) [0]]⟩ (.sq .lf (.lp ⟨[6, 7], [], [.s 3, .s 8], [.v (.slice Y1) [0], .v (.int .i64) []]⟩ .lf)) .lf)))
theorem x_q109 (N : Nat) : execF E [⟨108, ps_q101, rs_q101, q101 N⟩, ⟨109, ps_q108, rs_q108, q108 N⟩, ⟨110, ps_q102, rs_q102, q102 N⟩] N Tryz.f65 a_q109 ps_q109 rs_q109 = q109 N := by kernel_rfl
def a_q110 : Ann := (.sq .lf (.jn ⟨[0, 1, 2, 6], [2], [], []⟩ .lf (.sq .lf (.sq .lf (.sq .lf (.jn ⟨[6, 8], [2], [.o 11], [.b 98 (.st (.pair (.u8) (.pair Y2 (.slice Y5)))) [6, 7, 8, 9]]⟩ (.sq .lf (.lp ⟨[6, 8, 45, 46], [16, 2], [.s 9, .s 47, .o 11], [.v (.slice (.str)) [0], .v (.int .i64) [], .b 98 (.st (.pair (.u8) (.pair Y2 (.slice Y5)))) [6, 7, 8, 9]]⟩ .lf)) .lf))))))
theorem x_q110 (N : Nat) : execF E [⟨61, ps_q16, rs_q16, q16 N⟩, ⟨62, ps_q17, rs_q17, q17 N⟩, ⟨37, ps_q82, rs_q82, q82 N⟩, ⟨63, ps_q85, rs_q85, q85 N⟩, ⟨64, ps_q97, rs_q97, q97 N⟩, ⟨65, ps_q109, rs_q109, q109 N⟩] N Tryz.f28 a_q110 ps_q110 rs_q110 = q110 N := by kernel_rfl
def a_q111 : Ann := (.sq .lf (.sq .lf (.jn ⟨[], [], [], []⟩ (.sq .lf (.lp ⟨[0, 1, 12], [], [.s 13], [.v (.int .i64) []]⟩ .lf)) .lf)))
theorem x_q111 (N : Nat) : execF E [] N Tryz.f53 a_q111 ps_q111 rs_q111 = q111 N := by kernel_rfl
def a_q112 : Ann := .lf
theorem x_q112 (N : Nat) : execF E [⟨53, ps_q111, rs_q111, q111 N⟩] N Tryz.f20 a_q112 ps_q112 rs_q112 = q112 N := by kernel_rfl
def a_l19_awake : Ann := .lf
theorem x_l19_awake (N : Nat) : execF E [⟨25, ps_q76, rs_q76, q76 N⟩, ⟨14, ps_q59, rs_q59, q59 N⟩, ⟨28, ps_q110, rs_q110, q110 N⟩, ⟨40, ps_q32, rs_q32, q32 N⟩, ⟨21, ps_q96, rs_q96, q96 N⟩, ⟨20, ps_q112, rs_q112, q112 N⟩] N Tryz.f13 a_l19_awake ps_l19_awake rs_l19_awake = l19_awake N := by kernel_rfl
def a_l19_few : Ann := .lf
theorem x_l19_few (N : Nat) : execF E [] N Tryz.f24 a_l19_few ps_l19_few rs_l19_few = l19_few N := by kernel_rfl
def a_q113 : Ann := .lf
theorem x_q113 (N : Nat) : execF E [] N Tryz.f71 a_q113 ps_q113 rs_q113 = q113 N := by kernel_rfl
def a_q114 : Ann := (.sq .lf (.sq .lf (.jn ⟨[], [], [], []⟩ (.sq .lf (.lp ⟨[0, 1, 12], [], [.s 13], [.v (.int .i64) []]⟩ .lf)) .lf)))
theorem x_q114 (N : Nat) : execF E [] N Tryz.f72 a_q114 ps_q114 rs_q114 = q114 N := by kernel_rfl
def a_q115 : Ann := (.sq .lf (.sq .lf (.jn ⟨[], [], [], []⟩ (.sq .lf (.lp ⟨[1, 2, 15, 16], [], [.s 17], [.v (.int .i64) []]⟩ .lf)) .lf)))
theorem x_q115 (N : Nat) : execF E [⟨20, ps_q112, rs_q112, q112 N⟩] N Tryz.f168 a_q115 ps_q115 rs_q115 = q115 N := by kernel_rfl
def a_q116 : Ann := .lf
theorem x_q116 (N : Nat) : execF E [⟨168, ps_q115, rs_q115, q115 N⟩, ⟨20, ps_q112, rs_q112, q112 N⟩] N Tryz.f118 a_q116 ps_q116 rs_q116 = q116 N := by kernel_rfl
def a_q117 : Ann := .lf
theorem x_q117 (N : Nat) : execF E [⟨118, ps_q116, rs_q116, q116 N⟩] N Tryz.f74 a_q117 ps_q117 rs_q117 = q117 N := by kernel_rfl
def a_q118 : Ann := (.sq .lf (.sq .lf (.jn ⟨[], [], [], []⟩ (.sq .lf (.lp ⟨[1, 2, 15, 16], [], [.s 17], [.v (.int .i64) []]⟩ .lf)) .lf)))
theorem x_q118 (N : Nat) : execF E [⟨74, ps_q117, rs_q117, q117 N⟩] N Tryz.f73 a_q118 ps_q118 rs_q118 = q118 N := by kernel_rfl
def a_q119 : Ann := (.sq .lf (.sq .lf (.jn ⟨[], [], [], []⟩ (.sq .lf (.lp ⟨[0, 1, 12], [], [.s 13], [.v (.int .i64) []]⟩ .lf)) .lf)))
theorem x_q119 (N : Nat) : execF E [] N Tryz.f75 a_q119 ps_q119 rs_q119 = q119 N := by kernel_rfl
end
end Go.Mo
end

section
/-
  The functions do what their models say. Printed by a program.
-/
namespace Go.Mo
open Go Go.W Go.Proofs
noncomputable section
set_option maxRecDepth 100000
def a_q120 : Ann := .lf
theorem x_q120 (N : Nat) : execF E [⟨71, ps_q113, rs_q113, q113 N⟩, ⟨72, ps_q114, rs_q114, q114 N⟩, ⟨73, ps_q118, rs_q118, q118 N⟩, ⟨74, ps_q117, rs_q117, q117 N⟩, ⟨75, ps_q119, rs_q119, q119 N⟩] N Tryz.f30 a_q120 ps_q120 rs_q120 = q120 N := by kernel_rfl
def a_l19_SubripTolerates : Ann := (.sq .lf (.sq .lf (.sq .lf (.sq .lf (.sq .lf (.sq .lf (.jn ⟨[2, 5], [2], [.s 7], [.v (.str) []]⟩ (.sq .lf (.lp ⟨[1, 2, 5, 28, 29], [22, 2], [.s 7, .s 8, .s 30], [.v (.str) [], .v (.bool) [], .v (.int .i64) []]⟩ (.sq .lf (.sq .lf (.sq (.sq .lf (.jn ⟨[1, 2, 5, 7, 8, 28, 29, 30], [22, 2], [.s 10], [.v (.str) []]⟩ .lf .lf)) .lf))))) .lf)))))))
theorem x_l19_SubripTolerates (N : Nat) : execF E [⟨13, ps_l19_awake, rs_l19_awake, l19_awake N⟩, ⟨24, ps_l19_few, rs_l19_few, l19_few N⟩, ⟨25, ps_q76, rs_q76, q76 N⟩, ⟨37, ps_q82, rs_q82, q82 N⟩, ⟨38, ps_strings_Index, rs_strings_Index, strings_Index N⟩, ⟨39, ps_strings_Replace, rs_strings_Replace, strings_Replace N⟩, ⟨28, ps_q110, rs_q110, q110 N⟩, ⟨30, ps_q120, rs_q120, q120 N⟩] N Tryz.f12 a_l19_SubripTolerates ps_l19_SubripTolerates rs_l19_SubripTolerates = l19_SubripTolerates N := by kernel_rfl
end
end Go.Mo
end

section
/-
  The functions do what their models say. Printed by a program.
-/
namespace Go.Mo
open Go Go.W Go.Proofs
noncomputable section
set_option maxRecDepth 100000
theorem k_utf8_ValidString (N : Nat) : ConOk E ⟨143, ps_utf8_ValidString, rs_utf8_ValidString, utf8_ValidString N⟩ := kh_utf8_ValidString N
theorem k_q11 (N : Nat) : ConOk E ⟨183, ps_q11, rs_q11, q11 N⟩ := conOf envOk (x_q11 N) trivial (show E.P.funcs[183]? = some Tryz.f183 from by kernel_rfl) (by kernel_rfl)
theorem k_q12 (N : Nat) : ConOk E ⟨144, ps_q12, rs_q12, q12 N⟩ := conOf envOk (x_q12 N) ⟨k_q11 N, trivial⟩ (show E.P.funcs[144]? = some Tryz.f144 from by kernel_rfl) (by kernel_rfl)
theorem k_q13 (N : Nat) : ConOk E ⟨89, ps_q13, rs_q13, q13 N⟩ := conOf envOk (x_q13 N) ⟨k_utf8_ValidString N, k_q12 N, trivial⟩ (show E.P.funcs[89]? = some Tryz.f89 from by kernel_rfl) (by kernel_rfl)
theorem k_q14 (N : Nat) : ConOk E ⟨119, ps_q14, rs_q14, q14 N⟩ := conOf envOk (x_q14 N) trivial (show E.P.funcs[119]? = some Tryz.f119 from by kernel_rfl) (by kernel_rfl)
theorem k_q15 (N : Nat) : ConOk E ⟨102, ps_q15, rs_q15, q15 N⟩ := conOf envOk (x_q15 N) trivial (show E.P.funcs[102]? = some Tryz.f102 from by kernel_rfl) (by kernel_rfl)
theorem k_q16 (N : Nat) : ConOk E ⟨61, ps_q16, rs_q16, q16 N⟩ := conOf envOk (x_q16 N) ⟨k_q15 N, trivial⟩ (show E.P.funcs[61]? = some Tryz.f61 from by kernel_rfl) (by kernel_rfl)
theorem k_q17 (N : Nat) : ConOk E ⟨62, ps_q17, rs_q17, q17 N⟩ := conOf envOk (x_q17 N) ⟨k_q15 N, trivial⟩ (show E.P.funcs[62]? = some Tryz.f62 from by kernel_rfl) (by kernel_rfl)
theorem k_q18 (N : Nat) : ConOk E ⟨120, ps_q18, rs_q18, q18 N⟩ := conOf envOk (x_q18 N) ⟨k_q16 N, k_q17 N, trivial⟩ (show E.P.funcs[120]? = some Tryz.f120 from by kernel_rfl) (by kernel_rfl)
theorem k_q19 (N : Nat) : ConOk E ⟨76, ps_q19, rs_q19, q19 N⟩ := conOf envOk (x_q19 N) ⟨k_q13 N, k_q14 N, k_q18 N, trivial⟩ (show E.P.funcs[76]? = some Tryz.f76 from by kernel_rfl) (by kernel_rfl)
theorem k_q20 (N : Nat) : ConOk E ⟨169, ps_q20, rs_q20, q20 N⟩ := conOf envOk (x_q20 N) trivial (show E.P.funcs[169]? = some Tryz.f169 from by kernel_rfl) (by kernel_rfl)
theorem k_q21 (N : Nat) : ConOk E ⟨121, ps_q21, rs_q21, q21 N⟩ := conOf envOk (x_q21 N) ⟨k_q14 N, k_q20 N, trivial⟩ (show E.P.funcs[121]? = some Tryz.f121 from by kernel_rfl) (by kernel_rfl)
theorem k_q22 (N : Nat) : ConOk E ⟨77, ps_q22, rs_q22, q22 N⟩ := conOf envOk (x_q22 N) ⟨k_q21 N, trivial⟩ (show E.P.funcs[77]? = some Tryz.f77 from by kernel_rfl) (by kernel_rfl)
theorem k_q23 (N : Nat) : ConOk E ⟨170, ps_q23, rs_q23, q23 N⟩ := conOf envOk (x_q23 N) trivial (show E.P.funcs[170]? = some Tryz.f170 from by kernel_rfl) (by kernel_rfl)
theorem k_q24 (N : Nat) : ConOk E ⟨122, ps_q24, rs_q24, q24 N⟩ := conOf envOk (x_q24 N) ⟨k_q23 N, trivial⟩ (show E.P.funcs[122]? = some Tryz.f122 from by kernel_rfl) (by kernel_rfl)
theorem k_q25 (N : Nat) : ConOk E ⟨123, ps_q25, rs_q25, q25 N⟩ := conOf envOk (x_q25 N) trivial (show E.P.funcs[123]? = some Tryz.f123 from by kernel_rfl) (by kernel_rfl)
theorem k_q26 (N : Nat) : ConOk E ⟨171, ps_q26, rs_q26, q26 N⟩ := conOf envOk (x_q26 N) trivial (show E.P.funcs[171]? = some Tryz.f171 from by kernel_rfl) (by kernel_rfl)
theorem k_q27 (N : Nat) : ConOk E ⟨124, ps_q27, rs_q27, q27 N⟩ := conOf envOk (x_q27 N) ⟨k_q26 N, trivial⟩ (show E.P.funcs[124]? = some Tryz.f124 from by kernel_rfl) (by kernel_rfl)
theorem k_q28 (N : Nat) : ConOk E ⟨90, ps_q28, rs_q28, q28 N⟩ := conOf envOk (x_q28 N) trivial (show E.P.funcs[90]? = some Tryz.f90 from by kernel_rfl) (by kernel_rfl)
theorem k_q29 (N : Nat) : ConOk E ⟨91, ps_q29, rs_q29, q29 N⟩ := conOf envOk (x_q29 N) trivial (show E.P.funcs[91]? = some Tryz.f91 from by kernel_rfl) (by kernel_rfl)
theorem k_q30 (N : Nat) : ConOk E ⟨46, ps_q30, rs_q30, q30 N⟩ := conOf envOk (x_q30 N) ⟨k_q13 N, k_q28 N, k_q29 N, trivial⟩ (show E.P.funcs[46]? = some Tryz.f46 from by kernel_rfl) (by kernel_rfl)
theorem k_strings_Builder_copyCheck (N : Nat) : ConOk E ⟨93, ps_strings_Builder_copyCheck, rs_strings_Builder_copyCheck, strings_Builder_copyCheck N⟩ := kh_strings_Builder_copyCheck N
theorem k_q31 (N : Nat) : ConOk E ⟨49, ps_q31, rs_q31, q31 N⟩ := conOf envOk (x_q31 N) ⟨k_strings_Builder_copyCheck N, trivial⟩ (show E.P.funcs[49]? = some Tryz.f49 from by kernel_rfl) (by kernel_rfl)
theorem k_q32 (N : Nat) : ConOk E ⟨40, ps_q32, rs_q32, q32 N⟩ := conOf envOk (x_q32 N) ⟨k_q31 N, trivial⟩ (show E.P.funcs[40]? = some Tryz.f40 from by kernel_rfl) (by kernel_rfl)
theorem k_strings_Contains (N : Nat) : ConOk E ⟨172, ps_strings_Contains, rs_strings_Contains, strings_Contains N⟩ := kh_strings_Contains N
theorem k_q33 (N : Nat) : ConOk E ⟨138, ps_q33, rs_q33, q33 N⟩ := conOf envOk (x_q33 N) trivial (show E.P.funcs[138]? = some Tryz.f138 from by kernel_rfl) (by kernel_rfl)
theorem k_q34 (N : Nat) : ConOk E ⟨201, ps_q34, rs_q34, q34 N⟩ := conOf envOk (x_q34 N) ⟨k_q13 N, k_q33 N, trivial⟩ (show E.P.funcs[201]? = some Tryz.f201 from by kernel_rfl) (by kernel_rfl)
theorem k_q35 (N : Nat) : ConOk E ⟨173, ps_q35, rs_q35, q35 N⟩ := conOf envOk (x_q35 N) ⟨k_q34 N, trivial⟩ (show E.P.funcs[173]? = some Tryz.f173 from by kernel_rfl) (by kernel_rfl)
theorem k_q36 (N : Nat) : ConOk E ⟨125, ps_q36, rs_q36, q36 N⟩ := conOf envOk (x_q36 N) ⟨k_q30 N, k_q32 N, k_strings_Contains N, k_q35 N, trivial⟩ (show E.P.funcs[125]? = some Tryz.f125 from by kernel_rfl) (by kernel_rfl)
theorem k_q37 (N : Nat) : ConOk E ⟨127, ps_q37, rs_q37, q37 N⟩ := conOf envOk (x_q37 N) ⟨k_q35 N, trivial⟩ (show E.P.funcs[127]? = some Tryz.f127 from by kernel_rfl) (by kernel_rfl)
theorem k_q38 (N : Nat) : ConOk E ⟨174, ps_q38, rs_q38, q38 N⟩ := conOf envOk (x_q38 N) ⟨k_q23 N, k_q21 N, trivial⟩ (show E.P.funcs[174]? = some Tryz.f174 from by kernel_rfl) (by kernel_rfl)
theorem k_q39 (N : Nat) : ConOk E ⟨126, ps_q39, rs_q39, q39 N⟩ := conOf envOk (x_q39 N) ⟨k_q38 N, trivial⟩ (show E.P.funcs[126]? = some Tryz.f126 from by kernel_rfl) (by kernel_rfl)
theorem k_q40 (N : Nat) : ConOk E ⟨78, ps_q40, rs_q40, q40 N⟩ := conOf envOk (x_q40 N) ⟨k_q24 N, k_q25 N, k_q27 N, k_q14 N, k_q36 N, k_q37 N, k_q39 N, trivial⟩ (show E.P.funcs[78]? = some Tryz.f78 from by kernel_rfl) (by kernel_rfl)
theorem k_q41 (N : Nat) : ConOk E ⟨158, ps_q41, rs_q41, q41 N⟩ := conOf envOk (x_q41 N) trivial (show E.P.funcs[158]? = some Tryz.f158 from by kernel_rfl) (by kernel_rfl)
theorem k_q42 (N : Nat) : ConOk E ⟨112, ps_q42, rs_q42, q42 N⟩ := conOf envOk (x_q42 N) ⟨k_q41 N, trivial⟩ (show E.P.funcs[112]? = some Tryz.f112 from by kernel_rfl) (by kernel_rfl)
theorem k_q43 (N : Nat) : ConOk E ⟨111, ps_q43, rs_q43, q43 N⟩ := conOf envOk (x_q43 N) trivial (show E.P.funcs[111]? = some Tryz.f111 from by kernel_rfl) (by kernel_rfl)
theorem k_q44 (N : Nat) : ConOk E ⟨79, ps_q44, rs_q44, q44 N⟩ := conOf envOk (x_q44 N) ⟨k_q42 N, k_q43 N, trivial⟩ (show E.P.funcs[79]? = some Tryz.f79 from by kernel_rfl) (by kernel_rfl)
theorem k_q45 (N : Nat) : ConOk E ⟨175, ps_q45, rs_q45, q45 N⟩ := conOf envOk (x_q45 N) ⟨k_q37 N, trivial⟩ (show E.P.funcs[175]? = some Tryz.f175 from by kernel_rfl) (by kernel_rfl)
theorem k_q46 (N : Nat) : ConOk E ⟨128, ps_q46, rs_q46, q46 N⟩ := conOf envOk (x_q46 N) ⟨k_q45 N, trivial⟩ (show E.P.funcs[128]? = some Tryz.f128 from by kernel_rfl) (by kernel_rfl)
theorem k_q47 (N : Nat) : ConOk E ⟨80, ps_q47, rs_q47, q47 N⟩ := conOf envOk (x_q47 N) ⟨k_q46 N, k_q14 N, k_q13 N, trivial⟩ (show E.P.funcs[80]? = some Tryz.f80 from by kernel_rfl) (by kernel_rfl)
theorem k_q48 (N : Nat) : ConOk E ⟨32, ps_q48, rs_q48, q48 N⟩ := conOf envOk (x_q48 N) ⟨k_q19 N, k_q22 N, k_q40 N, k_q44 N, k_q47 N, trivial⟩ (show E.P.funcs[32]? = some Tryz.f32 from by kernel_rfl) (by kernel_rfl)
theorem k_q49 (N : Nat) : ConOk E ⟨192, ps_q49, rs_q49, q49 N⟩ := conOf envOk (x_q49 N) ⟨k_q15 N, trivial⟩ (show E.P.funcs[192]? = some Tryz.f192 from by kernel_rfl) (by kernel_rfl)
theorem k_q50 (N : Nat) : ConOk E ⟨187, ps_q50, rs_q50, q50 N⟩ := conOf envOk (x_q50 N) ⟨k_q16 N, k_q49 N, trivial⟩ (show E.P.funcs[187]? = some Tryz.f187 from by kernel_rfl) (by kernel_rfl)
theorem k_q51 (N : Nat) : ConOk E ⟨206, ps_q51, rs_q51, q51 N⟩ := conOf envOk (x_q51 N) trivial (show E.P.funcs[206]? = some Tryz.f206 from by kernel_rfl) (by kernel_rfl)
theorem k_q52 (N : Nat) : ConOk E ⟨207, ps_q52, rs_q52, q52 N⟩ := conOf envOk (x_q52 N) trivial (show E.P.funcs[207]? = some Tryz.f207 from by kernel_rfl) (by kernel_rfl)
theorem k_q53 (N : Nat) : ConOk E ⟨208, ps_q53, rs_q53, q53 N⟩ := conOf envOk (x_q53 N) trivial (show E.P.funcs[208]? = some Tryz.f208 from by kernel_rfl) (by kernel_rfl)
theorem k_q54 (N : Nat) : ConOk E ⟨188, ps_q54, rs_q54, q54 N⟩ := conOf envOk (x_q54 N) ⟨k_q51 N, k_q52 N, k_q53 N, trivial⟩ (show E.P.funcs[188]? = some Tryz.f188 from by kernel_rfl) (by kernel_rfl)
theorem k_q55 (N : Nat) : ConOk E ⟨151, ps_q55, rs_q55, q55 N⟩ := conOf envOk (x_q55 N) ⟨k_q50 N, k_q54 N, trivial⟩ (show E.P.funcs[151]? = some Tryz.f151 from by kernel_rfl) (by kernel_rfl)
theorem k_istrconv_FormatInt (N : Nat) : ConOk E ⟨181, ps_istrconv_FormatInt, rs_istrconv_FormatInt, istrconv_FormatInt N⟩ := kh_istrconv_FormatInt N
theorem k_q56 (N : Nat) : ConOk E ⟨142, ps_q56, rs_q56, q56 N⟩ := conOf envOk (x_q56 N) ⟨k_istrconv_FormatInt N, trivial⟩ (show E.P.funcs[142]? = some Tryz.f142 from by kernel_rfl) (by kernel_rfl)
theorem k_q57 (N : Nat) : ConOk E ⟨88, ps_q57, rs_q57, q57 N⟩ := conOf envOk (x_q57 N) ⟨k_q56 N, trivial⟩ (show E.P.funcs[88]? = some Tryz.f88 from by kernel_rfl) (by kernel_rfl)
theorem k_q58 (N : Nat) : ConOk E ⟨41, ps_q58, rs_q58, q58 N⟩ := conOf envOk (x_q58 N) ⟨k_q57 N, trivial⟩ (show E.P.funcs[41]? = some Tryz.f41 from by kernel_rfl) (by kernel_rfl)
theorem k_q59 (N : Nat) : ConOk E ⟨14, ps_q59, rs_q59, q59 N⟩ := conOf envOk (x_q59 N) ⟨k_q58 N, trivial⟩ (show E.P.funcs[14]? = some Tryz.f14 from by kernel_rfl) (by kernel_rfl)
theorem k_bytealg_IndexByteString (N : Nat) : ConOk E ⟨178, ps_bytealg_IndexByteString, rs_bytealg_IndexByteString, bytealg_IndexByteString N⟩ := kh_bytealg_IndexByteString N
theorem k_q60 (N : Nat) : ConOk E ⟨134, ps_q60, rs_q60, q60 N⟩ := conOf envOk (x_q60 N) ⟨k_bytealg_IndexByteString N, trivial⟩ (show E.P.funcs[134]? = some Tryz.f134 from by kernel_rfl) (by kernel_rfl)
theorem k_q61 (N : Nat) : ConOk E ⟨184, ps_q61, rs_q61, q61 N⟩ := conOf envOk (x_q61 N) ⟨k_q60 N, trivial⟩ (show E.P.funcs[184]? = some Tryz.f184 from by kernel_rfl) (by kernel_rfl)
theorem k_q62 (N : Nat) : ConOk E ⟨185, ps_q62, rs_q62, q62 N⟩ := conOf envOk (x_q62 N) trivial (show E.P.funcs[185]? = some Tryz.f185 from by kernel_rfl) (by kernel_rfl)
theorem k_q63 (N : Nat) : ConOk E ⟨136, ps_q63, rs_q63, q63 N⟩ := conOf envOk (x_q63 N) trivial (show E.P.funcs[136]? = some Tryz.f136 from by kernel_rfl) (by kernel_rfl)
theorem k_q64 (N : Nat) : ConOk E ⟨145, ps_q64, rs_q64, q64 N⟩ := conOf envOk (x_q64 N) ⟨k_q61 N, k_q62 N, k_q63 N, trivial⟩ (show E.P.funcs[145]? = some Tryz.f145 from by kernel_rfl) (by kernel_rfl)
theorem k_q65 (N : Nat) : ConOk E ⟨146, ps_q65, rs_q65, q65 N⟩ := conOf envOk (x_q65 N) trivial (show E.P.funcs[146]? = some Tryz.f146 from by kernel_rfl) (by kernel_rfl)
theorem k_q66 (N : Nat) : ConOk E ⟨92, ps_q67, rs_q67, q66 N⟩ := conOf envOk (x_q67 N) ⟨k_q64 N, k_q65 N, trivial⟩ (show E.P.funcs[92]? = some Tryz.f92 from by kernel_rfl) (by kernel_rfl)
theorem k_q67 (N : Nat) : ConOk E ⟨92, ps_q67, rs_q67, q67 N⟩ := con_or (ps := ps_q67) (rs := rs_q67) (b := longAny) (g1 := fun x : List UInt8 × List UInt8 => some (Lib.indexAny x.1 x.2)) (g2 := q66 N) khl_IndexAny (k_q66 N)
theorem k_q68 (N : Nat) : ConOk E ⟨47, ps_q68, rs_q68, q68 N⟩ := conOf envOk (x_q68 N) ⟨k_q67 N, trivial⟩ (show E.P.funcs[47]? = some Tryz.f47 from by kernel_rfl) (by kernel_rfl)
theorem k_q69 (N : Nat) : ConOk E ⟨58, ps_q69, rs_q69, q69 N⟩ := conOf envOk (x_q69 N) ⟨k_q29 N, trivial⟩ (show E.P.funcs[58]? = some Tryz.f58 from by kernel_rfl) (by kernel_rfl)
theorem k_q70 (N : Nat) : ConOk E ⟨23, ps_q70, rs_q70, q70 N⟩ := conOf envOk (x_q70 N) ⟨k_q69 N, trivial⟩ (show E.P.funcs[23]? = some Tryz.f23 from by kernel_rfl) (by kernel_rfl)
theorem k_q71 (N : Nat) : ConOk E ⟨48, ps_q71, rs_q71, q71 N⟩ := conOf envOk (x_q71 N) ⟨k_q70 N, trivial⟩ (show E.P.funcs[48]? = some Tryz.f48 from by kernel_rfl) (by kernel_rfl)
theorem k_q72 (N : Nat) : ConOk E ⟨18, ps_q72, rs_q72, q72 N⟩ := conOf envOk (x_q72 N) ⟨k_q30 N, k_q32 N, k_q68 N, k_q71 N, k_q31 N, trivial⟩ (show E.P.funcs[18]? = some Tryz.f18 from by kernel_rfl) (by kernel_rfl)
theorem k_q73 (N : Nat) : ConOk E ⟨98, ps_q73, rs_q73, q73 N⟩ := conOf envOk (x_q73 N) ⟨k_q55 N, k_q59 N, k_q57 N, k_q72 N, trivial⟩ (show E.P.funcs[98]? = some Tryz.f98 from by kernel_rfl) (by kernel_rfl)
theorem k_q74 (N : Nat) : ConOk E ⟨99, ps_q74, rs_q74, q74 N⟩ := conOf envOk (x_q74 N) trivial (show E.P.funcs[99]? = some Tryz.f99 from by kernel_rfl) (by kernel_rfl)
theorem k_q75 (N : Nat) : ConOk E ⟨59, ps_q75, rs_q75, q75 N⟩ := conOf envOk (x_q75 N) ⟨k_q48 N, k_q73 N, k_q31 N, k_q74 N, trivial⟩ (show E.P.funcs[59]? = some Tryz.f59 from by kernel_rfl) (by kernel_rfl)
theorem k_q76 (N : Nat) : ConOk E ⟨25, ps_q76, rs_q76, q76 N⟩ := conOf envOk (x_q76 N) ⟨k_q75 N, trivial⟩ (show E.P.funcs[25]? = some Tryz.f25 from by kernel_rfl) (by kernel_rfl)
theorem k_q77 (N : Nat) : ConOk E ⟨141, ps_q77, rs_q77, q77 N⟩ := conOf envOk (x_q77 N) trivial (show E.P.funcs[141]? = some Tryz.f141 from by kernel_rfl) (by kernel_rfl)
theorem k_q78 (N : Nat) : ConOk E ⟨87, ps_q78, rs_q78, q78 N⟩ := conOf envOk (x_q78 N) ⟨k_q77 N, trivial⟩ (show E.P.funcs[87]? = some Tryz.f87 from by kernel_rfl) (by kernel_rfl)
theorem k_q79 (N : Nat) : ConOk E ⟨133, ps_q79, rs_q79, q79 N⟩ := conOf envOk (x_q79 N) ⟨k_q33 N, k_q78 N, trivial⟩ (show E.P.funcs[133]? = some Tryz.f133 from by kernel_rfl) (by kernel_rfl)
theorem k_bytealg_CountString (N : Nat) : ConOk E ⟨139, ps_bytealg_CountString, rs_bytealg_CountString, bytealg_CountString N⟩ := kh_bytealg_CountString N
theorem k_strings_Index (N : Nat) : ConOk E ⟨38, ps_strings_Index, rs_strings_Index, strings_Index N⟩ := kh_strings_Index N
theorem k_q80 (N : Nat) : ConOk E ⟨85, ps_q80, rs_q80, q80 N⟩ := conOf envOk (x_q80 N) ⟨k_q33 N, k_bytealg_CountString N, k_strings_Index N, trivial⟩ (show E.P.funcs[85]? = some Tryz.f85 from by kernel_rfl) (by kernel_rfl)
theorem k_q81 (N : Nat) : ConOk E ⟨83, ps_q81, rs_q81, q81 N⟩ := conOf envOk (x_q81 N) ⟨k_q79 N, k_q80 N, k_strings_Index N, trivial⟩ (show E.P.funcs[83]? = some Tryz.f83 from by kernel_rfl) (by kernel_rfl)
theorem k_q82 (N : Nat) : ConOk E ⟨37, ps_q82, rs_q82, q82 N⟩ := conOf envOk (x_q82 N) ⟨k_q81 N, trivial⟩ (show E.P.funcs[37]? = some Tryz.f37 from by kernel_rfl) (by kernel_rfl)
theorem k_q83 (N : Nat) : ConOk E ⟨154, ps_q83, rs_q83, q83 N⟩ := conOf envOk (x_q83 N) trivial (show E.P.funcs[154]? = some Tryz.f154 from by kernel_rfl) (by kernel_rfl)
theorem k_q84 (N : Nat) : ConOk E ⟨103, ps_q84, rs_q84, q84 N⟩ := conOf envOk (x_q84 N) ⟨k_q83 N, trivial⟩ (show E.P.funcs[103]? = some Tryz.f103 from by kernel_rfl) (by kernel_rfl)
theorem k_q85 (N : Nat) : ConOk E ⟨63, ps_q85, rs_q85, q85 N⟩ := conOf envOk (x_q85 N) ⟨k_q84 N, trivial⟩ (show E.P.funcs[63]? = some Tryz.f63 from by kernel_rfl) (by kernel_rfl)
theorem k_q86 (N : Nat) : ConOk E ⟨43, ps_q86, rs_q86, q86 N⟩ := conOf envOk (x_q86 N) trivial (show E.P.funcs[43]? = some Tryz.f43 from by kernel_rfl) (by kernel_rfl)
theorem k_q87 (N : Nat) : ConOk E ⟨104, ps_q87, rs_q87, q87 N⟩ := conOf envOk (x_q87 N) ⟨k_q86 N, trivial⟩ (show E.P.funcs[104]? = some Tryz.f104 from by kernel_rfl) (by kernel_rfl)
theorem k_q88 (N : Nat) : ConOk E ⟨105, ps_q88, rs_q88, q88 N⟩ := conOf envOk (x_q88 N) trivial (show E.P.funcs[105]? = some Tryz.f105 from by kernel_rfl) (by kernel_rfl)
theorem k_q89 (N : Nat) : ConOk E ⟨16, ps_q89, rs_q89, q89 N⟩ := conOf envOk (x_q89 N) ⟨k_q86 N, trivial⟩ (show E.P.funcs[16]? = some Tryz.f16 from by kernel_rfl) (by kernel_rfl)
theorem k_q90 (N : Nat) : ConOk E ⟨106, ps_q90, rs_q90, q90 N⟩ := conOf envOk (x_q90 N) ⟨k_q89 N, trivial⟩ (show E.P.funcs[106]? = some Tryz.f106 from by kernel_rfl) (by kernel_rfl)
theorem k_q91 (N : Nat) : ConOk E ⟨155, ps_q91, rs_q91, q91 N⟩ := conOf envOk (x_q91 N) ⟨k_q16 N, k_q49 N, k_q54 N, trivial⟩ (show E.P.funcs[155]? = some Tryz.f155 from by kernel_rfl) (by kernel_rfl)
theorem k_q92 (N : Nat) : ConOk E ⟨107, ps_q92, rs_q92, q92 N⟩ := conOf envOk (x_q92 N) ⟨k_q16 N, k_q91 N, trivial⟩ (show E.P.funcs[107]? = some Tryz.f107 from by kernel_rfl) (by kernel_rfl)
theorem k_q93 (N : Nat) : ConOk E ⟨54, ps_q93, rs_q93, q93 N⟩ := conOf envOk (x_q93 N) trivial (show E.P.funcs[54]? = some Tryz.f54 from by kernel_rfl) (by kernel_rfl)
theorem k_q94 (N : Nat) : ConOk E ⟨96, ps_q94, rs_q94, q94 N⟩ := conOf envOk (x_q94 N) trivial (show E.P.funcs[96]? = some Tryz.f96 from by kernel_rfl) (by kernel_rfl)
theorem k_q95 (N : Nat) : ConOk E ⟨55, ps_q95, rs_q95, q95 N⟩ := conOf envOk (x_q95 N) ⟨k_q94 N, trivial⟩ (show E.P.funcs[55]? = some Tryz.f55 from by kernel_rfl) (by kernel_rfl)
theorem k_q96 (N : Nat) : ConOk E ⟨21, ps_q96, rs_q96, q96 N⟩ := conOf envOk (x_q96 N) ⟨k_q93 N, k_q95 N, k_q70 N, trivial⟩ (show E.P.funcs[21]? = some Tryz.f21 from by kernel_rfl) (by kernel_rfl)
theorem k_q97 (N : Nat) : ConOk E ⟨64, ps_q97, rs_q97, q97 N⟩ := conOf envOk (x_q97 N) ⟨k_q87 N, k_q88 N, k_q90 N, k_q92 N, k_q96 N, k_q40 N, trivial⟩ (show E.P.funcs[64]? = some Tryz.f64 from by kernel_rfl) (by kernel_rfl)
theorem k_q98 (N : Nat) : ConOk E ⟨193, ps_q98, rs_q98, q98 N⟩ := conOf envOk (x_q98 N) trivial (show E.P.funcs[193]? = some Tryz.f193 from by kernel_rfl) (by kernel_rfl)
theorem k_q99 (N : Nat) : ConOk E ⟨194, ps_q99, rs_q99, q99 N⟩ := conOf envOk (x_q99 N) trivial (show E.P.funcs[194]? = some Tryz.f194 from by kernel_rfl) (by kernel_rfl)
theorem k_q100 (N : Nat) : ConOk E ⟨156, ps_q100, rs_q100, q100 N⟩ := conOf envOk (x_q100 N) ⟨k_q98 N, k_q99 N, trivial⟩ (show E.P.funcs[156]? = some Tryz.f156 from by kernel_rfl) (by kernel_rfl)
theorem k_q101 (N : Nat) : ConOk E ⟨108, ps_q101, rs_q101, q101 N⟩ := conOf envOk (x_q101 N) ⟨k_q100 N, trivial⟩ (show E.P.funcs[108]? = some Tryz.f108 from by kernel_rfl) (by kernel_rfl)
theorem k_q102 (N : Nat) : ConOk E ⟨110, ps_q102, rs_q102, q102 N⟩ := conOf envOk (x_q102 N) ⟨k_q42 N, k_q43 N, trivial⟩ (show E.P.funcs[110]? = some Tryz.f110 from by kernel_rfl) (by kernel_rfl)
theorem k_q103 (N : Nat) : ConOk E ⟨195, ps_q103, rs_q103, q103 N⟩ := conOf envOk (x_q103 N) ⟨k_q102 N, trivial⟩ (show E.P.funcs[195]? = some Tryz.f195 from by kernel_rfl) (by kernel_rfl)
theorem k_q104 (N : Nat) : ConOk E ⟨216, ps_q104, rs_q104, q104 N⟩ := conOf envOk (x_q104 N) ⟨k_q102 N, trivial⟩ (show E.P.funcs[216]? = some Tryz.f216 from by kernel_rfl) (by kernel_rfl)
theorem k_q105 (N : Nat) : ConOk E ⟨209, ps_q105, rs_q105, q105 N⟩ := conOf envOk (x_q105 N) ⟨k_q102 N, k_q104 N, trivial⟩ (show E.P.funcs[209]? = some Tryz.f209 from by kernel_rfl) (by kernel_rfl)
theorem kr_q106 (N : Nat) : ∀ D, ConOk E ⟨196, ps_q106, rs_q106, q106_r N D⟩
 | 0 => fun _ _ h => by cases h
 | D + 1 => by
  have hc : CallsOk E [⟨110, ps_q102, rs_q102, q102 N⟩, ⟨209, ps_q105, rs_q105, q105 N⟩, ⟨196, ps_q106, rs_q106, q106_r N D⟩] := callsOk_all ⟨k_q102 N, k_q105 N, kr_q106 N D, trivial⟩
  rw [← x_q106 N D]
  exact execF_ok envOk hc (drawn_ok envOk hc) (show E.P.funcs[196]? = some Tryz.f196 from by kernel_rfl) (by kernel_rfl) _ _ _
theorem k_q106 (N : Nat) : ConOk E ⟨196, ps_q106, rs_q106, q106 N⟩ := kr_q106 N N
theorem k_q107 (N : Nat) : ConOk E ⟨157, ps_q107, rs_q107, q107 N⟩ := conOf envOk (x_q107 N) ⟨k_q102 N, k_q103 N, k_q106 N, trivial⟩ (show E.P.funcs[157]? = some Tryz.f157 from by kernel_rfl) (by kernel_rfl)
theorem k_q108 (N : Nat) : ConOk E ⟨109, ps_q108, rs_q108, q108 N⟩ := conOf envOk (x_q108 N) ⟨k_q102 N, k_q107 N, trivial⟩ (show E.P.funcs[109]? = some Tryz.f109 from by kernel_rfl) (by kernel_rfl)
theorem k_q109 (N : Nat) : ConOk E ⟨65, ps_q109, rs_q109, q109 N⟩ := conOf envOk (x_q109 N) ⟨k_q101 N, k_q108 N, k_q102 N, trivial⟩ (show E.P.funcs[65]? = some Tryz.f65 from by kernel_rfl) (by kernel_rfl)
theorem k_q110 (N : Nat) : ConOk E ⟨28, ps_q110, rs_q110, q110 N⟩ := conOf envOk (x_q110 N) ⟨k_q16 N, k_q17 N, k_q82 N, k_q85 N, k_q97 N, k_q109 N, trivial⟩ (show E.P.funcs[28]? = some Tryz.f28 from by kernel_rfl) (by kernel_rfl)
theorem k_q111 (N : Nat) : ConOk E ⟨53, ps_q111, rs_q111, q111 N⟩ := conOf envOk (x_q111 N) trivial (show E.P.funcs[53]? = some Tryz.f53 from by kernel_rfl) (by kernel_rfl)
theorem k_q112 (N : Nat) : ConOk E ⟨20, ps_q112, rs_q112, q112 N⟩ := conOf envOk (x_q112 N) ⟨k_q111 N, trivial⟩ (show E.P.funcs[20]? = some Tryz.f20 from by kernel_rfl) (by kernel_rfl)
theorem k_l19_awake (N : Nat) : ConOk E ⟨13, ps_l19_awake, rs_l19_awake, l19_awake N⟩ := conOf envOk (x_l19_awake N) ⟨k_q76 N, k_q59 N, k_q110 N, k_q32 N, k_q96 N, k_q112 N, trivial⟩ (show E.P.funcs[13]? = some Tryz.f13 from by kernel_rfl) (by kernel_rfl)
theorem k_l19_few (N : Nat) : ConOk E ⟨24, ps_l19_few, rs_l19_few, l19_few N⟩ := conOf envOk (x_l19_few N) trivial (show E.P.funcs[24]? = some Tryz.f24 from by kernel_rfl) (by kernel_rfl)
theorem k_strings_Replace (N : Nat) : ConOk E ⟨39, ps_strings_Replace, rs_strings_Replace, strings_Replace N⟩ := kh_strings_Replace N
theorem k_q113 (N : Nat) : ConOk E ⟨71, ps_q113, rs_q113, q113 N⟩ := conOf envOk (x_q113 N) trivial (show E.P.funcs[71]? = some Tryz.f71 from by kernel_rfl) (by kernel_rfl)
theorem k_q114 (N : Nat) : ConOk E ⟨72, ps_q114, rs_q114, q114 N⟩ := conOf envOk (x_q114 N) trivial (show E.P.funcs[72]? = some Tryz.f72 from by kernel_rfl) (by kernel_rfl)
theorem k_q115 (N : Nat) : ConOk E ⟨168, ps_q115, rs_q115, q115 N⟩ := conOf envOk (x_q115 N) ⟨k_q112 N, trivial⟩ (show E.P.funcs[168]? = some Tryz.f168 from by kernel_rfl) (by kernel_rfl)
theorem k_q116 (N : Nat) : ConOk E ⟨118, ps_q116, rs_q116, q116 N⟩ := conOf envOk (x_q116 N) ⟨k_q115 N, k_q112 N, trivial⟩ (show E.P.funcs[118]? = some Tryz.f118 from by kernel_rfl) (by kernel_rfl)
theorem k_q117 (N : Nat) : ConOk E ⟨74, ps_q117, rs_q117, q117 N⟩ := conOf envOk (x_q117 N) ⟨k_q116 N, trivial⟩ (show E.P.funcs[74]? = some Tryz.f74 from by kernel_rfl) (by kernel_rfl)
theorem k_q118 (N : Nat) : ConOk E ⟨73, ps_q118, rs_q118, q118 N⟩ := conOf envOk (x_q118 N) ⟨k_q117 N, trivial⟩ (show E.P.funcs[73]? = some Tryz.f73 from by kernel_rfl) (by kernel_rfl)
theorem k_q119 (N : Nat) : ConOk E ⟨75, ps_q119, rs_q119, q119 N⟩ := conOf envOk (x_q119 N) trivial (show E.P.funcs[75]? = some Tryz.f75 from by kernel_rfl) (by kernel_rfl)
theorem k_q120 (N : Nat) : ConOk E ⟨30, ps_q120, rs_q120, q120 N⟩ := conOf envOk (x_q120 N) ⟨k_q113 N, k_q114 N, k_q118 N, k_q117 N, k_q119 N, trivial⟩ (show E.P.funcs[30]? = some Tryz.f30 from by kernel_rfl) (by kernel_rfl)
theorem k_l19_SubripTolerates (N : Nat) : ConOk E ⟨12, ps_l19_SubripTolerates, rs_l19_SubripTolerates, l19_SubripTolerates N⟩ := conOf envOk (x_l19_SubripTolerates N) ⟨k_l19_awake N, k_l19_few N, k_q76 N, k_q82 N, k_strings_Index N, k_strings_Replace N, k_q110 N, k_q120 N, trivial⟩ (show E.P.funcs[12]? = some Tryz.f12 from by kernel_rfl) (by kernel_rfl)
end
end Go.Mo
end
