/-
  Texts put together, in build order: WE WM WB WV WS WH WXa WXb WK.
-/
import Derived.Test.YtmhoognbjmdddaaGreatDoorZC
import Derived.Test.YtmhoognbjmdddaaGreatDoorProg
import Derived.KernelRfl
import GoSem.PinnedTables
import Derived.Test.YtmhoognbjmdddaaGreatDoorChecked
import Derived.Lib.UnsafeStr
import Derived.Lib.Builder
import Derived.Lib.Walk
import Derived.WalkKit
import Derived.Laws.Externs
import Derived.OrdersHeld
import Derived.Shelf.Unicode.ValidAny
import Derived.Shelf.Strings.Search3
import Derived.Shelf.Strconv.Itoa3
import Derived.Lib.AppendIntMem
import Derived.Shelf.Strings.IndexAnyAll
set_option linter.all false

section
/-
  The table of types of this program, as the machine on plain values sees them, and the package variables that are known.
-/
namespace Go.Mo
open Go Go.W Go.Proofs
noncomputable section
def tt : List (Option Ty) := [none,
  none,
  some (.int .i64),
  some (.int .i64),
  some (.bool),
  some (.u8),
  none,
  none,
  none,
  some (.str),
  none,
  none,
  some (.int .u64),
  none,
  none,
  some (.nptr),
  some (.nptr),
  some (.nptr),
  none,
  none,
  some (.nif),
  some (.int .i32),
  none,
  some (.int .i64),
  none,
  none,
  none,
  none,
  none,
  some (.slice (.st (.pair (.str) (.pair (.st (.pair (.u8) (.pair (.bool) (.bool)))) (.str))))),
  some (.st (.slice (.st (.pair (.str) (.pair (.st (.pair (.u8) (.pair (.bool) (.bool)))) (.str)))))),
  some (.st (.slice (.st (.pair (.str) (.pair (.st (.pair (.u8) (.pair (.bool) (.bool)))) (.str)))))),
  none,
  none,
  none,
  none,
  some (.u8),
  some (.st (.pair (.u8) (.pair (.bool) (.bool)))),
  some (.st (.pair (.u8) (.pair (.bool) (.bool)))),
  some (.st (.pair (.str) (.pair (.st (.pair (.u8) (.pair (.bool) (.bool)))) (.str)))),
  some (.st (.pair (.str) (.pair (.st (.pair (.u8) (.pair (.bool) (.bool)))) (.str)))),
  none,
  none,
  some (.u8),
  some (.slice (.st (.pair (.str) (.pair (.int .i64) (.pair (.int .i64) (.pair (.int .i64) (.pair (.int .i64) (.pair (.u8) (.bool))))))))),
  some (.slice (.st (.pair (.int .i64) (.pair (.st (.pair (.int .i64) (.int .i64))) (.pair (.str) (.pair (.u8) (.pair (.str) (.slice (.st (.slice (.st (.pair (.str) (.pair (.st (.pair (.u8) (.pair (.bool) (.bool)))) (.str)))))))))))))),
  some (.slice (.st (.pair (.int .i64) (.pair (.int .i64) (.pair (.int .i64) (.pair (.int .i64) (.pair (.str) (.pair (.str) (.pair (.bool) (.bool)))))))))),
  some (.st (.pair (.str) (.pair (.str) (.pair (.u8) (.pair (.bool) (.pair (.int .i64) (.pair (.slice (.st (.pair (.str) (.pair (.int .i64) (.pair (.int .i64) (.pair (.int .i64) (.pair (.int .i64) (.pair (.u8) (.bool))))))))) (.pair (.slice (.st (.pair (.int .i64) (.pair (.st (.pair (.int .i64) (.int .i64))) (.pair (.str) (.pair (.u8) (.pair (.str) (.slice (.st (.slice (.st (.pair (.str) (.pair (.st (.pair (.u8) (.pair (.bool) (.bool)))) (.str)))))))))))))) (.slice (.st (.pair (.int .i64) (.pair (.int .i64) (.pair (.int .i64) (.pair (.int .i64) (.pair (.str) (.pair (.str) (.pair (.bool) (.bool)))))))))))))))))),
  some (.st (.pair (.str) (.pair (.str) (.pair (.u8) (.pair (.bool) (.pair (.int .i64) (.pair (.slice (.st (.pair (.str) (.pair (.int .i64) (.pair (.int .i64) (.pair (.int .i64) (.pair (.int .i64) (.pair (.u8) (.bool))))))))) (.pair (.slice (.st (.pair (.int .i64) (.pair (.st (.pair (.int .i64) (.int .i64))) (.pair (.str) (.pair (.u8) (.pair (.str) (.slice (.st (.slice (.st (.pair (.str) (.pair (.st (.pair (.u8) (.pair (.bool) (.bool)))) (.str)))))))))))))) (.slice (.st (.pair (.int .i64) (.pair (.int .i64) (.pair (.int .i64) (.pair (.int .i64) (.pair (.str) (.pair (.str) (.pair (.bool) (.bool)))))))))))))))))),
  none,
  none,
  none,
  none,
  some (.slice (.st (.pair (.int .i64) (.pair (.int .i64) (.int .i64))))),
  none,
  none,
  none,
  none,
  some (.st (.pair (.int .i64) (.pair (.int .i64) (.int .i64)))),
  some (.st (.pair (.int .i64) (.pair (.int .i64) (.int .i64)))),
  none,
  none,
  none,
  none,
  some (.slice (.str)),
  none,
  none,
  none,
  none,
  some (.st (.pair (.int .i64) (.int .i64))),
  some (.st (.pair (.int .i64) (.int .i64))),
  some (.u8),
  some (.slice (.st (.slice (.st (.pair (.str) (.pair (.st (.pair (.u8) (.pair (.bool) (.bool)))) (.str))))))),
  some (.st (.pair (.int .i64) (.pair (.st (.pair (.int .i64) (.int .i64))) (.pair (.str) (.pair (.u8) (.pair (.str) (.slice (.st (.slice (.st (.pair (.str) (.pair (.st (.pair (.u8) (.pair (.bool) (.bool)))) (.str))))))))))))),
  some (.st (.pair (.int .i64) (.pair (.st (.pair (.int .i64) (.int .i64))) (.pair (.str) (.pair (.u8) (.pair (.str) (.slice (.st (.slice (.st (.pair (.str) (.pair (.st (.pair (.u8) (.pair (.bool) (.bool)))) (.str))))))))))))),
  none,
  none,
  none,
  none,
  none,
  none,
  some (.nptr),
  some (.slice (.u8)),
  some (.st (.pair (.nptr) (.slice (.u8)))),
  some (.st (.pair (.nptr) (.slice (.u8)))),
  some (.nif),
  some (.nif),
  none,
  none,
  none,
  none,
  none,
  none,
  none,
  none,
  none,
  some (.nptr),
  some (.st (.pair (.u8) (.pair (.st (.pair (.str) (.pair (.str) (.pair (.u8) (.pair (.bool) (.pair (.int .i64) (.pair (.slice (.st (.pair (.str) (.pair (.int .i64) (.pair (.int .i64) (.pair (.int .i64) (.pair (.int .i64) (.pair (.u8) (.bool))))))))) (.pair (.slice (.st (.pair (.int .i64) (.pair (.st (.pair (.int .i64) (.int .i64))) (.pair (.str) (.pair (.u8) (.pair (.str) (.slice (.st (.slice (.st (.pair (.str) (.pair (.st (.pair (.u8) (.pair (.bool) (.bool)))) (.str)))))))))))))) (.slice (.st (.pair (.int .i64) (.pair (.int .i64) (.pair (.int .i64) (.pair (.int .i64) (.pair (.str) (.pair (.str) (.pair (.bool) (.bool)))))))))))))))))) (.slice (.st (.pair (.int .i64) (.pair (.int .i64) (.int .i64)))))))),
  some (.st (.pair (.u8) (.pair (.st (.pair (.str) (.pair (.str) (.pair (.u8) (.pair (.bool) (.pair (.int .i64) (.pair (.slice (.st (.pair (.str) (.pair (.int .i64) (.pair (.int .i64) (.pair (.int .i64) (.pair (.int .i64) (.pair (.u8) (.bool))))))))) (.pair (.slice (.st (.pair (.int .i64) (.pair (.st (.pair (.int .i64) (.int .i64))) (.pair (.str) (.pair (.u8) (.pair (.str) (.slice (.st (.slice (.st (.pair (.str) (.pair (.st (.pair (.u8) (.pair (.bool) (.bool)))) (.str)))))))))))))) (.slice (.st (.pair (.int .i64) (.pair (.int .i64) (.pair (.int .i64) (.pair (.int .i64) (.pair (.str) (.pair (.str) (.pair (.bool) (.bool)))))))))))))))))) (.slice (.st (.pair (.int .i64) (.pair (.int .i64) (.int .i64)))))))),
  none,
  none,
  none,
  some (.slice (.slice (.st (.pair (.str) (.int .i64))))),
  none,
  some (.slice (.st (.pair (.str) (.int .i64)))),
  none,
  none,
  some (.st (.pair (.str) (.pair (.str) (.pair (.u8) (.pair (.bool) (.int .i64)))))),
  some (.st (.pair (.str) (.pair (.str) (.pair (.u8) (.pair (.bool) (.int .i64)))))),
  none,
  none,
  some (.u8),
  some (.st (.pair (.str) (.pair (.int .i64) (.pair (.int .i64) (.pair (.int .i64) (.pair (.int .i64) (.pair (.u8) (.bool)))))))),
  some (.st (.pair (.str) (.pair (.int .i64) (.pair (.int .i64) (.pair (.int .i64) (.pair (.int .i64) (.pair (.u8) (.bool)))))))),
  none,
  none,
  none,
  some (.st (.pair (.int .i64) (.pair (.int .i64) (.pair (.int .i64) (.pair (.int .i64) (.pair (.str) (.pair (.str) (.pair (.bool) (.bool))))))))),
  some (.st (.pair (.int .i64) (.pair (.int .i64) (.pair (.int .i64) (.pair (.int .i64) (.pair (.str) (.pair (.str) (.pair (.bool) (.bool))))))))),
  none,
  none,
  none,
  none,
  none,
  none,
  none,
  none,
  none,
  none,
  none,
  none,
  none,
  some (.nptr),
  none,
  none,
  none,
  some (.st (.pair (.str) (.pair (.int .i64) (.pair (.int .i64) (.bool))))),
  some (.st (.pair (.str) (.pair (.int .i64) (.pair (.int .i64) (.bool))))),
  none,
  none,
  none,
  none,
  none,
  none,
  none,
  none,
  none,
  some (.st (.pair (.str) (.int .i64))),
  some (.st (.pair (.str) (.int .i64))),
  none,
  none,
  none,
  none,
  none,
  none,
  none,
  some (.slice (.st (.pair (.int .i64) (.pair (.int .i64) (.int .i64))))),
  none,
  none,
  some (.slice (.int .i64)),
  none,
  none,
  none,
  none,
  none,
  none,
  none,
  some (.int .u64),
  none,
  none,
  none,
  none,
  some (.arr 256 (.bool)),
  some (.arr 256 (.bool)),
  none,
  none,
  none,
  none,
  none,
  none,
  some (.u8),
  some (.int .u64),
  some (.arr 8 (.st (.pair (.str) (.pair (.int .i64) (.pair (.int .i64) (.bool)))))),
  none,
  none,
  none,
  none,
  none,
  none,
  none,
  none,
  none,
  some (.st (.pair (.int .i64) (.pair (.int .i64) (.int .i64)))),
  some (.st (.pair (.int .i64) (.pair (.int .i64) (.int .i64)))),
  none,
  some (.int .u32),
  none,
  none,
  none,
  some (.arr 256 (.u8)),
  some (.st (.pair (.u8) (.u8))),
  some (.st (.pair (.u8) (.u8))),
  some (.arr 16 (.st (.pair (.u8) (.u8)))),
  none,
  none,
  some (.nptr),
  none,
  none,
  none,
  none,
  none,
  none,
  none,
  some (.arr 24 (.u8)),
  none,
  none,
  none,
  none,
  none,
  none,
  some (.slice (.int .i64)),
  some (.slice (.int .i32)),
  none,
  none,
  some (.arr 20 (.int .u64)),
  some (.arr 65 (.u8)),
  none,
  none,
  some (.arr 32 (.u8)),
  some (.arr 64 (.u8)),
  none,
  none,
  none,
  none,
  none,
  none,
  none,
  none,
  none,
  none,
  none,
  none]
def gl1 : List UInt8 := Go.Pinned.utf8FirstZ.map fun n => UInt8.ofNat n
def gl2 : List (UInt8 × UInt8) := [(128, 191), (160, 191), (128, 159), (144, 191), (128, 143), (0, 0), (0, 0), (0, 0), (0, 0), (0, 0), (0, 0), (0, 0), (0, 0), (0, 0), (0, 0), (0, 0)]
def gl3 : List Int := [1, 10, 100, 1000, 10000, 100000, 1000000, 10000000, 100000000, 1000000000, 10000000000, 100000000000, 1000000000000, 10000000000000, 100000000000000, 1000000000000000, 10000000000000000, 100000000000000000, 1000000000000000000, 10000000000000000000]
noncomputable def E : Env := ⟨Tryz.prog, tt, [(1, ⟨.arr 256 (.u8), gl1⟩), (2, ⟨.arr 16 (.st (.pair (.u8) (.u8))), gl2⟩), (3, ⟨.arr 20 (.int .u64), gl3⟩)], some 180, some (50, 84), [0]⟩
set_option maxRecDepth 100000 in
theorem chk : chkAll E 0 E.ty = true := by kernel_rfl
theorem mixed : E.P.follows .mixedOrders = true := by kernel_rfl
end
end Go.Mo
end

section
/-
  What the functions of the program compute, on plain values. Printed by a program.
-/
namespace Go.Mo
open Go Go.W
noncomputable section
def ps_utf8_word_string : List PK := [.k (.v (.str) [])]
def rs_utf8_word_string : List Kd := [.v (.int .u64) []]
def utf8_word_string (N : Nat) (x : List UInt8) : Option (Int) :=
 grd (inb (0 : Int) (len x)) <|
 grd (inb (1 : Int) (len x)) <|
 grd (inb (2 : Int) (len x)) <|
 grd (inb (3 : Int) (len x)) <|
 grd (inb (4 : Int) (len x)) <|
 grd (inb (5 : Int) (len x)) <|
 grd (inb (6 : Int) (len x)) <|
 grd (inb (7 : Int) (len x)) <|
 some (bitb .or .u64 (bitb .or .u64 (bitb .or .u64 (bitb .or .u64 (bitb .or .u64 (bitb .or .u64 (bitb .or .u64 (wr .u64 (n8 (lget x (toN (0 : Int)) (0 : UInt8)))) (wr .u64 (shlk .u64 (wr .u64 (n8 (lget x (toN (1 : Int)) (0 : UInt8)))) (8 : Int)))) (wr .u64 (shlk .u64 (wr .u64 (n8 (lget x (toN (2 : Int)) (0 : UInt8)))) (16 : Int)))) (wr .u64 (shlk .u64 (wr .u64 (n8 (lget x (toN (3 : Int)) (0 : UInt8)))) (24 : Int)))) (wr .u64 (shlk .u64 (wr .u64 (n8 (lget x (toN (4 : Int)) (0 : UInt8)))) (32 : Int)))) (wr .u64 (shlk .u64 (wr .u64 (n8 (lget x (toN (5 : Int)) (0 : UInt8)))) (40 : Int)))) (wr .u64 (shlk .u64 (wr .u64 (n8 (lget x (toN (6 : Int)) (0 : UInt8)))) (48 : Int)))) (wr .u64 (shlk .u64 (wr .u64 (n8 (lget x (toN (7 : Int)) (0 : UInt8)))) (56 : Int))))
def ps_utf8_ValidString : List PK := [.k (.v (.str) [])]
def rs_utf8_ValidString : List Kd := [.v (.bool) []]
def utf8_ValidString (N : Nat) (x : List UInt8) : Option (Bool) := hand_utf8_ValidString N x
def ps_charset_place : List PK := [.k (.v (.str) []), .k (.v (.int .i32) [])]
def rs_charset_place : List Kd := [.v (.int .i64) []]
def charset_place (N : Nat) (x : List UInt8 × Int) : Option (Int) :=
 jn (fun (v0 : Unit) =>
  some (-1 : Int))
 fun v1 =>
 fixN (fun v2 (v3 : Int × (List UInt8) × Int) =>
  cnd (nlt (toN v3.2.2) (nlen v3.2.1))
   (cnd (ieq (decR v3.2.1 (toN v3.2.2)) x.2)
    (some v3.1)
    (v2 (w64 (iadd v3.1 (1 : Int)), v3.2.1, ofN (nadd (toN v3.2.2) (decW v3.2.1 (toN v3.2.2))))))
   (v1 ())) N ((0 : Int), x.1, ofN 0)
def ps_charset_Index : List PK := [.k (.v (.int .i32) [])]
def rs_charset_Index : List Kd := [.v (.int .i64) []]
def charset_Index (N : Nat) (x : Int) : Option (Int) :=
 cnd (ile (32 : Int) x)
  (cnd (ile x (126 : Int))
   (some (w64 (wr .i32 (isub x (32 : Int)))))
   (bnd (charset_place N (([32, 33, 34, 35, 36, 37, 38, 39, 40, 41, 42, 43, 44, 45, 46, 47, 48, 49, 50, 51, 52, 53, 54, 55, 56, 57, 58, 59, 60, 61, 62, 63, 64, 65, 66, 67, 68, 69, 70, 71, 72, 73, 74, 75, 76, 77, 78, 79, 80, 81, 82, 83, 84, 85, 86, 87, 88, 89, 90, 91, 92, 93, 94, 95, 96, 97, 98, 99, 100, 101, 102, 103, 104, 105, 106, 107, 108, 109, 110, 111, 112, 113, 114, 115, 116, 117, 118, 119, 120, 121, 122, 123, 124, 125, 126, 194, 161, 194, 162, 194, 163, 194, 164, 194, 165, 194, 166, 194, 167, 194, 169, 194, 171, 194, 174, 194, 176, 194, 183, 194, 187, 194, 189, 194, 191, 195, 128, 195, 129, 195, 130, 195, 131, 195, 132, 195, 133, 195, 134, 195, 135, 195, 136, 195, 137, 195, 138, 195, 139, 195, 140, 195, 141, 195, 142, 195, 143, 195, 145, 195, 146, 195, 147, 195, 148, 195, 149, 195, 150, 195, 152, 195, 153, 195, 154, 195, 155, 195, 156, 195, 159, 195, 160, 195, 161, 195, 162, 195, 163, 195, 164, 195, 165, 195, 166, 195, 167, 195, 168, 195, 169, 195, 170, 195, 171, 195, 172, 195, 173, 195, 174, 195, 175, 195, 177, 195, 178, 195, 179, 195, 180, 195, 181, 195, 182, 195, 184, 195, 185, 195, 186, 195, 187, 195, 188, 197, 146, 197, 147, 226, 128, 148, 226, 128, 152, 226, 128, 153, 226, 128, 156, 226, 128, 157, 226, 128, 162, 226, 128, 166, 226, 132, 162, 226, 153, 170] : List UInt8), x)) fun v0 =>
   some v0))
  (bnd (charset_place N (([32, 33, 34, 35, 36, 37, 38, 39, 40, 41, 42, 43, 44, 45, 46, 47, 48, 49, 50, 51, 52, 53, 54, 55, 56, 57, 58, 59, 60, 61, 62, 63, 64, 65, 66, 67, 68, 69, 70, 71, 72, 73, 74, 75, 76, 77, 78, 79, 80, 81, 82, 83, 84, 85, 86, 87, 88, 89, 90, 91, 92, 93, 94, 95, 96, 97, 98, 99, 100, 101, 102, 103, 104, 105, 106, 107, 108, 109, 110, 111, 112, 113, 114, 115, 116, 117, 118, 119, 120, 121, 122, 123, 124, 125, 126, 194, 161, 194, 162, 194, 163, 194, 164, 194, 165, 194, 166, 194, 167, 194, 169, 194, 171, 194, 174, 194, 176, 194, 183, 194, 187, 194, 189, 194, 191, 195, 128, 195, 129, 195, 130, 195, 131, 195, 132, 195, 133, 195, 134, 195, 135, 195, 136, 195, 137, 195, 138, 195, 139, 195, 140, 195, 141, 195, 142, 195, 143, 195, 145, 195, 146, 195, 147, 195, 148, 195, 149, 195, 150, 195, 152, 195, 153, 195, 154, 195, 155, 195, 156, 195, 159, 195, 160, 195, 161, 195, 162, 195, 163, 195, 164, 195, 165, 195, 166, 195, 167, 195, 168, 195, 169, 195, 170, 195, 171, 195, 172, 195, 173, 195, 174, 195, 175, 195, 177, 195, 178, 195, 179, 195, 180, 195, 181, 195, 182, 195, 184, 195, 185, 195, 186, 195, 187, 195, 188, 197, 146, 197, 147, 226, 128, 148, 226, 128, 152, 226, 128, 153, 226, 128, 156, 226, 128, 157, 226, 128, 162, 226, 128, 166, 226, 132, 162, 226, 153, 170] : List UInt8), x)) fun v1 =>
  some v1)
def ps_charset_Valid : List PK := [.k (.v (.str) [])]
def rs_charset_Valid : List Kd := [.v (.bool) []]
def charset_Valid (N : Nat) (x : List UInt8) : Option (Bool) :=
 bnd (utf8_ValidString N x) fun v0 =>
 cnd (bnot v0)
  (some false)
  (jn (fun (v1 : Unit) =>
   some true)
  fun v2 =>
  fixN (fun v3 (v4 : (List UInt8) × Int) =>
   cnd (nlt (toN v4.2) (nlen v4.1))
    (bnd (charset_Index N (decR v4.1 (toN v4.2))) fun v5 =>
    cnd (ilt v5 (0 : Int))
     (some false)
     (v3 (v4.1, ofN (nadd (toN v4.2) (decW v4.1 (toN v4.2))))))
    (v2 ())) N (x, ofN 0))
def ps_lines_Name : List PK := [.k (.v (.str) [])]
def rs_lines_Name : List Kd := [.v (.bool) []]
def lines_Name (N : Nat) (x : List UInt8) : Option (Bool) :=
 cnd (ilt (len x) (1 : Int))
  (some false)
  (cnd (ilt (16 : Int) (len x))
   (some false)
   (grd (inb (0 : Int) (len x))
    (cnd (ilt (n8 (lget x (toN (0 : Int)) (0 : UInt8))) (n8 (65 : UInt8)))
     (some false)
     (grd (inb (0 : Int) (len x))
      (cnd (ilt (n8 (90 : UInt8)) (n8 (lget x (toN (0 : Int)) (0 : UInt8))))
       (some false)
       (jn (fun (v0 : Unit) =>
        some true)
       fun v1 =>
       fixN (fun v2 (v3 : Int) =>
        cnd (ilt v3 (len x))
         (jn (fun (v4 : Unit) =>
          v2 (w64 (iadd v3 (1 : Int))))
         fun v5 =>
         grd (inb v3 (len x)) <|
         cnd (ilt (n8 (lget x (toN v3) (0 : UInt8))) (n8 (65 : UInt8)))
          (cnd (ilt (n8 (lget x (toN v3) (0 : UInt8))) (n8 (48 : UInt8)))
           (cnd (ine (n8 (lget x (toN v3) (0 : UInt8))) (n8 (95 : UInt8)))
            (cnd (ine (n8 (lget x (toN v3) (0 : UInt8))) (n8 (45 : UInt8)))
             (some false)
             (v5 ()))
            (v5 ()))
           (cnd (ilt (n8 (57 : UInt8)) (n8 (lget x (toN v3) (0 : UInt8))))
            (cnd (ine (n8 (lget x (toN v3) (0 : UInt8))) (n8 (95 : UInt8)))
             (cnd (ine (n8 (lget x (toN v3) (0 : UInt8))) (n8 (45 : UInt8)))
              (some false)
              (v5 ()))
             (v5 ()))
            (v5 ())))
          (cnd (ilt (n8 (90 : UInt8)) (n8 (lget x (toN v3) (0 : UInt8))))
           (cnd (ilt (n8 (lget x (toN v3) (0 : UInt8))) (n8 (48 : UInt8)))
            (cnd (ine (n8 (lget x (toN v3) (0 : UInt8))) (n8 (95 : UInt8)))
             (cnd (ine (n8 (lget x (toN v3) (0 : UInt8))) (n8 (45 : UInt8)))
              (some false)
              (v5 ()))
             (v5 ()))
            (cnd (ilt (n8 (57 : UInt8)) (n8 (lget x (toN v3) (0 : UInt8))))
             (cnd (ine (n8 (lget x (toN v3) (0 : UInt8))) (n8 (95 : UInt8)))
              (cnd (ine (n8 (lget x (toN v3) (0 : UInt8))) (n8 (45 : UInt8)))
               (some false)
               (v5 ()))
              (v5 ()))
             (v5 ())))
           (v5 ())))
         (v1 ())) N (0 : Int)))))))
def ps_timebase_of : List PK := [.k (.v (.u8) [])]
def rs_timebase_of : List Kd := [.v (.st (.pair (.str) (.pair (.int .i64) (.pair (.int .i64) (.bool))))) []]
def timebase_of (N : Nat) (x : UInt8) : Option ((List UInt8) × Int × Int × Bool) :=
 grd (ieq (len (lrep 8 (([] : List UInt8), (0 : Int), (0 : Int), false))) (ofN 8)) <|
 cnd (ile (8 : Int) (w64 (n8 x)))
  (some (([] : List UInt8), (0 : Int), (0 : Int), false))
  (grd (inb (n8 x) (ofN 8))
   (grd (ilt (n8 x) (len ([(([] : List UInt8), (0 : Int), (0 : Int), false), (([50, 51, 46, 57, 55, 54] : List UInt8), (5005 : Int), (24 : Int), false), (([50, 52] : List UInt8), (5000 : Int), (24 : Int), false), (([50, 53] : List UInt8), (4800 : Int), (25 : Int), false), (([50, 57, 46, 57, 55] : List UInt8), (4004 : Int), (30 : Int), true), (([51, 48] : List UInt8), (4000 : Int), (30 : Int), false), (([53, 48] : List UInt8), (2400 : Int), (50 : Int), false), (([53, 57, 46, 57, 52] : List UInt8), (2002 : Int), (60 : Int), true)] : List ((List UInt8) × Int × Int × Bool))))
    (some (lget ([(([] : List UInt8), (0 : Int), (0 : Int), false), (([50, 51, 46, 57, 55, 54] : List UInt8), (5005 : Int), (24 : Int), false), (([50, 52] : List UInt8), (5000 : Int), (24 : Int), false), (([50, 53] : List UInt8), (4800 : Int), (25 : Int), false), (([50, 57, 46, 57, 55] : List UInt8), (4004 : Int), (30 : Int), true), (([51, 48] : List UInt8), (4000 : Int), (30 : Int), false), (([53, 48] : List UInt8), (2400 : Int), (50 : Int), false), (([53, 57, 46, 57, 52] : List UInt8), (2002 : Int), (60 : Int), true)] : List ((List UInt8) × Int × Int × Bool)) (toN (n8 x)) ([], ((0 : Int), ((0 : Int), false)))))))
def ps_timebase_Valid : List PK := [.k (.v (.u8) [])]
def rs_timebase_Valid : List Kd := [.v (.bool) []]
def timebase_Valid (N : Nat) (x : UInt8) : Option (Bool) :=
 bnd (timebase_of N x) fun v0 =>
 some (ilt (0 : Int) v0.2.1)
def ps_timebase_CanDrop : List PK := [.k (.v (.u8) [])]
def rs_timebase_CanDrop : List Kd := [.v (.bool) []]
def timebase_CanDrop (N : Nat) (x : UInt8) : Option (Bool) :=
 bnd (timebase_of N x) fun v0 =>
 some v0.2.2.2
def ps_document_rate : List PK := [.k (.v (.u8) []), .k (.v (.bool) [])]
def rs_document_rate : List Kd := [.v (.int .i64) []]
def document_rate (N : Nat) (x : UInt8 × Bool) : Option (Int) :=
 bnd (timebase_Valid N x.1) fun v0 =>
 cnd (bnot v0)
  (some (13 : Int))
  (cnd x.2
   (bnd (timebase_CanDrop N x.1) fun v1 =>
   cnd (bnot v1)
    (some (13 : Int))
    (some (0 : Int)))
   (some (0 : Int)))
def ps_document_header : List PK := [.k (.v (.st (.pair (.str) (.pair (.str) (.pair (.u8) (.pair (.bool) (.pair (.int .i64) (.pair (.slice (.st (.pair (.str) (.pair (.int .i64) (.pair (.int .i64) (.pair (.int .i64) (.pair (.int .i64) (.pair (.u8) (.bool))))))))) (.pair (.slice (.st (.pair (.int .i64) (.pair (.st (.pair (.int .i64) (.int .i64))) (.pair (.str) (.pair (.u8) (.pair (.str) (.slice (.st (.slice (.st (.pair (.str) (.pair (.st (.pair (.u8) (.pair (.bool) (.bool)))) (.str)))))))))))))) (.slice (.st (.pair (.int .i64) (.pair (.int .i64) (.pair (.int .i64) (.pair (.int .i64) (.pair (.str) (.pair (.str) (.pair (.bool) (.bool)))))))))))))))))) [])]
def rs_document_header : List Kd := [.v (.int .i64) []]
def document_header (N : Nat) (x : (List UInt8) × (List UInt8) × UInt8 × Bool × Int × (List ((List UInt8) × Int × Int × Int × Int × UInt8 × Bool)) × (List (Int × (Int × Int) × (List UInt8) × UInt8 × (List UInt8) × List (List ((List UInt8) × (UInt8 × Bool × Bool) × List UInt8)))) × List (Int × Int × Int × Int × (List UInt8) × (List UInt8) × Bool × Bool)) : Option (Int) :=
 jn (fun (v0 : Unit) =>
  bnd (document_rate N (x.2.2.1, x.2.2.2.1)) fun v1 =>
  cnd (ine v1 (0 : Int))
   (some v1)
   (cnd (ilt x.2.2.2.2.1 (0 : Int))
    (some (2 : Int))
    (cnd (ilt (1099511627776 : Int) x.2.2.2.2.1)
     (some (2 : Int))
     (some (0 : Int)))))
 fun v2 =>
 bnd (charset_Valid N x.1) fun v3 =>
 cnd (bnot v3)
  (some (10 : Int))
  (cnd (ilt (400 : Int) (len x.1))
   (some (9 : Int))
   (cnd (sne x.2.1 ([] : List UInt8))
    (bnd (lines_Name N x.2.1) fun v4 =>
    cnd (bnot v4)
     (some (5 : Int))
     (v2 ()))
    (v2 ())))
def ps_region_from : List PK := [.k (.v (.int .i64) []), .k (.v (.int .i64) []), .k (.v (.int .i64) [])]
def rs_region_from : List Kd := [.v (.bool) []]
def region_from (N : Nat) (x : Int × Int × Int) : Option (Bool) :=
 cnd (ile x.2.1 x.1)
  (some (ile x.1 x.2.2))
  (some false)
def ps_region_Check : List PK := [.k (.v (.st (.pair (.str) (.pair (.int .i64) (.pair (.int .i64) (.pair (.int .i64) (.pair (.int .i64) (.pair (.u8) (.bool)))))))) [])]
def rs_region_Check : List Kd := [.v (.int .i64) []]
def region_Check (N : Nat) (x : (List UInt8) × Int × Int × Int × Int × UInt8 × Bool) : Option (Int) :=
 bnd (lines_Name N x.1) fun v0 =>
 cnd (bnot v0)
  (some (5 : Int))
  (bnd (region_from N (x.2.1, (0 : Int), (14 : Int))) fun v1 =>
  cnd (bnot v1)
   (some (2 : Int))
   (bnd (region_from N (x.2.2.1, (1 : Int), w64 (isub (15 : Int) x.2.1))) fun v2 =>
   cnd (bnot v2)
    (some (2 : Int))
    (bnd (region_from N (x.2.2.2.1, (0 : Int), (31 : Int))) fun v3 =>
    cnd (bnot v3)
     (some (2 : Int))
     (bnd (region_from N (x.2.2.2.2.1, (1 : Int), w64 (isub (32 : Int) x.2.2.2.1))) fun v4 =>
     cnd (bnot v4)
      (some (2 : Int))
      (cnd (ilt (n8 x.2.2.2.2.2.1) (n8 (1 : UInt8)))
       (some (3 : Int))
       (cnd (ilt (n8 (3 : UInt8)) (n8 x.2.2.2.2.2.1))
        (some (3 : Int))
        (some (0 : Int))))))))
def ps_region_CheckList : List PK := [.k (.v (.slice (.st (.pair (.str) (.pair (.int .i64) (.pair (.int .i64) (.pair (.int .i64) (.pair (.int .i64) (.pair (.u8) (.bool))))))))) [])]
def rs_region_CheckList : List Kd := [.v (.int .i64) []]
def region_CheckList (N : Nat) (x : List ((List UInt8) × Int × Int × Int × Int × UInt8 × Bool)) : Option (Int) :=
 cnd (ilt (16 : Int) (len x))
  (some (9 : Int))
  (jn (fun (v0 : Unit) =>
   some (0 : Int))
  fun v1 =>
  fixN (fun v2 (v3 : Int) =>
   cnd (ilt v3 (len x))
    (grd (inb v3 (len x))
     (bnd (region_Check N (lget x (toN v3) ([], ((0 : Int), ((0 : Int), ((0 : Int), ((0 : Int), ((0 : UInt8), false)))))))) fun v4 =>
     cnd (ine v4 (0 : Int))
      (some v4)
      (jn (fun (v5 : Unit) =>
       cnd (ilt (0 : Int) v3)
        (grd (inb (w64 (isub v3 (1 : Int))) (len x))
         (cnd (slt (lget x (toN v3) ([], ((0 : Int), ((0 : Int), ((0 : Int), ((0 : Int), ((0 : UInt8), false))))))).1 (lget x (toN (w64 (isub v3 (1 : Int)))) ([], ((0 : Int), ((0 : Int), ((0 : Int), ((0 : Int), ((0 : UInt8), false))))))).1)
          (some (8 : Int))
          (v2 (w64 (iadd v3 (1 : Int))))))
        (v2 (w64 (iadd v3 (1 : Int)))))
      fun v6 =>
      cnd (ilt (0 : Int) v3)
       (grd (inb (w64 (isub v3 (1 : Int))) (len x))
        (cnd (seq (lget x (toN v3) ([], ((0 : Int), ((0 : Int), ((0 : Int), ((0 : Int), ((0 : UInt8), false))))))).1 (lget x (toN (w64 (isub v3 (1 : Int)))) ([], ((0 : Int), ((0 : Int), ((0 : Int), ((0 : Int), ((0 : UInt8), false))))))).1)
         (some (7 : Int))
         (v6 ())))
       (v6 ()))))
    (v1 ())) N (0 : Int))
def ps_region_Default : List PK := []
def rs_region_Default : List Kd := [.v (.st (.pair (.str) (.pair (.int .i64) (.pair (.int .i64) (.pair (.int .i64) (.pair (.int .i64) (.pair (.u8) (.bool)))))))) []]
def region_Default (N : Nat) (x : Unit) : Option ((List UInt8) × Int × Int × Int × Int × UInt8 × Bool) :=
 some (([] : List UInt8), (11 : Int), (4 : Int), (0 : Int), (32 : Int), (2 : UInt8), true)
def ps_region_Find : List PK := [.k (.v (.slice (.st (.pair (.str) (.pair (.int .i64) (.pair (.int .i64) (.pair (.int .i64) (.pair (.int .i64) (.pair (.u8) (.bool))))))))) []), .k (.v (.str) [])]
def rs_region_Find : List Kd := [.v (.st (.pair (.str) (.pair (.int .i64) (.pair (.int .i64) (.pair (.int .i64) (.pair (.int .i64) (.pair (.u8) (.bool)))))))) [], .v (.bool) []]
def region_Find (N : Nat) (x : (List ((List UInt8) × Int × Int × Int × Int × UInt8 × Bool)) × List UInt8) : Option (((List UInt8) × Int × Int × Int × Int × UInt8 × Bool) × Bool) :=
 cnd (seq x.2 ([] : List UInt8))
  (bnd (region_Default N ()) fun v0 =>
  some (v0, true))
  (jn (fun (v1 : Unit) =>
   some ((([] : List UInt8), (0 : Int), (0 : Int), (0 : Int), (0 : Int), (0 : UInt8), false), false))
  fun v2 =>
  fixN (fun v3 (v4 : Int) =>
   cnd (ilt v4 (len x.1))
    (grd (inb v4 (len x.1))
     (cnd (seq (lget x.1 (toN v4) ([], ((0 : Int), ((0 : Int), ((0 : Int), ((0 : Int), ((0 : UInt8), false))))))).1 x.2)
      (some (lget x.1 (toN v4) ([], ((0 : Int), ((0 : Int), ((0 : Int), ((0 : Int), ((0 : UInt8), false)))))), true))
      (v3 (w64 (iadd v4 (1 : Int))))))
    (v2 ())) N (0 : Int))
def ps_event_spans : List PK := [.k (.v (.st (.pair (.int .i64) (.int .i64))) [])]
def rs_event_spans : List Kd := [.v (.bool) []]
def event_spans (N : Nat) (x : Int × Int) : Option (Bool) :=
 cnd (ile (0 : Int) x.1)
  (cnd (ilt x.1 x.2)
   (some (ile x.2 (5184000 : Int)))
   (some false))
  (some false)
def ps_event_kinds : List PK := []
def rs_event_kinds : List Kd := [.v (.slice (.str)) [0]]
def event_kinds (N : Nat) (x : Unit) : Option (List (List UInt8)) :=
 some ([([68, 73, 65, 76, 79, 71, 85, 69] : List UInt8), ([83, 79, 85, 78, 68] : List UInt8), ([84, 73, 84, 76, 69] : List UInt8), ([77, 85, 83, 73, 67] : List UInt8)] : List (List UInt8))
def ps_event_KindName : List PK := [.k (.v (.u8) [])]
def rs_event_KindName : List Kd := [.v (.str) []]
def event_KindName (N : Nat) (x : UInt8) : Option (List UInt8) :=
 cnd (ilt (n8 x) (n8 (1 : UInt8)))
  (some ([] : List UInt8))
  (cnd (ilt (n8 (4 : UInt8)) (n8 x))
   (some ([] : List UInt8))
   (bnd (event_kinds N ()) fun v0 =>
   grd (inb (n8 (b8 (isub (n8 x) (n8 (1 : UInt8))))) (len v0)) <|
   some (lget v0 (toN (n8 (b8 (isub (n8 x) (n8 (1 : UInt8)))))) [])))
def ps_style_Valid : List PK := [.k (.v (.st (.pair (.u8) (.pair (.bool) (.bool)))) [])]
def rs_style_Valid : List Kd := [.v (.bool) []]
def style_Valid (N : Nat) (x : UInt8 × Bool × Bool) : Option (Bool) :=
 some (ile (n8 x.1) (n8 (6 : UInt8)))
def ps_style_alike : List PK := [.k (.v (.st (.pair (.str) (.pair (.st (.pair (.u8) (.pair (.bool) (.bool)))) (.str)))) []), .k (.v (.st (.pair (.str) (.pair (.st (.pair (.u8) (.pair (.bool) (.bool)))) (.str)))) [])]
def rs_style_alike : List Kd := [.v (.bool) []]
def style_alike (N : Nat) (x : ((List UInt8) × (UInt8 × Bool × Bool) × List UInt8) × (List UInt8) × (UInt8 × Bool × Bool) × List UInt8) : Option (Bool) :=
 cnd (band (ieq (n8 x.1.2.1.1) (n8 x.2.2.1.1)) (band (beqb x.1.2.1.2.1 x.2.2.1.2.1) (beqb x.1.2.1.2.2 x.2.2.1.2.2)))
  (cnd (seq x.1.2.2 ([] : List UInt8))
   (some (seq x.2.2.2 ([] : List UInt8)))
   (some false))
  (some false)
def ps_style_Check : List PK := [.k (.v (.st (.slice (.st (.pair (.str) (.pair (.st (.pair (.u8) (.pair (.bool) (.bool)))) (.str)))))) [])]
def rs_style_Check : List Kd := [.v (.int .i64) []]
def style_Check (N : Nat) (x : List ((List UInt8) × (UInt8 × Bool × Bool) × List UInt8)) : Option (Int) :=
 cnd (ilt (16 : Int) (len x))
  (some (9 : Int))
  (jn (fun (v0 : Unit) =>
   some (0 : Int))
  fun v1 =>
  fixN (fun v2 (v3 : Int) =>
   cnd (ilt v3 (len x))
    (grd (inb v3 (len x))
     (bnd (charset_Valid N (lget x (toN v3) ([], (((0 : UInt8), (false, false)), []))).1) fun v4 =>
     cnd (bnot v4)
      (some (10 : Int))
      (cnd (seq (lget x (toN v3) ([], (((0 : UInt8), (false, false)), []))).1 ([] : List UInt8))
       (some (4 : Int))
       (bnd (style_Valid N (lget x (toN v3) ([], (((0 : UInt8), (false, false)), []))).2.1) fun v5 =>
       cnd (bnot v5)
        (some (12 : Int))
        (bnd (charset_Valid N (lget x (toN v3) ([], (((0 : UInt8), (false, false)), []))).2.2) fun v6 =>
        cnd (bnot v6)
         (some (10 : Int))
         (cnd (ilt (0 : Int) v3)
          (grd (inb (w64 (isub v3 (1 : Int))) (len x))
           (bnd (style_alike N (lget x (toN (w64 (isub v3 (1 : Int)))) ([], (((0 : UInt8), (false, false)), [])), lget x (toN v3) ([], (((0 : UInt8), (false, false)), [])))) fun v7 =>
           cnd v7
            (some (8 : Int))
            (v2 (w64 (iadd v3 (1 : Int))))))
          (v2 (w64 (iadd v3 (1 : Int))))))))))
    (v1 ())) N (0 : Int))
def ps_strings_Builder_copyCheck : List PK := [.k (.b 84 (.st (.pair (.nptr) (.slice (.u8)))) [1])]
def rs_strings_Builder_copyCheck : List Kd := []
def strings_Builder_copyCheck (N : Nat) (x : Unit × List UInt8) : Option (Unit × List UInt8) := hand_strings_Builder_copyCheck N x
def ps_strings_Builder_WriteString : List PK := [.k (.b 84 (.st (.pair (.nptr) (.slice (.u8)))) [1]), .k (.v (.str) [])]
def rs_strings_Builder_WriteString : List Kd := [.v (.int .i64) [], .v (.nif) []]
def strings_Builder_WriteString (N : Nat) (x : (Unit × List UInt8) × List UInt8) : Option (Int × Unit × Unit × List UInt8) :=
 bnd (strings_Builder_copyCheck N ((), x.1.2)) fun v0 =>
 grd (room (iadd (len v0.2) (len x.2)) 1) <|
 some (len x.2, (), (), lapp v0.2 x.2)
def ps_style_Plain : List PK := [.k (.v (.st (.slice (.st (.pair (.str) (.pair (.st (.pair (.u8) (.pair (.bool) (.bool)))) (.str)))))) [])]
def rs_style_Plain : List Kd := [.v (.str) []]
def style_Plain (N : Nat) (x : List ((List UInt8) × (UInt8 × Bool × Bool) × List UInt8)) : Option (List UInt8) :=
 jn (fun (v0 : Unit × List UInt8) =>
  some v0.2)
 fun v1 =>
 fixN (fun v2 (v3 : Int × Unit × List UInt8) =>
  cnd (ilt v3.1 (len x))
   (grd (inb v3.1 (len x))
    (bnd (strings_Builder_WriteString N (((), v3.2.2), (lget x (toN v3.1) ([], (((0 : UInt8), (false, false)), []))).1)) fun v4 =>
    v2 (w64 (iadd v3.1 (1 : Int)), (), v4.2.2.2)))
   (v1 ((), v3.2.2))) N ((0 : Int), (), ([] : List UInt8))
def ps_bytealg_IndexByteString : List PK := [.k (.v (.str) []), .k (.v (.u8) [])]
def rs_bytealg_IndexByteString : List Kd := [.v (.int .i64) []]
def bytealg_IndexByteString (N : Nat) (x : List UInt8 × UInt8) : Option (Int) := hand_bytealg_IndexByteString N x
def ps_stringslite_IndexByte : List PK := [.k (.v (.str) []), .k (.v (.u8) [])]
def rs_stringslite_IndexByte : List Kd := [.v (.int .i64) []]
def stringslite_IndexByte (N : Nat) (x : List UInt8 × UInt8) : Option (Int) :=
 bnd (bytealg_IndexByteString N x) fun v0 =>
 some v0
def ps_bytealg_Cutover : List PK := [.k (.v (.int .i64) [])]
def rs_bytealg_Cutover : List Kd := [.v (.int .i64) []]
def bytealg_Cutover (N : Nat) (x : Int) : Option (Int) :=
 some (w64 (idiv (w64 (iadd x (16 : Int))) (8 : Int)))
def ps_bytealg_hashStr_string : List PK := [.k (.v (.str) [])]
def rs_bytealg_hashStr_string : List Kd := [.v (.int .u32) [], .v (.int .u32) []]
def bytealg_hashStr_string (N : Nat) (x : List UInt8) : Option (Int × Int) :=
 jn (fun (v0 : Int) =>
  jn (fun (v1 : Int) =>
   some (v0, v1))
  fun v2 =>
  fixN (fun v3 (v4 : Int × Int × Int) =>
   cnd (ilt (0 : Int) v4.2.2)
    (cnd (ine (bitb .and .i64 v4.2.2 (1 : Int)) (0 : Int))
     (v3 (wr .u32 (imul v4.1 v4.2.1), wr .u32 (imul v4.2.1 v4.2.1), shrk .i64 v4.2.2 (1 : Int)))
     (v3 (v4.1, wr .u32 (imul v4.2.1 v4.2.1), shrk .i64 v4.2.2 (1 : Int))))
    (v2 v4.1)) N ((1 : Int), (16777619 : Int), len x))
 fun v5 =>
 fixN (fun v6 (v7 : Int × Int) =>
  cnd (ilt v7.2 (len x))
   (grd (inb v7.2 (len x))
    (v6 (wr .u32 (iadd (wr .u32 (imul v7.1 (16777619 : Int))) (wr .u32 (n8 (lget x (toN v7.2) (0 : UInt8))))), w64 (iadd v7.2 (1 : Int)))))
   (v5 v7.1)) N ((0 : Int), (0 : Int))
def ps_bytealg_IndexRabinKarp_string : List PK := [.k (.v (.str) []), .k (.v (.str) [])]
def rs_bytealg_IndexRabinKarp_string : List Kd := [.v (.int .i64) []]
def bytealg_IndexRabinKarp_string (N : Nat) (x : List UInt8 × List UInt8) : Option (Int) :=
 bnd (bytealg_hashStr_string N x.2) fun v0 =>
 jn (fun (v1 : Int) =>
  jn (fun (v2 : Unit) =>
   jn (fun (v3 : Unit) =>
    some (-1 : Int))
   fun v4 =>
   fixN (fun v5 (v6 : Int × Int) =>
    cnd (ilt v6.2 (len x.1))
     (grd (inb v6.2 (len x.1))
      (grd (inb (w64 (isub v6.2 (len x.2))) (len x.1))
       (cnd (ieq (wr .u32 (isub (wr .u32 (iadd (wr .u32 (imul v6.1 (16777619 : Int))) (wr .u32 (n8 (lget x.1 (toN v6.2) (0 : UInt8)))))) (wr .u32 (imul v0.2 (wr .u32 (n8 (lget x.1 (toN (w64 (isub v6.2 (len x.2)))) (0 : UInt8)))))))) v0.1)
        (grd (in3 (w64 (isub (w64 (iadd v6.2 (1 : Int))) (len x.2))) (w64 (iadd v6.2 (1 : Int))) (len x.1))
         (cnd (seq (ldrop (toN (w64 (isub (w64 (iadd v6.2 (1 : Int))) (len x.2)))) (ltake (toN (w64 (iadd v6.2 (1 : Int)))) x.1)) x.2)
          (some (w64 (isub (w64 (iadd v6.2 (1 : Int))) (len x.2))))
          (v5 (wr .u32 (isub (wr .u32 (iadd (wr .u32 (imul v6.1 (16777619 : Int))) (wr .u32 (n8 (lget x.1 (toN v6.2) (0 : UInt8)))))) (wr .u32 (imul v0.2 (wr .u32 (n8 (lget x.1 (toN (w64 (isub v6.2 (len x.2)))) (0 : UInt8))))))), w64 (iadd v6.2 (1 : Int))))))
        (v5 (wr .u32 (isub (wr .u32 (iadd (wr .u32 (imul v6.1 (16777619 : Int))) (wr .u32 (n8 (lget x.1 (toN v6.2) (0 : UInt8)))))) (wr .u32 (imul v0.2 (wr .u32 (n8 (lget x.1 (toN (w64 (isub v6.2 (len x.2)))) (0 : UInt8))))))), w64 (iadd v6.2 (1 : Int)))))))
     (v4 ())) N (v1, len x.2))
  fun v7 =>
  cnd (ieq v1 v0.1)
   (grd (in2 (len x.2) (len x.1))
    (cnd (seq (ltake (toN (len x.2)) x.1) x.2)
     (some (0 : Int))
     (v7 ())))
   (v7 ()))
 fun v8 =>
 fixN (fun v9 (v10 : Int × Int) =>
  cnd (ilt v10.2 (len x.2))
   (grd (inb v10.2 (len x.1))
    (v9 (wr .u32 (iadd (wr .u32 (imul v10.1 (16777619 : Int))) (wr .u32 (n8 (lget x.1 (toN v10.2) (0 : UInt8))))), w64 (iadd v10.2 (1 : Int)))))
   (v8 v10.1)) N ((0 : Int), (0 : Int))
def ps_stringslite_Index : List PK := [.k (.v (.str) []), .k (.v (.str) [])]
def rs_stringslite_Index : List Kd := [.v (.int .i64) []]
def stringslite_Index (N : Nat) (x : List UInt8 × List UInt8) : Option (Int) :=
 cnd (ieq (len x.2) (0 : Int))
  (some (0 : Int))
  (cnd (seq x.2 x.1)
   (some (0 : Int))
   (cnd (ieq (len x.2) (1 : Int))
    (grd (inb (0 : Int) (len x.2))
     (bnd (stringslite_IndexByte N (x.1, lget x.2 (toN (0 : Int)) (0 : UInt8))) fun v0 =>
     some v0))
    (cnd (ile (len x.1) (len x.2))
     (some (-1 : Int))
     none)))
def ps_strings_Index : List PK := [.k (.v (.str) []), .k (.v (.str) [])]
def rs_strings_Index : List Kd := [.v (.int .i64) []]
def strings_Index (N : Nat) (x : List UInt8 × List UInt8) : Option (Int) :=
 bnd (stringslite_Index N x) fun v0 =>
 some v0
def ps_strings_Contains : List PK := [.k (.v (.str) []), .k (.v (.str) [])]
def rs_strings_Contains : List Kd := [.v (.bool) []]
def strings_Contains (N : Nat) (x : List UInt8 × List UInt8) : Option (Bool) := hand_strings_Contains N x
def ps_utf8_RuneCountInString : List PK := [.k (.v (.str) [])]
def rs_utf8_RuneCountInString : List Kd := [.v (.int .i64) []]
def utf8_RuneCountInString (N : Nat) (x : List UInt8) : Option (Int) :=
 jn (fun (v0 : Int) =>
  some v0)
 fun v1 =>
 fixN (fun v2 (v3 : Int × (List UInt8) × Int) =>
  cnd (nlt (toN v3.2.2) (nlen v3.2.1))
   (v2 (w64 (iadd v3.1 (1 : Int)), v3.2.1, ofN (nadd (toN v3.2.2) (decW v3.2.1 (toN v3.2.2)))))
   (v1 v3.1)) N ((0 : Int), x, ofN 0)
def ps_charset_Len : List PK := [.k (.v (.str) [])]
def rs_charset_Len : List Kd := [.v (.int .i64) []]
def charset_Len (N : Nat) (x : List UInt8) : Option (Int) :=
 bnd (charset_Valid N x) fun v0 =>
 cnd (bnot v0)
  (some (-1 : Int))
  (bnd (utf8_RuneCountInString N x) fun v1 =>
  some v1)
def ps_style_Len : List PK := [.k (.v (.st (.slice (.st (.pair (.str) (.pair (.st (.pair (.u8) (.pair (.bool) (.bool)))) (.str)))))) [])]
def rs_style_Len : List Kd := [.v (.int .i64) []]
def style_Len (N : Nat) (x : List ((List UInt8) × (UInt8 × Bool × Bool) × List UInt8)) : Option (Int) :=
 jn (fun (v0 : Int) =>
  some v0)
 fun v1 =>
 fixN (fun v2 (v3 : Int × Int) =>
  cnd (ilt v3.2 (len x))
   (grd (inb v3.2 (len x))
    (bnd (charset_Len N (lget x (toN v3.2) ([], (((0 : UInt8), (false, false)), []))).1) fun v4 =>
    cnd (ilt v4 (0 : Int))
     (some (-1 : Int))
     (v2 (w64 (iadd v3.1 v4), w64 (iadd v3.2 (1 : Int))))))
   (v1 v3.1)) N ((0 : Int), (0 : Int))
def ps_event_row : List PK := [.k (.v (.st (.slice (.st (.pair (.str) (.pair (.st (.pair (.u8) (.pair (.bool) (.bool)))) (.str)))))) [])]
def rs_event_row : List Kd := [.v (.int .i64) []]
def event_row (N : Nat) (x : List ((List UInt8) × (UInt8 × Bool × Bool) × List UInt8)) : Option (Int) :=
 bnd (style_Check N x) fun v0 =>
 cnd (ine v0 (0 : Int))
  (some v0)
  (bnd (style_Plain N x) fun v1 =>
  cnd (seq v1 ([] : List UInt8))
   (some (4 : Int))
   (grd (inb (0 : Int) (len v1))
    (cnd (ieq (n8 (lget v1 (toN (0 : Int)) (0 : UInt8))) (n8 (32 : UInt8)))
     (some (4 : Int))
     (grd (inb (w64 (isub (len v1) (1 : Int))) (len v1))
      (cnd (ieq (n8 (lget v1 (toN (w64 (isub (len v1) (1 : Int)))) (0 : UInt8))) (n8 (32 : UInt8)))
       (some (4 : Int))
       (bnd (strings_Contains N (v1, ([32, 32] : List UInt8))) fun v2 =>
       cnd v2
        (some (4 : Int))
        (bnd (style_Len N x) fun v3 =>
        cnd (ilt (32 : Int) v3)
         (some (11 : Int))
         (some (0 : Int)))))))))
def ps_event_lens : List PK := [.k (.v (.st (.pair (.int .i64) (.pair (.st (.pair (.int .i64) (.int .i64))) (.pair (.str) (.pair (.u8) (.pair (.str) (.slice (.st (.slice (.st (.pair (.str) (.pair (.st (.pair (.u8) (.pair (.bool) (.bool)))) (.str))))))))))))) [])]
def rs_event_lens : List Kd := [.v (.slice (.int .i64)) [0]]
def event_lens (N : Nat) (x : Int × (Int × Int) × (List UInt8) × UInt8 × (List UInt8) × List (List ((List UInt8) × (UInt8 × Bool × Bool) × List UInt8))) : Option (List Int) :=
 jn (fun (v0 : List Int) =>
  some v0)
 fun v1 =>
 fixN (fun v2 (v3 : (List Int) × Int) =>
  cnd (ilt v3.2 (len x.2.2.2.2.2))
   (grd (inb v3.2 (len x.2.2.2.2.2))
    (bnd (style_Len N (lget x.2.2.2.2.2 (toN v3.2) [])) fun v4 =>
    grd (room (iadd (len v3.1) (len ([v4] : List Int))) 8) <|
    v2 (lapp v3.1 ([v4] : List Int), w64 (iadd v3.2 (1 : Int)))))
   (v1 v3.1)) N (([] : List Int), (0 : Int))
def ps_region_usable : List PK := [.k (.v (.st (.pair (.str) (.pair (.int .i64) (.pair (.int .i64) (.pair (.int .i64) (.pair (.int .i64) (.pair (.u8) (.bool)))))))) [])]
def rs_region_usable : List Kd := [.v (.bool) []]
def region_usable (N : Nat) (x : (List UInt8) × Int × Int × Int × Int × UInt8 × Bool) : Option (Bool) :=
 bnd (region_Default N ()) fun v0 =>
 cnd (band (seq x.1 v0.1) (band (ieq x.2.1 v0.2.1) (band (ieq x.2.2.1 v0.2.2.1) (band (ieq x.2.2.2.1 v0.2.2.2.1) (band (ieq x.2.2.2.2.1 v0.2.2.2.2.1) (band (ieq (n8 x.2.2.2.2.2.1) (n8 v0.2.2.2.2.2.1)) (beqb x.2.2.2.2.2.2 v0.2.2.2.2.2.2)))))))
  (some true)
  (bnd (region_Check N x) fun v1 =>
  some (ieq v1 (0 : Int)))
def ps_region_Place : List PK := [.k (.v (.st (.pair (.str) (.pair (.int .i64) (.pair (.int .i64) (.pair (.int .i64) (.pair (.int .i64) (.pair (.u8) (.bool)))))))) []), .k (.v (.slice (.int .i64)) [])]
def rs_region_Place : List Kd := [.v (.slice (.st (.pair (.int .i64) (.pair (.int .i64) (.int .i64))))) [0], .v (.int .i64) []]
def region_Place (N : Nat) (x : ((List UInt8) × Int × Int × Int × Int × UInt8 × Bool) × List Int) : Option ((List (Int × Int × Int)) × Int) :=
 bnd (region_usable N x.1) fun v0 =>
 cnd (bnot v0)
  (some (([] : List (Int × Int × Int)), (1 : Int)))
  (cnd (ilt x.1.2.2.1 (len x.2))
   (some (([] : List (Int × Int × Int)), (9 : Int)))
   (jn (fun (v1 : Int) =>
    jn (fun (v2 : List (Int × Int × Int)) =>
     some (v2, (0 : Int)))
    fun v3 =>
    fixN (fun v4 (v5 : (List (Int × Int × Int)) × Int) =>
     cnd (ilt v5.2 (len x.2))
      (grd (inb v5.2 (len x.2))
       (cnd (ilt (lget x.2 (toN v5.2) (0 : Int)) (0 : Int))
        (some (([] : List (Int × Int × Int)), (2 : Int)))
        (cnd (ilt x.1.2.2.2.2.1 (lget x.2 (toN v5.2) (0 : Int)))
         (some (([] : List (Int × Int × Int)), (11 : Int)))
         (cnd (ieq (n8 x.1.2.2.2.2.2.1) (n8 (3 : UInt8)))
          (grd (room (iadd (len v5.1) (len ([(w64 (iadd v1 v5.2), w64 (iadd x.1.2.2.2.1 (w64 (isub x.1.2.2.2.2.1 (lget x.2 (toN v5.2) (0 : Int))))), lget x.2 (toN v5.2) (0 : Int))] : List (Int × Int × Int)))) 24)
           (v4 (lapp v5.1 ([(w64 (iadd v1 v5.2), w64 (iadd x.1.2.2.2.1 (w64 (isub x.1.2.2.2.2.1 (lget x.2 (toN v5.2) (0 : Int))))), lget x.2 (toN v5.2) (0 : Int))] : List (Int × Int × Int)), w64 (iadd v5.2 (1 : Int)))))
          (cnd (ieq (n8 x.1.2.2.2.2.2.1) (n8 (2 : UInt8)))
           (grd (room (iadd (len v5.1) (len ([(w64 (iadd v1 v5.2), w64 (iadd x.1.2.2.2.1 (w64 (idiv (w64 (isub x.1.2.2.2.2.1 (lget x.2 (toN v5.2) (0 : Int)))) (2 : Int)))), lget x.2 (toN v5.2) (0 : Int))] : List (Int × Int × Int)))) 24)
            (v4 (lapp v5.1 ([(w64 (iadd v1 v5.2), w64 (iadd x.1.2.2.2.1 (w64 (idiv (w64 (isub x.1.2.2.2.2.1 (lget x.2 (toN v5.2) (0 : Int)))) (2 : Int)))), lget x.2 (toN v5.2) (0 : Int))] : List (Int × Int × Int)), w64 (iadd v5.2 (1 : Int)))))
           (grd (room (iadd (len v5.1) (len ([(w64 (iadd v1 v5.2), x.1.2.2.2.1, lget x.2 (toN v5.2) (0 : Int))] : List (Int × Int × Int)))) 24)
            (v4 (lapp v5.1 ([(w64 (iadd v1 v5.2), x.1.2.2.2.1, lget x.2 (toN v5.2) (0 : Int))] : List (Int × Int × Int)), w64 (iadd v5.2 (1 : Int))))))))))
      (v3 v5.1)) N (([] : List (Int × Int × Int)), (0 : Int)))
   fun v6 =>
   cnd x.1.2.2.2.2.2.2
    (v6 (w64 (iadd x.1.2.1 (w64 (isub x.1.2.2.1 (len x.2))))))
    (v6 x.1.2.1)))
def ps_event_Check : List PK := [.k (.v (.st (.pair (.int .i64) (.pair (.st (.pair (.int .i64) (.int .i64))) (.pair (.str) (.pair (.u8) (.pair (.str) (.slice (.st (.slice (.st (.pair (.str) (.pair (.st (.pair (.u8) (.pair (.bool) (.bool)))) (.str))))))))))))) []), .k (.v (.slice (.st (.pair (.str) (.pair (.int .i64) (.pair (.int .i64) (.pair (.int .i64) (.pair (.int .i64) (.pair (.u8) (.bool))))))))) [])]
def rs_event_Check : List Kd := [.v (.int .i64) []]
def event_Check (N : Nat) (x : (Int × (Int × Int) × (List UInt8) × UInt8 × (List UInt8) × List (List ((List UInt8) × (UInt8 × Bool × Bool) × List UInt8))) × List ((List UInt8) × Int × Int × Int × Int × UInt8 × Bool)) : Option (Int) :=
 bnd (region_Find N (x.2, x.1.2.2.1)) fun v0 =>
 cnd (ilt x.1.1 (1 : Int))
  (some (2 : Int))
  (cnd (ilt (1099511627776 : Int) x.1.1)
   (some (2 : Int))
   (bnd (event_spans N x.1.2.1) fun v1 =>
   cnd (bnot v1)
    (some (2 : Int))
    (cnd (bnot v0.2)
     (some (6 : Int))
     (bnd (event_KindName N x.1.2.2.2.1) fun v2 =>
     cnd (seq v2 ([] : List UInt8))
      (some (3 : Int))
      (jn (fun (v3 : Bool) =>
       cnd v3
        (some (5 : Int))
        (cnd (ieq (len x.1.2.2.2.2.2) (0 : Int))
         (some (9 : Int))
         (cnd (ilt (4 : Int) (len x.1.2.2.2.2.2))
          (some (9 : Int))
          (jn (fun (v4 : Unit) =>
           bnd (event_lens N x.1) fun v5 =>
           bnd (region_Place N (v0.1, v5)) fun v6 =>
           some v6.2)
          fun v7 =>
          fixN (fun v8 (v9 : Int) =>
           cnd (ilt v9 (len x.1.2.2.2.2.2))
            (grd (inb v9 (len x.1.2.2.2.2.2))
             (bnd (event_row N (lget x.1.2.2.2.2.2 (toN v9) [])) fun v10 =>
             cnd (ine v10 (0 : Int))
              (some v10)
              (v8 (w64 (iadd v9 (1 : Int))))))
            (v7 ())) N (0 : Int)))))
      fun v11 =>
      cnd (sne x.1.2.2.2.2.1 ([] : List UInt8))
       (bnd (lines_Name N x.1.2.2.2.2.1) fun v12 =>
       v11 (bnot v12))
       (v11 false))))))
def ps_cmp_isNaN_int64 : List PK := [.k (.v (.int .i64) [])]
def rs_cmp_isNaN_int64 : List Kd := [.v (.bool) []]
def cmp_isNaN_int64 (N : Nat) (x : Int) : Option (Bool) :=
 some (ine x x)
def ps_cmp_Compare_int64 : List PK := [.k (.v (.int .i64) []), .k (.v (.int .i64) [])]
def rs_cmp_Compare_int64 : List Kd := [.v (.int .i64) []]
def cmp_Compare_int64 (N : Nat) (x : Int × Int) : Option (Int) :=
 bnd (cmp_isNaN_int64 N x.1) fun v0 =>
 bnd (cmp_isNaN_int64 N x.2) fun v1 =>
 cnd v0
  (cnd v1
   (some (0 : Int))
   (some (-1 : Int)))
  (cnd v1
   (some (1 : Int))
   (cnd (ilt x.1 x.2)
    (some (-1 : Int))
    (cnd (ilt x.2 x.1)
     (some (1 : Int))
     (some (0 : Int)))))
def ps_cmp_Or_int : List PK := [.k (.v (.slice (.int .i64)) [])]
def rs_cmp_Or_int : List Kd := [.v (.int .i64) []]
def cmp_Or_int (N : Nat) (x : List Int) : Option (Int) :=
 jn (fun (v0 : Unit) =>
  some (0 : Int))
 fun v1 =>
 fixN (fun v2 (v3 : Int) =>
  cnd (ilt v3 (len x))
   (grd (inb v3 (len x))
    (cnd (ine (lget x (toN v3) (0 : Int)) (0 : Int))
     (some (lget x (toN v3) (0 : Int)))
     (v2 (w64 (iadd v3 (1 : Int))))))
   (v1 ())) N (0 : Int)
def ps_event_Less : List PK := [.k (.v (.st (.pair (.int .i64) (.pair (.st (.pair (.int .i64) (.int .i64))) (.pair (.str) (.pair (.u8) (.pair (.str) (.slice (.st (.slice (.st (.pair (.str) (.pair (.st (.pair (.u8) (.pair (.bool) (.bool)))) (.str))))))))))))) []), .k (.v (.st (.pair (.int .i64) (.pair (.st (.pair (.int .i64) (.int .i64))) (.pair (.str) (.pair (.u8) (.pair (.str) (.slice (.st (.slice (.st (.pair (.str) (.pair (.st (.pair (.u8) (.pair (.bool) (.bool)))) (.str))))))))))))) [])]
def rs_event_Less : List Kd := [.v (.bool) []]
def event_Less (N : Nat) (x : (Int × (Int × Int) × (List UInt8) × UInt8 × (List UInt8) × List (List ((List UInt8) × (UInt8 × Bool × Bool) × List UInt8))) × Int × (Int × Int) × (List UInt8) × UInt8 × (List UInt8) × List (List ((List UInt8) × (UInt8 × Bool × Bool) × List UInt8))) : Option (Bool) :=
 bnd (cmp_Compare_int64 N (x.1.2.1.1, x.2.2.1.1)) fun v0 =>
 bnd (cmp_Compare_int64 N (x.1.1, x.2.1)) fun v1 =>
 bnd (cmp_Or_int N ([v0, v1] : List Int)) fun v2 =>
 some (ilt v2 (0 : Int))
def ps_event_Len : List PK := [.k (.v (.st (.pair (.int .i64) (.pair (.st (.pair (.int .i64) (.int .i64))) (.pair (.str) (.pair (.u8) (.pair (.str) (.slice (.st (.slice (.st (.pair (.str) (.pair (.st (.pair (.u8) (.pair (.bool) (.bool)))) (.str))))))))))))) [])]
def rs_event_Len : List Kd := [.v (.int .i64) []]
def event_Len (N : Nat) (x : Int × (Int × Int) × (List UInt8) × UInt8 × (List UInt8) × List (List ((List UInt8) × (UInt8 × Bool × Bool) × List UInt8))) : Option (Int) :=
 jn (fun (v0 : Int) =>
  some v0)
 fun v1 =>
 bnd (event_lens N x) fun v2 =>
 fixN (fun v3 (v4 : Int × Int) =>
  cnd (ilt v4.2 (len v2))
   (grd (inb v4.2 (len v2))
    (cnd (ilt (lget v2 (toN v4.2) (0 : Int)) (0 : Int))
     (some (-1 : Int))
     (v3 (w64 (iadd v4.1 (lget v2 (toN v4.2) (0 : Int))), w64 (iadd v4.2 (1 : Int))))))
   (v1 v4.1)) N (imax (w64 (isub (len x.2.2.2.2.2) (1 : Int))) (0 : Int), (0 : Int))
def ps_document_anchored : List PK := [.k (.v (.st (.pair (.str) (.pair (.str) (.pair (.u8) (.pair (.bool) (.pair (.int .i64) (.pair (.slice (.st (.pair (.str) (.pair (.int .i64) (.pair (.int .i64) (.pair (.int .i64) (.pair (.int .i64) (.pair (.u8) (.bool))))))))) (.pair (.slice (.st (.pair (.int .i64) (.pair (.st (.pair (.int .i64) (.int .i64))) (.pair (.str) (.pair (.u8) (.pair (.str) (.slice (.st (.slice (.st (.pair (.str) (.pair (.st (.pair (.u8) (.pair (.bool) (.bool)))) (.str)))))))))))))) (.slice (.st (.pair (.int .i64) (.pair (.int .i64) (.pair (.int .i64) (.pair (.int .i64) (.pair (.str) (.pair (.str) (.pair (.bool) (.bool)))))))))))))))))) []), .k (.v (.st (.pair (.int .i64) (.pair (.int .i64) (.pair (.int .i64) (.pair (.int .i64) (.pair (.str) (.pair (.str) (.pair (.bool) (.bool))))))))) []), .k (.m (.int .i64) (.int .i64))]
def rs_document_anchored : List Kd := [.v (.int .i64) []]
def document_anchored (N : Nat) (x : ((List UInt8) × (List UInt8) × UInt8 × Bool × Int × (List ((List UInt8) × Int × Int × Int × Int × UInt8 × Bool)) × (List (Int × (Int × Int) × (List UInt8) × UInt8 × (List UInt8) × List (List ((List UInt8) × (UInt8 × Bool × Bool) × List UInt8)))) × List (Int × Int × Int × Int × (List UInt8) × (List UInt8) × Bool × Bool)) × (Int × Int × Int × Int × (List UInt8) × (List UInt8) × Bool × Bool) × List (Int × Int)) : Option (Int × List (Int × Int)) :=
 cnd (ilt x.2.1.2.1 (1 : Int))
  (some ((2 : Int), x.2.2))
  (cnd (ilt x.1.2.2.2.2.1 x.2.1.2.1)
   (some ((2 : Int), x.2.2))
   (cnd x.2.1.2.2.2.2.2.2.2
    (cnd (ine x.2.1.2.2.1 (0 : Int))
     (some ((2 : Int), x.2.2))
     (cnd (ine x.2.1.2.2.2.1 (0 : Int))
      (some ((2 : Int), x.2.2))
      (some ((0 : Int), x.2.2))))
    (cnd (bnot (mhas ieq x.2.2 x.2.1.2.1))
     (some ((6 : Int), x.2.2))
     (cnd (ilt x.2.1.2.2.1 (0 : Int))
      (some ((2 : Int), x.2.2))
      (cnd (ile x.2.1.2.2.2.1 x.2.1.2.2.1)
       (some ((2 : Int), x.2.2))
       (grd (inb (mget ieq (0 : Int) x.2.2 x.2.1.2.1) (len x.1.2.2.2.2.2.2.1))
        (bnd (event_Len N (lget x.1.2.2.2.2.2.2.1 (toN (mget ieq (0 : Int) x.2.2 x.2.1.2.1)) ((0 : Int), (((0 : Int), (0 : Int)), ([], ((0 : UInt8), ([], []))))))) fun v0 =>
        cnd (ilt v0 x.2.1.2.2.2.1)
         (some ((2 : Int), x.2.2))
         (some ((0 : Int), x.2.2)))))))))
def ps_document_comments : List PK := [.k (.v (.st (.pair (.str) (.pair (.str) (.pair (.u8) (.pair (.bool) (.pair (.int .i64) (.pair (.slice (.st (.pair (.str) (.pair (.int .i64) (.pair (.int .i64) (.pair (.int .i64) (.pair (.int .i64) (.pair (.u8) (.bool))))))))) (.pair (.slice (.st (.pair (.int .i64) (.pair (.st (.pair (.int .i64) (.int .i64))) (.pair (.str) (.pair (.u8) (.pair (.str) (.slice (.st (.slice (.st (.pair (.str) (.pair (.st (.pair (.u8) (.pair (.bool) (.bool)))) (.str)))))))))))))) (.slice (.st (.pair (.int .i64) (.pair (.int .i64) (.pair (.int .i64) (.pair (.int .i64) (.pair (.str) (.pair (.str) (.pair (.bool) (.bool)))))))))))))))))) []), .k (.m (.int .i64) (.int .i64))]
def rs_document_comments : List Kd := [.v (.int .i64) []]
def document_comments (N : Nat) (x : ((List UInt8) × (List UInt8) × UInt8 × Bool × Int × (List ((List UInt8) × Int × Int × Int × Int × UInt8 × Bool)) × (List (Int × (Int × Int) × (List UInt8) × UInt8 × (List UInt8) × List (List ((List UInt8) × (UInt8 × Bool × Bool) × List UInt8)))) × List (Int × Int × Int × Int × (List UInt8) × (List UInt8) × Bool × Bool)) × List (Int × Int)) : Option (Int × List (Int × Int)) :=
 cnd (ilt (64 : Int) (len x.1.2.2.2.2.2.2.2))
  (some ((9 : Int), x.2))
  (jn (fun (v0 : List (Int × Int)) =>
   some ((0 : Int), v0))
  fun v1 =>
  fixN (fun v2 (v3 : Int × List (Int × Int)) =>
   cnd (ilt v3.1 (len x.1.2.2.2.2.2.2.2))
    (grd (inb v3.1 (len x.1.2.2.2.2.2.2.2))
     (jn (fun (v4 : Unit) =>
      bnd (document_anchored N (x.1, lget x.1.2.2.2.2.2.2.2 (toN v3.1) ((0 : Int), ((0 : Int), ((0 : Int), ((0 : Int), ([], ([], (false, false))))))), v3.2)) fun v5 =>
      cnd (ine v5.1 (0 : Int))
       (some v5)
       (bnd (lines_Name N (lget x.1.2.2.2.2.2.2.2 (toN v3.1) ((0 : Int), ((0 : Int), ((0 : Int), ((0 : Int), ([], ([], (false, false)))))))).2.2.2.2.1) fun v6 =>
       cnd (bnot v6)
        (some ((5 : Int), v5.2))
        (bnd (charset_Valid N (lget x.1.2.2.2.2.2.2.2 (toN v3.1) ((0 : Int), ((0 : Int), ((0 : Int), ((0 : Int), ([], ([], (false, false)))))))).2.2.2.2.2.1) fun v7 =>
        cnd (bnot v7)
         (some ((10 : Int), v5.2))
         (cnd (seq (lget x.1.2.2.2.2.2.2.2 (toN v3.1) ((0 : Int), ((0 : Int), ((0 : Int), ((0 : Int), ([], ([], (false, false)))))))).2.2.2.2.2.1 ([] : List UInt8))
          (some ((4 : Int), v5.2))
          (cnd (ilt (400 : Int) (len (lget x.1.2.2.2.2.2.2.2 (toN v3.1) ((0 : Int), ((0 : Int), ((0 : Int), ((0 : Int), ([], ([], (false, false)))))))).2.2.2.2.2.1))
           (some ((9 : Int), v5.2))
           (v2 (w64 (iadd v3.1 (1 : Int)), v5.2)))))))
     fun v8 =>
     cnd (ilt (lget x.1.2.2.2.2.2.2.2 (toN v3.1) ((0 : Int), ((0 : Int), ((0 : Int), ((0 : Int), ([], ([], (false, false)))))))).1 (1 : Int))
      (some ((2 : Int), v3.2))
      (cnd (ilt x.1.2.2.2.2.1 (lget x.1.2.2.2.2.2.2.2 (toN v3.1) ((0 : Int), ((0 : Int), ((0 : Int), ((0 : Int), ([], ([], (false, false)))))))).1)
       (some ((2 : Int), v3.2))
       (cnd (ilt (0 : Int) v3.1)
        (grd (inb (w64 (isub v3.1 (1 : Int))) (len x.1.2.2.2.2.2.2.2))
         (cnd (ile (lget x.1.2.2.2.2.2.2.2 (toN v3.1) ((0 : Int), ((0 : Int), ((0 : Int), ((0 : Int), ([], ([], (false, false)))))))).1 (lget x.1.2.2.2.2.2.2.2 (toN (w64 (isub v3.1 (1 : Int)))) ((0 : Int), ((0 : Int), ((0 : Int), ((0 : Int), ([], ([], (false, false)))))))).1)
          (some ((8 : Int), v3.2))
          (cnd (mhas ieq v3.2 (lget x.1.2.2.2.2.2.2.2 (toN v3.1) ((0 : Int), ((0 : Int), ((0 : Int), ((0 : Int), ([], ([], (false, false)))))))).1)
           (some ((7 : Int), v3.2))
           (v8 ()))))
        (cnd (mhas ieq v3.2 (lget x.1.2.2.2.2.2.2.2 (toN v3.1) ((0 : Int), ((0 : Int), ((0 : Int), ((0 : Int), ([], ([], (false, false)))))))).1)
         (some ((7 : Int), v3.2))
         (v8 ()))))))
    (v1 v3.2)) N ((0 : Int), x.2))
def ps_document_Check : List PK := [.k (.v (.st (.pair (.str) (.pair (.str) (.pair (.u8) (.pair (.bool) (.pair (.int .i64) (.pair (.slice (.st (.pair (.str) (.pair (.int .i64) (.pair (.int .i64) (.pair (.int .i64) (.pair (.int .i64) (.pair (.u8) (.bool))))))))) (.pair (.slice (.st (.pair (.int .i64) (.pair (.st (.pair (.int .i64) (.int .i64))) (.pair (.str) (.pair (.u8) (.pair (.str) (.slice (.st (.slice (.st (.pair (.str) (.pair (.st (.pair (.u8) (.pair (.bool) (.bool)))) (.str)))))))))))))) (.slice (.st (.pair (.int .i64) (.pair (.int .i64) (.pair (.int .i64) (.pair (.int .i64) (.pair (.str) (.pair (.str) (.pair (.bool) (.bool)))))))))))))))))) [])]
def rs_document_Check : List Kd := [.v (.int .i64) []]
def document_Check (N : Nat) (x : (List UInt8) × (List UInt8) × UInt8 × Bool × Int × (List ((List UInt8) × Int × Int × Int × Int × UInt8 × Bool)) × (List (Int × (Int × Int) × (List UInt8) × UInt8 × (List UInt8) × List (List ((List UInt8) × (UInt8 × Bool × Bool) × List UInt8)))) × List (Int × Int × Int × Int × (List UInt8) × (List UInt8) × Bool × Bool)) : Option (Int) :=
 bnd (document_header N x) fun v0 =>
 cnd (ine v0 (0 : Int))
  (some v0)
  (bnd (region_CheckList N x.2.2.2.2.2.1) fun v1 =>
  cnd (ine v1 (0 : Int))
   (some v1)
   (cnd (ilt (400 : Int) (len x.2.2.2.2.2.2.1))
    (some (9 : Int))
    (jn (fun (v2 : List (Int × Int)) =>
     bnd (document_comments N (x, v2)) fun v3 =>
     some v3.1)
    fun v4 =>
    fixN (fun v5 (v6 : Int × List (Int × Int)) =>
     cnd (ilt v6.1 (len x.2.2.2.2.2.2.1))
      (grd (inb v6.1 (len x.2.2.2.2.2.2.1))
       (bnd (event_Check N (lget x.2.2.2.2.2.2.1 (toN v6.1) ((0 : Int), (((0 : Int), (0 : Int)), ([], ((0 : UInt8), ([], []))))), x.2.2.2.2.2.1)) fun v7 =>
       cnd (ine v7 (0 : Int))
        (some v7)
        (cnd (ilt x.2.2.2.2.1 (lget x.2.2.2.2.2.2.1 (toN v6.1) ((0 : Int), (((0 : Int), (0 : Int)), ([], ((0 : UInt8), ([], [])))))).1)
         (some (2 : Int))
         (cnd (ilt (0 : Int) v6.1)
          (grd (inb (w64 (isub v6.1 (1 : Int))) (len x.2.2.2.2.2.2.1))
           (bnd (event_Less N (lget x.2.2.2.2.2.2.1 (toN (w64 (isub v6.1 (1 : Int)))) ((0 : Int), (((0 : Int), (0 : Int)), ([], ((0 : UInt8), ([], []))))), lget x.2.2.2.2.2.2.1 (toN v6.1) ((0 : Int), (((0 : Int), (0 : Int)), ([], ((0 : UInt8), ([], []))))))) fun v8 =>
           cnd (bnot v8)
            (some (8 : Int))
            (cnd (mhas ieq v6.2 (lget x.2.2.2.2.2.2.1 (toN v6.1) ((0 : Int), (((0 : Int), (0 : Int)), ([], ((0 : UInt8), ([], [])))))).1)
             (some (7 : Int))
             (v5 (w64 (iadd v6.1 (1 : Int)), mput ieq v6.2 (lget x.2.2.2.2.2.2.1 (toN v6.1) ((0 : Int), (((0 : Int), (0 : Int)), ([], ((0 : UInt8), ([], [])))))).1 v6.1)))))
          (cnd (mhas ieq v6.2 (lget x.2.2.2.2.2.2.1 (toN v6.1) ((0 : Int), (((0 : Int), (0 : Int)), ([], ((0 : UInt8), ([], [])))))).1)
           (some (7 : Int))
           (v5 (w64 (iadd v6.1 (1 : Int)), mput ieq v6.2 (lget x.2.2.2.2.2.2.1 (toN v6.1) ((0 : Int), (((0 : Int), (0 : Int)), ([], ((0 : UInt8), ([], [])))))).1 v6.1)))))))
      (v4 v6.2)) N ((0 : Int), ([] : List (Int × Int))))))
def ps_timebase_Ticks : List PK := [.k (.v (.u8) [])]
def rs_timebase_Ticks : List Kd := [.v (.int .i64) []]
def timebase_Ticks (N : Nat) (x : UInt8) : Option (Int) :=
 bnd (timebase_of N x) fun v0 =>
 some v0.2.1
def ps_timebase_Time : List PK := [.k (.v (.u8) []), .k (.v (.int .i64) [])]
def rs_timebase_Time : List Kd := [.v (.int .i64) [], .v (.int .i64) []]
def timebase_Time (N : Nat) (x : UInt8 × Int) : Option (Int × Int) :=
 bnd (timebase_Valid N x.1) fun v0 =>
 cnd (bnot v0)
  (some ((0 : Int), (3 : Int)))
  (cnd (ilt x.2 (0 : Int))
   (some ((0 : Int), (2 : Int)))
   (bnd (timebase_Ticks N x.1) fun v1 =>
   grd (ine v1 (0 : Int)) <|
   cnd (ilt (w64 (idiv (10378368000 : Int) v1)) x.2)
    (some ((0 : Int), (2 : Int)))
    (bnd (timebase_Ticks N x.1) fun v2 =>
    some (w64 (imul x.2 v2), (0 : Int)))))
def ps_ratio_known : List PK := [.k (.v (.u8) [])]
def rs_ratio_known : List Kd := [.v (.bool) []]
def ratio_known (N : Nat) (x : UInt8) : Option (Bool) :=
 cnd (ile (n8 (1 : UInt8)) (n8 x))
  (some (ile (n8 x) (n8 (3 : UInt8))))
  (some false)
def ps_ratio_size : List PK := [.k (.v (.int .i64) [])]
def rs_ratio_size : List Kd := [.v (.int .u64) []]
def ratio_size (N : Nat) (x : Int) : Option (Int) :=
 cnd (ilt x (0 : Int))
  (some (wr .u64 (isub (0 : Int) (wr .u64 x))))
  (some (wr .u64 x))
def ps_ratio_away : List PK := [.k (.v (.bool) []), .k (.v (.int .u64) []), .k (.v (.int .u64) []), .k (.v (.u8) [])]
def rs_ratio_away : List Kd := [.v (.bool) []]
def ratio_away (N : Nat) (x : Bool × Int × Int × UInt8) : Option (Bool) :=
 cnd (ieq x.2.1 (0 : Int))
  (some false)
  (cnd (ieq (n8 x.2.2.2) (n8 (1 : UInt8)))
   (some x.1)
   (cnd (ieq (n8 x.2.2.2) (n8 (3 : UInt8)))
    (some (bnot x.1))
    (cnd (ilt (wr .u64 (isub x.2.2.1 x.2.1)) x.2.1)
     (some true)
     (cnd (ieq x.2.1 (wr .u64 (isub x.2.2.1 x.2.1)))
      (some (bnot x.1))
      (some false)))))
def ps_ratio_Quotient : List PK := [.k (.v (.int .i64) []), .k (.v (.int .i64) []), .k (.v (.u8) [])]
def rs_ratio_Quotient : List Kd := [.v (.int .i64) [], .v (.int .i64) []]
def ratio_Quotient (N : Nat) (x : Int × Int × UInt8) : Option (Int × Int) :=
 cnd (ieq x.2.1 (0 : Int))
  (some ((0 : Int), (1 : Int)))
  (bnd (ratio_known N x.2.2) fun v0 =>
  cnd (bnot v0)
   (some ((0 : Int), (3 : Int)))
   (bnd (ratio_size N x.1) fun v1 =>
   bnd (ratio_size N x.2.1) fun v2 =>
   grd (ine v2 (0 : Int)) <|
   bnd (ratio_size N x.1) fun v3 =>
   bnd (ratio_size N x.2.1) fun v4 =>
   grd (ine v4 (0 : Int)) <|
   jn (fun (v5 : Int) =>
    cnd (bneb (ilt x.1 (0 : Int)) (ilt x.2.1 (0 : Int)))
     (some (w64 (wr .u64 (isub (0 : Int) v5)), (0 : Int)))
     (cnd (ilt (9223372036854775807 : Int) v5)
      (some ((0 : Int), (2 : Int)))
      (some (w64 v5, (0 : Int)))))
   fun v6 =>
   bnd (ratio_size N x.2.1) fun v7 =>
   bnd (ratio_away N (bneb (ilt x.1 (0 : Int)) (ilt x.2.1 (0 : Int)), imod v3 v4, v7, x.2.2)) fun v8 =>
   cnd v8
    (v6 (wr .u64 (iadd (wr .u64 (idiv v1 v2)) (1 : Int))))
    (v6 (wr .u64 (idiv v1 v2)))))
def ps_timebase_Millis : List PK := [.k (.v (.u8) []), .k (.v (.int .i64) [])]
def rs_timebase_Millis : List Kd := [.v (.int .i64) [], .v (.int .i64) []]
def timebase_Millis (N : Nat) (x : UInt8 × Int) : Option (Int × Int) :=
 bnd (timebase_Time N x) fun v0 =>
 cnd (ine v0.2 (0 : Int))
  (some ((0 : Int), v0.2))
  (bnd (ratio_Quotient N (v0.1, (120 : Int), (2 : UInt8))) fun v1 =>
  some v1)
def ps_istrconv_small : List PK := [.k (.v (.int .i64) [])]
def rs_istrconv_small : List Kd := [.v (.str) []]
def istrconv_small (N : Nat) (x : Int) : Option (List UInt8) :=
 cnd (ilt x (10 : Int))
  (grd (in3 x (w64 (iadd x (1 : Int))) (len ([48, 49, 50, 51, 52, 53, 54, 55, 56, 57, 97, 98, 99, 100, 101, 102, 103, 104, 105, 106, 107, 108, 109, 110, 111, 112, 113, 114, 115, 116, 117, 118, 119, 120, 121, 122] : List UInt8)))
   (some (ldrop (toN x) (ltake (toN (w64 (iadd x (1 : Int)))) ([48, 49, 50, 51, 52, 53, 54, 55, 56, 57, 97, 98, 99, 100, 101, 102, 103, 104, 105, 106, 107, 108, 109, 110, 111, 112, 113, 114, 115, 116, 117, 118, 119, 120, 121, 122] : List UInt8)))))
  (grd (in3 (w64 (imul x (2 : Int))) (w64 (iadd (w64 (imul x (2 : Int))) (2 : Int))) (len ([48, 48, 48, 49, 48, 50, 48, 51, 48, 52, 48, 53, 48, 54, 48, 55, 48, 56, 48, 57, 49, 48, 49, 49, 49, 50, 49, 51, 49, 52, 49, 53, 49, 54, 49, 55, 49, 56, 49, 57, 50, 48, 50, 49, 50, 50, 50, 51, 50, 52, 50, 53, 50, 54, 50, 55, 50, 56, 50, 57, 51, 48, 51, 49, 51, 50, 51, 51, 51, 52, 51, 53, 51, 54, 51, 55, 51, 56, 51, 57, 52, 48, 52, 49, 52, 50, 52, 51, 52, 52, 52, 53, 52, 54, 52, 55, 52, 56, 52, 57, 53, 48, 53, 49, 53, 50, 53, 51, 53, 52, 53, 53, 53, 54, 53, 55, 53, 56, 53, 57, 54, 48, 54, 49, 54, 50, 54, 51, 54, 52, 54, 53, 54, 54, 54, 55, 54, 56, 54, 57, 55, 48, 55, 49, 55, 50, 55, 51, 55, 52, 55, 53, 55, 54, 55, 55, 55, 56, 55, 57, 56, 48, 56, 49, 56, 50, 56, 51, 56, 52, 56, 53, 56, 54, 56, 55, 56, 56, 56, 57, 57, 48, 57, 49, 57, 50, 57, 51, 57, 52, 57, 53, 57, 54, 57, 55, 57, 56, 57, 57] : List UInt8)))
   (some (ldrop (toN (w64 (imul x (2 : Int)))) (ltake (toN (w64 (iadd (w64 (imul x (2 : Int))) (2 : Int)))) ([48, 48, 48, 49, 48, 50, 48, 51, 48, 52, 48, 53, 48, 54, 48, 55, 48, 56, 48, 57, 49, 48, 49, 49, 49, 50, 49, 51, 49, 52, 49, 53, 49, 54, 49, 55, 49, 56, 49, 57, 50, 48, 50, 49, 50, 50, 50, 51, 50, 52, 50, 53, 50, 54, 50, 55, 50, 56, 50, 57, 51, 48, 51, 49, 51, 50, 51, 51, 51, 52, 51, 53, 51, 54, 51, 55, 51, 56, 51, 57, 52, 48, 52, 49, 52, 50, 52, 51, 52, 52, 52, 53, 52, 54, 52, 55, 52, 56, 52, 57, 53, 48, 53, 49, 53, 50, 53, 51, 53, 52, 53, 53, 53, 54, 53, 55, 53, 56, 53, 57, 54, 48, 54, 49, 54, 50, 54, 51, 54, 52, 54, 53, 54, 54, 54, 55, 54, 56, 54, 57, 55, 48, 55, 49, 55, 50, 55, 51, 55, 52, 55, 53, 55, 54, 55, 55, 55, 56, 55, 57, 56, 48, 56, 49, 56, 50, 56, 51, 56, 52, 56, 53, 56, 54, 56, 55, 56, 56, 56, 57, 57, 48, 57, 49, 57, 50, 57, 51, 57, 52, 57, 53, 57, 54, 57, 55, 57, 56, 57, 57] : List UInt8)))))
def ps_bits_Len64 : List PK := [.k (.v (.int .u64) [])]
def rs_bits_Len64 : List Kd := [.v (.int .i64) []]
def bits_Len64 (N : Nat) (x : Int) : Option (Int) :=
 jn (fun (v0 : Int × Int) =>
  jn (fun (v1 : Int × Int) =>
   cnd (ile (256 : Int) v1.1)
    (grd (inb (n8 (b8 (shrk .u64 v1.1 (8 : Int)))) (len ([0, 1, 2, 2, 3, 3, 3, 3, 4, 4, 4, 4, 4, 4, 4, 4, 5, 5, 5, 5, 5, 5, 5, 5, 5, 5, 5, 5, 5, 5, 5, 5, 6, 6, 6, 6, 6, 6, 6, 6, 6, 6, 6, 6, 6, 6, 6, 6, 6, 6, 6, 6, 6, 6, 6, 6, 6, 6, 6, 6, 6, 6, 6, 6, 7, 7, 7, 7, 7, 7, 7, 7, 7, 7, 7, 7, 7, 7, 7, 7, 7, 7, 7, 7, 7, 7, 7, 7, 7, 7, 7, 7, 7, 7, 7, 7, 7, 7, 7, 7, 7, 7, 7, 7, 7, 7, 7, 7, 7, 7, 7, 7, 7, 7, 7, 7, 7, 7, 7, 7, 7, 7, 7, 7, 7, 7, 7, 7, 8, 8, 8, 8, 8, 8, 8, 8, 8, 8, 8, 8, 8, 8, 8, 8, 8, 8, 8, 8, 8, 8, 8, 8, 8, 8, 8, 8, 8, 8, 8, 8, 8, 8, 8, 8, 8, 8, 8, 8, 8, 8, 8, 8, 8, 8, 8, 8, 8, 8, 8, 8, 8, 8, 8, 8, 8, 8, 8, 8, 8, 8, 8, 8, 8, 8, 8, 8, 8, 8, 8, 8, 8, 8, 8, 8, 8, 8, 8, 8, 8, 8, 8, 8, 8, 8, 8, 8, 8, 8, 8, 8, 8, 8, 8, 8, 8, 8, 8, 8, 8, 8, 8, 8, 8, 8, 8, 8, 8, 8, 8, 8, 8, 8, 8, 8, 8, 8, 8, 8, 8, 8, 8, 8, 8, 8, 8, 8] : List UInt8)))
     (some (w64 (iadd (w64 (iadd v1.2 (8 : Int))) (w64 (n8 (lget ([0, 1, 2, 2, 3, 3, 3, 3, 4, 4, 4, 4, 4, 4, 4, 4, 5, 5, 5, 5, 5, 5, 5, 5, 5, 5, 5, 5, 5, 5, 5, 5, 6, 6, 6, 6, 6, 6, 6, 6, 6, 6, 6, 6, 6, 6, 6, 6, 6, 6, 6, 6, 6, 6, 6, 6, 6, 6, 6, 6, 6, 6, 6, 6, 7, 7, 7, 7, 7, 7, 7, 7, 7, 7, 7, 7, 7, 7, 7, 7, 7, 7, 7, 7, 7, 7, 7, 7, 7, 7, 7, 7, 7, 7, 7, 7, 7, 7, 7, 7, 7, 7, 7, 7, 7, 7, 7, 7, 7, 7, 7, 7, 7, 7, 7, 7, 7, 7, 7, 7, 7, 7, 7, 7, 7, 7, 7, 7, 8, 8, 8, 8, 8, 8, 8, 8, 8, 8, 8, 8, 8, 8, 8, 8, 8, 8, 8, 8, 8, 8, 8, 8, 8, 8, 8, 8, 8, 8, 8, 8, 8, 8, 8, 8, 8, 8, 8, 8, 8, 8, 8, 8, 8, 8, 8, 8, 8, 8, 8, 8, 8, 8, 8, 8, 8, 8, 8, 8, 8, 8, 8, 8, 8, 8, 8, 8, 8, 8, 8, 8, 8, 8, 8, 8, 8, 8, 8, 8, 8, 8, 8, 8, 8, 8, 8, 8, 8, 8, 8, 8, 8, 8, 8, 8, 8, 8, 8, 8, 8, 8, 8, 8, 8, 8, 8, 8, 8, 8, 8, 8, 8, 8, 8, 8, 8, 8, 8, 8, 8, 8, 8, 8, 8, 8, 8, 8] : List UInt8) (toN (n8 (b8 (shrk .u64 v1.1 (8 : Int))))) (0 : UInt8))))))))
    (grd (inb (n8 (b8 v1.1)) (len ([0, 1, 2, 2, 3, 3, 3, 3, 4, 4, 4, 4, 4, 4, 4, 4, 5, 5, 5, 5, 5, 5, 5, 5, 5, 5, 5, 5, 5, 5, 5, 5, 6, 6, 6, 6, 6, 6, 6, 6, 6, 6, 6, 6, 6, 6, 6, 6, 6, 6, 6, 6, 6, 6, 6, 6, 6, 6, 6, 6, 6, 6, 6, 6, 7, 7, 7, 7, 7, 7, 7, 7, 7, 7, 7, 7, 7, 7, 7, 7, 7, 7, 7, 7, 7, 7, 7, 7, 7, 7, 7, 7, 7, 7, 7, 7, 7, 7, 7, 7, 7, 7, 7, 7, 7, 7, 7, 7, 7, 7, 7, 7, 7, 7, 7, 7, 7, 7, 7, 7, 7, 7, 7, 7, 7, 7, 7, 7, 8, 8, 8, 8, 8, 8, 8, 8, 8, 8, 8, 8, 8, 8, 8, 8, 8, 8, 8, 8, 8, 8, 8, 8, 8, 8, 8, 8, 8, 8, 8, 8, 8, 8, 8, 8, 8, 8, 8, 8, 8, 8, 8, 8, 8, 8, 8, 8, 8, 8, 8, 8, 8, 8, 8, 8, 8, 8, 8, 8, 8, 8, 8, 8, 8, 8, 8, 8, 8, 8, 8, 8, 8, 8, 8, 8, 8, 8, 8, 8, 8, 8, 8, 8, 8, 8, 8, 8, 8, 8, 8, 8, 8, 8, 8, 8, 8, 8, 8, 8, 8, 8, 8, 8, 8, 8, 8, 8, 8, 8, 8, 8, 8, 8, 8, 8, 8, 8, 8, 8, 8, 8, 8, 8, 8, 8, 8, 8] : List UInt8)))
     (some (w64 (iadd v1.2 (w64 (n8 (lget ([0, 1, 2, 2, 3, 3, 3, 3, 4, 4, 4, 4, 4, 4, 4, 4, 5, 5, 5, 5, 5, 5, 5, 5, 5, 5, 5, 5, 5, 5, 5, 5, 6, 6, 6, 6, 6, 6, 6, 6, 6, 6, 6, 6, 6, 6, 6, 6, 6, 6, 6, 6, 6, 6, 6, 6, 6, 6, 6, 6, 6, 6, 6, 6, 7, 7, 7, 7, 7, 7, 7, 7, 7, 7, 7, 7, 7, 7, 7, 7, 7, 7, 7, 7, 7, 7, 7, 7, 7, 7, 7, 7, 7, 7, 7, 7, 7, 7, 7, 7, 7, 7, 7, 7, 7, 7, 7, 7, 7, 7, 7, 7, 7, 7, 7, 7, 7, 7, 7, 7, 7, 7, 7, 7, 7, 7, 7, 7, 8, 8, 8, 8, 8, 8, 8, 8, 8, 8, 8, 8, 8, 8, 8, 8, 8, 8, 8, 8, 8, 8, 8, 8, 8, 8, 8, 8, 8, 8, 8, 8, 8, 8, 8, 8, 8, 8, 8, 8, 8, 8, 8, 8, 8, 8, 8, 8, 8, 8, 8, 8, 8, 8, 8, 8, 8, 8, 8, 8, 8, 8, 8, 8, 8, 8, 8, 8, 8, 8, 8, 8, 8, 8, 8, 8, 8, 8, 8, 8, 8, 8, 8, 8, 8, 8, 8, 8, 8, 8, 8, 8, 8, 8, 8, 8, 8, 8, 8, 8, 8, 8, 8, 8, 8, 8, 8, 8, 8, 8, 8, 8, 8, 8, 8, 8, 8, 8, 8, 8, 8, 8, 8, 8, 8, 8, 8, 8] : List UInt8) (toN (n8 (b8 v1.1))) (0 : UInt8)))))))))
  fun v2 =>
  cnd (ile (65536 : Int) v0.1)
   (v2 (shrk .u64 v0.1 (16 : Int), w64 (iadd v0.2 (16 : Int))))
   (v2 v0))
 fun v3 =>
 cnd (ile (4294967296 : Int) x)
  (v3 (shrk .u64 x (32 : Int), (32 : Int)))
  (v3 (x, (0 : Int)))
def ps_istrconv_log10Pow2 : List PK := [.k (.v (.int .i64) [])]
def rs_istrconv_log10Pow2 : List Kd := [.v (.int .i64) []]
def istrconv_log10Pow2 (N : Nat) (x : Int) : Option (Int) :=
 some (shrk .i64 (w64 (imul x (78913 : Int))) (18 : Int))
def ps_istrconv_bool2_int : List PK := [.k (.v (.bool) [])]
def rs_istrconv_bool2_int : List Kd := [.v (.int .i64) []]
def istrconv_bool2_int (N : Nat) (x : Bool) : Option (Int) :=
 cnd x
  (some (1 : Int))
  (some (0 : Int))
def ps_istrconv_numDigits : List PK := [.k (.v (.int .u64) [])]
def rs_istrconv_numDigits : List Kd := [.v (.int .i64) []]
def istrconv_numDigits (N : Nat) (x : Int) : Option (Int) :=
 bnd (bits_Len64 N x) fun v0 =>
 bnd (istrconv_log10Pow2 N v0) fun v1 =>
 grd (inb v1 (ofN 20)) <|
 bnd (istrconv_bool2_int N (ile (lget gl3 (toN v1) (0 : Int)) x)) fun v2 =>
 some (w64 (iadd v1 v2))
def ps_istrconv_isPowerOfTwo : List PK := [.k (.v (.int .i64) [])]
def rs_istrconv_isPowerOfTwo : List Kd := [.v (.bool) []]
def istrconv_isPowerOfTwo (N : Nat) (x : Int) : Option (Bool) :=
 some (ieq (bitb .and .i64 x (w64 (isub x (1 : Int)))) (0 : Int))
def ps_bits_TrailingZeros32 : List PK := [.k (.v (.int .u32) [])]
def rs_bits_TrailingZeros32 : List Kd := [.v (.int .i64) []]
def bits_TrailingZeros32 (N : Nat) (x : Int) : Option (Int) :=
 cnd (ieq x (0 : Int))
  (some (32 : Int))
  none
def ps_bits_TrailingZeros64 : List PK := [.k (.v (.int .u64) [])]
def rs_bits_TrailingZeros64 : List Kd := [.v (.int .i64) []]
def bits_TrailingZeros64 (N : Nat) (x : Int) : Option (Int) :=
 cnd (ieq x (0 : Int))
  (some (64 : Int))
  none
def ps_bits_TrailingZeros : List PK := [.k (.v (.int .u64) [])]
def rs_bits_TrailingZeros : List Kd := [.v (.int .i64) []]
def bits_TrailingZeros (N : Nat) (x : Int) : Option (Int) :=
 bnd (bits_TrailingZeros64 N x) fun v0 =>
 some v0
def ps_istrconv_FormatInt : List PK := [.k (.v (.int .i64) []), .k (.v (.int .i64) [])]
def rs_istrconv_FormatInt : List Kd := [.v (.str) []]
def istrconv_FormatInt (N : Nat) (x : Int × Int) : Option (List UInt8) := hand_istrconv_FormatInt N x
def ps_strconv_FormatInt : List PK := [.k (.v (.int .i64) []), .k (.v (.int .i64) [])]
def rs_strconv_FormatInt : List Kd := [.v (.str) []]
def strconv_FormatInt (N : Nat) (x : Int × Int) : Option (List UInt8) :=
 bnd (istrconv_FormatInt N x) fun v0 =>
 some v0
def ps_lines_Decimal : List PK := [.k (.v (.int .i64) [])]
def rs_lines_Decimal : List Kd := [.v (.str) []]
def lines_Decimal (N : Nat) (x : Int) : Option (List UInt8) :=
 bnd (strconv_FormatInt N (x, (10 : Int))) fun v0 =>
 some v0
def ps_subrip_digits : List PK := [.k (.v (.int .i64) []), .k (.v (.int .i64) [])]
def rs_subrip_digits : List Kd := [.v (.str) []]
def subrip_digits (N : Nat) (x : Int × Int) : Option (List UInt8) :=
 bnd (lines_Decimal N x.1) fun v0 =>
 jn (fun (v1 : List UInt8) =>
  some v1)
 fun v2 =>
 fixN (fun v3 (v4 : List UInt8) =>
  cnd (ilt (len v4) x.2)
   (grd (catOk (iadd (len ([48] : List UInt8)) (len v4)))
    (v3 (lapp ([48] : List UInt8) v4)))
   (v2 v4)) N v0
def ps_subrip_Clock : List PK := [.k (.v (.int .i64) [])]
def rs_subrip_Clock : List Kd := [.v (.str) [], .v (.int .i64) []]
def subrip_Clock (N : Nat) (x : Int) : Option (List UInt8 × Int) :=
 cnd (ilt x (0 : Int))
  (some (([] : List UInt8), (2 : Int)))
  (cnd (ilt (359999999 : Int) x)
   (some (([] : List UInt8), (2 : Int)))
   (bnd (subrip_digits N (w64 (idiv (w64 (idiv x (1000 : Int))) (3600 : Int)), (2 : Int))) fun v0 =>
   grd (catOk (iadd (len v0) (len ([58] : List UInt8)))) <|
   bnd (subrip_digits N (imod (w64 (idiv (w64 (idiv x (1000 : Int))) (60 : Int))) (60 : Int), (2 : Int))) fun v1 =>
   grd (catOk (iadd (len (lapp v0 ([58] : List UInt8))) (len v1))) <|
   grd (catOk (iadd (len (lapp (lapp v0 ([58] : List UInt8)) v1)) (len ([58] : List UInt8)))) <|
   bnd (subrip_digits N (imod (w64 (idiv x (1000 : Int))) (60 : Int), (2 : Int))) fun v2 =>
   grd (catOk (iadd (len (lapp (lapp (lapp v0 ([58] : List UInt8)) v1) ([58] : List UInt8))) (len v2))) <|
   grd (catOk (iadd (len (lapp (lapp (lapp (lapp v0 ([58] : List UInt8)) v1) ([58] : List UInt8)) v2)) (len ([44] : List UInt8)))) <|
   bnd (subrip_digits N (imod x (1000 : Int), (3 : Int))) fun v3 =>
   grd (catOk (iadd (len (lapp (lapp (lapp (lapp (lapp v0 ([58] : List UInt8)) v1) ([58] : List UInt8)) v2) ([44] : List UInt8))) (len v3))) <|
   some (lapp (lapp (lapp (lapp (lapp (lapp v0 ([58] : List UInt8)) v1) ([58] : List UInt8)) v2) ([44] : List UInt8)) v3, (0 : Int))))
def ps_strings_IndexByte : List PK := [.k (.v (.str) []), .k (.v (.u8) [])]
def rs_strings_IndexByte : List Kd := [.v (.int .i64) []]
def strings_IndexByte (N : Nat) (x : List UInt8 × UInt8) : Option (Int) :=
 bnd (stringslite_IndexByte N x) fun v0 =>
 some v0
def ps_utf8_ValidRune : List PK := [.k (.v (.int .i32) [])]
def rs_utf8_ValidRune : List Kd := [.v (.bool) []]
def utf8_ValidRune (N : Nat) (x : Int) : Option (Bool) :=
 cnd (ile (0 : Int) x)
  (cnd (ilt x (55296 : Int))
   (some true)
   (cnd (ilt (57343 : Int) x)
    (cnd (ile x (1114111 : Int))
     (some true)
     (some false))
    (some false)))
  (cnd (ilt (57343 : Int) x)
   (cnd (ile x (1114111 : Int))
    (some true)
    (some false))
   (some false))
def ps_strings_IndexRune : List PK := [.k (.v (.str) []), .k (.v (.int .i32) [])]
def rs_strings_IndexRune : List Kd := [.v (.int .i64) []]
def strings_IndexRune (N : Nat) (x : List UInt8 × Int) : Option (Int) :=
 jn (fun (v0 : Bool) =>
  cnd v0
   (bnd (strings_IndexByte N (x.1, b8 x.2)) fun v1 =>
   some v1)
   (cnd (ieq x.2 (65533 : Int))
    (jn (fun (v2 : Unit) =>
     some (-1 : Int))
    fun v3 =>
    fixN (fun v4 (v5 : (List UInt8) × Int) =>
     cnd (nlt (toN v5.2) (nlen v5.1))
      (cnd (ieq (decR v5.1 (toN v5.2)) (65533 : Int))
       (some (ofN (toN v5.2)))
       (v4 (v5.1, ofN (nadd (toN v5.2) (decW v5.1 (toN v5.2))))))
      (v3 ())) N (x.1, ofN 0))
    (bnd (utf8_ValidRune N x.2) fun v6 =>
    cnd (bnot v6)
     (some (-1 : Int))
     (jn (fun (v7 : Unit) =>
      some (-1 : Int))
     fun v8 =>
     fixN (fun v9 (v10 : Int × Int) =>
      cnd (ilt v10.1 (len x.1))
       (jn (fun (v11 : Int) =>
        jn (fun (v12 : Unit) =>
         some (w64 (isub v11 (w64 (isub (len (enc x.2)) (1 : Int))))))
        fun v13 =>
        fixN (fun v14 (v15 : Int) =>
         cnd (ilt v15 (len (enc x.2)))
          (grd (inb (w64 (isub v11 v15)) (len x.1))
           (grd (inb (w64 (isub (w64 (isub (len (enc x.2)) (1 : Int))) v15)) (len (enc x.2)))
            (cnd (ine (n8 (lget x.1 (toN (w64 (isub v11 v15))) (0 : UInt8))) (n8 (lget (enc x.2) (toN (w64 (isub (w64 (isub (len (enc x.2)) (1 : Int))) v15))) (0 : UInt8))))
             (bnd (bytealg_Cutover N (w64 (iadd v11 (1 : Int)))) fun v16 =>
             cnd (ilt v16 (w64 (iadd v10.2 (1 : Int))))
              (cnd (ilt (w64 (iadd v11 (1 : Int))) (len x.1))
               (grd (in2 (w64 (isub (w64 (iadd v11 (1 : Int))) (w64 (isub (len (enc x.2)) (1 : Int))))) (len x.1))
                none)
               (v9 (w64 (iadd v11 (1 : Int)), w64 (iadd v10.2 (1 : Int)))))
              (v9 (w64 (iadd v11 (1 : Int)), w64 (iadd v10.2 (1 : Int)))))
             (v14 (w64 (iadd v15 (1 : Int)))))))
          (v13 ())) N (1 : Int))
       fun v17 =>
       grd (inb v10.1 (len x.1)) <|
       grd (inb (w64 (isub (len (enc x.2)) (1 : Int))) (len (enc x.2))) <|
       cnd (ine (n8 (lget x.1 (toN v10.1) (0 : UInt8))) (n8 (lget (enc x.2) (toN (w64 (isub (len (enc x.2)) (1 : Int)))) (0 : UInt8))))
        (grd (in2 (w64 (iadd v10.1 (1 : Int))) (len x.1))
         (grd (inb (w64 (isub (len (enc x.2)) (1 : Int))) (len (enc x.2)))
          (bnd (strings_IndexByte N (ldrop (toN (w64 (iadd v10.1 (1 : Int)))) x.1, lget (enc x.2) (toN (w64 (isub (len (enc x.2)) (1 : Int)))) (0 : UInt8))) fun v18 =>
          cnd (ilt v18 (0 : Int))
           (some (-1 : Int))
           (v17 (w64 (iadd v10.1 (w64 (iadd v18 (1 : Int)))))))))
        (v17 v10.1))
       (v8 ())) N (w64 (isub (len (enc x.2)) (1 : Int)), (0 : Int))))))
 fun v19 =>
 cnd (ile (0 : Int) x.2)
  (v19 (ilt x.2 (128 : Int)))
  (v19 false)
def ps_strings_shouldUseASCIISet : List PK := [.k (.v (.int .i64) [])]
def rs_strings_shouldUseASCIISet : List Kd := [.v (.bool) []]
def strings_shouldUseASCIISet (N : Nat) (x : Int) : Option (Bool) :=
 some (ilt (8 : Int) x)
def ps_strings_IndexAny : List PK := [.k (.v (.str) []), .k (.v (.str) [])]
def rs_strings_IndexAny : List Kd := [.v (.int .i64) []]
def strings_IndexAny_s (N : Nat) (x : List UInt8 × List UInt8) : Option (Int) :=
 cnd (seq x.2 ([] : List UInt8))
  (some (-1 : Int))
  (cnd (ieq (len x.2) (1 : Int))
   (grd (inb (0 : Int) (len x.2))
    (cnd (ile (128 : Int) (wr .i32 (n8 (lget x.2 (toN (0 : Int)) (0 : UInt8)))))
     (bnd (strings_IndexRune N (x.1, (65533 : Int))) fun v0 =>
     some v0)
     (bnd (strings_IndexRune N (x.1, wr .i32 (n8 (lget x.2 (toN (0 : Int)) (0 : UInt8))))) fun v1 =>
     some v1)))
   (jn (fun (v2 : Unit) =>
    jn (fun (v3 : Unit) =>
     some (-1 : Int))
    fun v4 =>
    fixN (fun v5 (v6 : (List UInt8) × Int) =>
     cnd (nlt (toN v6.2) (nlen v6.1))
      (bnd (strings_IndexRune N (x.2, decR v6.1 (toN v6.2))) fun v7 =>
      cnd (ile (0 : Int) v7)
       (some (ofN (toN v6.2)))
       (v5 (v6.1, ofN (nadd (toN v6.2) (decW v6.1 (toN v6.2))))))
      (v4 ())) N (x.1, ofN 0))
   fun v8 =>
   bnd (strings_shouldUseASCIISet N (len x.1)) fun v9 =>
   cnd v9
    none
    (v8 ())))
def strings_IndexAny (N : Nat) (x : List UInt8 × List UInt8) : Option (Int) := bsel (longAny x) (some (Lib.indexAny x.1 x.2)) (strings_IndexAny_s N x)
def ps_strings_ContainsAny : List PK := [.k (.v (.str) []), .k (.v (.str) [])]
def rs_strings_ContainsAny : List Kd := [.v (.bool) []]
def strings_ContainsAny (N : Nat) (x : List UInt8 × List UInt8) : Option (Bool) :=
 bnd (strings_IndexAny N x) fun v0 =>
 some (ile (0 : Int) v0)
def ps_style_norm : List PK := [.k (.v (.slice (.st (.pair (.str) (.pair (.st (.pair (.u8) (.pair (.bool) (.bool)))) (.str))))) [])]
def rs_style_norm : List Kd := [.v (.st (.slice (.st (.pair (.str) (.pair (.st (.pair (.u8) (.pair (.bool) (.bool)))) (.str)))))) [0]]
def style_norm (N : Nat) (x : List ((List UInt8) × (UInt8 × Bool × Bool) × List UInt8)) : Option (List ((List UInt8) × (UInt8 × Bool × Bool) × List UInt8)) :=
 jn (fun (v0 : List ((List UInt8) × (UInt8 × Bool × Bool) × List UInt8)) =>
  some v0)
 fun v1 =>
 fixN (fun v2 (v3 : Int × List ((List UInt8) × (UInt8 × Bool × Bool) × List UInt8)) =>
  cnd (ilt v3.1 (len x))
   (grd (inb v3.1 (len x))
    (cnd (seq (lget x (toN v3.1) ([], (((0 : UInt8), (false, false)), []))).1 ([] : List UInt8))
     (v2 (w64 (iadd v3.1 (1 : Int)), v3.2))
     (cnd (ilt (0 : Int) (len v3.2))
      (grd (inb (w64 (isub (len v3.2) (1 : Int))) (len v3.2))
       (bnd (style_alike N (lget v3.2 (toN (w64 (isub (len v3.2) (1 : Int)))) ([], (((0 : UInt8), (false, false)), [])), lget x (toN v3.1) ([], (((0 : UInt8), (false, false)), [])))) fun v4 =>
       cnd v4
        (grd (inb (w64 (isub (len v3.2) (1 : Int))) (len v3.2))
         (grd (catOk (iadd (len (lget v3.2 (toN (w64 (isub (len v3.2) (1 : Int)))) ([], (((0 : UInt8), (false, false)), []))).1) (len (lget x (toN v3.1) ([], (((0 : UInt8), (false, false)), []))).1)))
          (grd (inb (w64 (isub (len v3.2) (1 : Int))) (len v3.2))
           (v2 (w64 (iadd v3.1 (1 : Int)), lset v3.2 (toN (w64 (isub (len v3.2) (1 : Int)))) (lapp (lget v3.2 (toN (w64 (isub (len v3.2) (1 : Int)))) ([], (((0 : UInt8), (false, false)), []))).1 (lget x (toN v3.1) ([], (((0 : UInt8), (false, false)), []))).1, (lget v3.2 (toN (w64 (isub (len v3.2) (1 : Int)))) ([], (((0 : UInt8), (false, false)), []))).2))))))
        (grd (room (iadd (len v3.2) (len ([lget x (toN v3.1) ([], (((0 : UInt8), (false, false)), []))] : List ((List UInt8) × (UInt8 × Bool × Bool) × List UInt8)))) 40)
         (v2 (w64 (iadd v3.1 (1 : Int)), lapp v3.2 ([lget x (toN v3.1) ([], (((0 : UInt8), (false, false)), []))] : List ((List UInt8) × (UInt8 × Bool × Bool) × List UInt8)))))))
      (grd (room (iadd (len v3.2) (len ([lget x (toN v3.1) ([], (((0 : UInt8), (false, false)), []))] : List ((List UInt8) × (UInt8 × Bool × Bool) × List UInt8)))) 40)
       (v2 (w64 (iadd v3.1 (1 : Int)), lapp v3.2 ([lget x (toN v3.1) ([], (((0 : UInt8), (false, false)), []))] : List ((List UInt8) × (UInt8 × Bool × Bool) × List UInt8))))))))
   (v1 v3.2)) N ((0 : Int), ([] : List ((List UInt8) × (UInt8 × Bool × Bool) × List UInt8)))
def ps_style_Norm : List PK := [.k (.v (.st (.slice (.st (.pair (.str) (.pair (.st (.pair (.u8) (.pair (.bool) (.bool)))) (.str)))))) [])]
def rs_style_Norm : List Kd := [.v (.st (.slice (.st (.pair (.str) (.pair (.st (.pair (.u8) (.pair (.bool) (.bool)))) (.str)))))) [0]]
def style_Norm (N : Nat) (x : List ((List UInt8) × (UInt8 × Bool × Bool) × List UInt8)) : Option (List ((List UInt8) × (UInt8 × Bool × Bool) × List UInt8)) :=
 bnd (style_norm N x) fun v0 =>
 some v0
def ps_subrip_carried : List PK := [.k (.v (.st (.slice (.st (.pair (.str) (.pair (.st (.pair (.u8) (.pair (.bool) (.bool)))) (.str)))))) [])]
def rs_subrip_carried : List Kd := [.v (.st (.slice (.st (.pair (.str) (.pair (.st (.pair (.u8) (.pair (.bool) (.bool)))) (.str)))))) [0]]
def subrip_carried (N : Nat) (x : List ((List UInt8) × (UInt8 × Bool × Bool) × List UInt8)) : Option (List ((List UInt8) × (UInt8 × Bool × Bool) × List UInt8)) :=
 jn (fun (v0 : List ((List UInt8) × (UInt8 × Bool × Bool) × List UInt8)) =>
  bnd (style_Norm N v0) fun v1 =>
  some v1)
 fun v2 =>
 fixN (fun v3 (v4 : Int × List ((List UInt8) × (UInt8 × Bool × Bool) × List UInt8)) =>
  cnd (ilt v4.1 (len x))
   (grd (inb v4.1 (len x))
    (grd (room (iadd (len v4.2) (len ([((lget x (toN v4.1) ([], (((0 : UInt8), (false, false)), []))).1, ((0 : UInt8), (lget x (toN v4.1) ([], (((0 : UInt8), (false, false)), []))).2.1.2), ([] : List UInt8))] : List ((List UInt8) × (UInt8 × Bool × Bool) × List UInt8)))) 40)
     (v3 (w64 (iadd v4.1 (1 : Int)), lapp v4.2 ([((lget x (toN v4.1) ([], (((0 : UInt8), (false, false)), []))).1, ((0 : UInt8), (lget x (toN v4.1) ([], (((0 : UInt8), (false, false)), []))).2.1.2), ([] : List UInt8))] : List ((List UInt8) × (UInt8 × Bool × Bool) × List UInt8))))))
   (v2 v4.2)) N ((0 : Int), ([] : List ((List UInt8) × (UInt8 × Bool × Bool) × List UInt8)))
def ps_subrip_Markup : List PK := [.k (.v (.st (.slice (.st (.pair (.str) (.pair (.st (.pair (.u8) (.pair (.bool) (.bool)))) (.str)))))) [])]
def rs_subrip_Markup : List Kd := [.v (.str) [], .v (.int .i64) []]
def subrip_Markup (N : Nat) (x : List ((List UInt8) × (UInt8 × Bool × Bool) × List UInt8)) : Option (List UInt8 × Int) :=
 bnd (style_Check N x) fun v0 =>
 cnd (ine v0 (0 : Int))
  (some (([] : List UInt8), v0))
  (bnd (style_Plain N x) fun v1 =>
  bnd (strings_ContainsAny N (v1, ([60, 62, 38] : List UInt8))) fun v2 =>
  cnd v2
   (some (([] : List UInt8), (10 : Int)))
   (jn (fun (v3 : Unit × List UInt8) =>
    some (v3.2, (0 : Int)))
   fun v4 =>
   bnd (subrip_carried N x) fun v5 =>
   fixN (fun v6 (v7 : Int × Unit × List UInt8) =>
    cnd (ilt v7.1 (len v5))
     (grd (inb v7.1 (len v5))
      (cnd (lget v5 (toN v7.1) ([], (((0 : UInt8), (false, false)), []))).2.1.2.2
       (grd (catOk (iadd (len ([60, 117, 62] : List UInt8)) (len (lget v5 (toN v7.1) ([], (((0 : UInt8), (false, false)), []))).1)))
        (grd (catOk (iadd (len (lapp ([60, 117, 62] : List UInt8) (lget v5 (toN v7.1) ([], (((0 : UInt8), (false, false)), []))).1)) (len ([60, 47, 117, 62] : List UInt8))))
         (cnd (lget v5 (toN v7.1) ([], (((0 : UInt8), (false, false)), []))).2.1.2.1
          (grd (catOk (iadd (len ([60, 105, 62] : List UInt8)) (len (lapp (lapp ([60, 117, 62] : List UInt8) (lget v5 (toN v7.1) ([], (((0 : UInt8), (false, false)), []))).1) ([60, 47, 117, 62] : List UInt8)))))
           (grd (catOk (iadd (len (lapp ([60, 105, 62] : List UInt8) (lapp (lapp ([60, 117, 62] : List UInt8) (lget v5 (toN v7.1) ([], (((0 : UInt8), (false, false)), []))).1) ([60, 47, 117, 62] : List UInt8)))) (len ([60, 47, 105, 62] : List UInt8))))
            (bnd (strings_Builder_WriteString N (((), v7.2.2), lapp (lapp ([60, 105, 62] : List UInt8) (lapp (lapp ([60, 117, 62] : List UInt8) (lget v5 (toN v7.1) ([], (((0 : UInt8), (false, false)), []))).1) ([60, 47, 117, 62] : List UInt8))) ([60, 47, 105, 62] : List UInt8))) fun v8 =>
            v6 (w64 (iadd v7.1 (1 : Int)), (), v8.2.2.2))))
          (bnd (strings_Builder_WriteString N (((), v7.2.2), lapp (lapp ([60, 117, 62] : List UInt8) (lget v5 (toN v7.1) ([], (((0 : UInt8), (false, false)), []))).1) ([60, 47, 117, 62] : List UInt8))) fun v9 =>
          v6 (w64 (iadd v7.1 (1 : Int)), (), v9.2.2.2)))))
       (cnd (lget v5 (toN v7.1) ([], (((0 : UInt8), (false, false)), []))).2.1.2.1
        (grd (catOk (iadd (len ([60, 105, 62] : List UInt8)) (len (lget v5 (toN v7.1) ([], (((0 : UInt8), (false, false)), []))).1)))
         (grd (catOk (iadd (len (lapp ([60, 105, 62] : List UInt8) (lget v5 (toN v7.1) ([], (((0 : UInt8), (false, false)), []))).1)) (len ([60, 47, 105, 62] : List UInt8))))
          (bnd (strings_Builder_WriteString N (((), v7.2.2), lapp (lapp ([60, 105, 62] : List UInt8) (lget v5 (toN v7.1) ([], (((0 : UInt8), (false, false)), []))).1) ([60, 47, 105, 62] : List UInt8))) fun v10 =>
          v6 (w64 (iadd v7.1 (1 : Int)), (), v10.2.2.2))))
        (bnd (strings_Builder_WriteString N (((), v7.2.2), (lget v5 (toN v7.1) ([], (((0 : UInt8), (false, false)), []))).1)) fun v11 =>
        v6 (w64 (iadd v7.1 (1 : Int)), (), v11.2.2.2)))))
     (v4 ((), v7.2.2))) N ((0 : Int), (), ([] : List UInt8))))
def ps_subrip_block : List PK := [.k (.v (.u8) []), .k (.v (.int .i64) []), .k (.v (.st (.pair (.int .i64) (.pair (.st (.pair (.int .i64) (.int .i64))) (.pair (.str) (.pair (.u8) (.pair (.str) (.slice (.st (.slice (.st (.pair (.str) (.pair (.st (.pair (.u8) (.pair (.bool) (.bool)))) (.str))))))))))))) [])]
def rs_subrip_block : List Kd := [.v (.str) [], .v (.int .i64) []]
def subrip_block (N : Nat) (x : UInt8 × Int × Int × (Int × Int) × (List UInt8) × UInt8 × (List UInt8) × List (List ((List UInt8) × (UInt8 × Bool × Bool) × List UInt8))) : Option (List UInt8 × Int) :=
 bnd (timebase_Millis N (x.1, x.2.2.2.1.1)) fun v0 =>
 cnd (ine v0.2 (0 : Int))
  (some (([] : List UInt8), v0.2))
  (bnd (timebase_Millis N (x.1, x.2.2.2.1.2)) fun v1 =>
  cnd (ine v1.2 (0 : Int))
   (some (([] : List UInt8), v1.2))
   (bnd (subrip_Clock N v0.1) fun v2 =>
   bnd (subrip_Clock N v1.1) fun v3 =>
   bnd (lines_Decimal N x.2.1) fun v4 =>
   grd (catOk (iadd (len v4) (len ([10] : List UInt8)))) <|
   grd (catOk (iadd (len (lapp v4 ([10] : List UInt8))) (len v2.1))) <|
   grd (catOk (iadd (len (lapp (lapp v4 ([10] : List UInt8)) v2.1)) (len ([32, 45, 45, 62, 32] : List UInt8)))) <|
   grd (catOk (iadd (len (lapp (lapp (lapp v4 ([10] : List UInt8)) v2.1) ([32, 45, 45, 62, 32] : List UInt8))) (len v3.1))) <|
   grd (catOk (iadd (len (lapp (lapp (lapp (lapp v4 ([10] : List UInt8)) v2.1) ([32, 45, 45, 62, 32] : List UInt8)) v3.1)) (len ([10] : List UInt8)))) <|
   jn (fun (v5 : List UInt8) =>
    grd (catOk (iadd (len v5) (len ([10] : List UInt8)))) <|
    some (lapp v5 ([10] : List UInt8), (0 : Int)))
   fun v6 =>
   fixN (fun v7 (v8 : (List UInt8) × Int) =>
    cnd (ilt v8.2 (len x.2.2.2.2.2.2.2))
     (grd (inb v8.2 (len x.2.2.2.2.2.2.2))
      (bnd (subrip_Markup N (lget x.2.2.2.2.2.2.2 (toN v8.2) [])) fun v9 =>
      cnd (ine v9.2 (0 : Int))
       (some (([] : List UInt8), v9.2))
       (grd (catOk (iadd (len v9.1) (len ([10] : List UInt8))))
        (grd (catOk (iadd (len v8.1) (len (lapp v9.1 ([10] : List UInt8)))))
         (v7 (lapp v8.1 (lapp v9.1 ([10] : List UInt8)), w64 (iadd v8.2 (1 : Int))))))))
     (v6 v8.1)) N (lapp (lapp (lapp (lapp (lapp v4 ([10] : List UInt8)) v2.1) ([32, 45, 45, 62, 32] : List UInt8)) v3.1) ([10] : List UInt8), (0 : Int))))
def ps_strings_Builder_Len : List PK := [.k (.b 84 (.st (.pair (.nptr) (.slice (.u8)))) [1])]
def rs_strings_Builder_Len : List Kd := [.v (.int .i64) []]
def strings_Builder_Len (N : Nat) (x : Unit × List UInt8) : Option (Int × Unit × List UInt8) :=
 some (len x.2, (), x.2)
def ps_subrip_encode : List PK := [.k (.v (.st (.pair (.str) (.pair (.str) (.pair (.u8) (.pair (.bool) (.pair (.int .i64) (.pair (.slice (.st (.pair (.str) (.pair (.int .i64) (.pair (.int .i64) (.pair (.int .i64) (.pair (.int .i64) (.pair (.u8) (.bool))))))))) (.pair (.slice (.st (.pair (.int .i64) (.pair (.st (.pair (.int .i64) (.int .i64))) (.pair (.str) (.pair (.u8) (.pair (.str) (.slice (.st (.slice (.st (.pair (.str) (.pair (.st (.pair (.u8) (.pair (.bool) (.bool)))) (.str)))))))))))))) (.slice (.st (.pair (.int .i64) (.pair (.int .i64) (.pair (.int .i64) (.pair (.int .i64) (.pair (.str) (.pair (.str) (.pair (.bool) (.bool)))))))))))))))))) [])]
def rs_subrip_encode : List Kd := [.v (.str) [], .v (.int .i64) [], .v (.int .i64) []]
def subrip_encode (N : Nat) (x : (List UInt8) × (List UInt8) × UInt8 × Bool × Int × (List ((List UInt8) × Int × Int × Int × Int × UInt8 × Bool)) × (List (Int × (Int × Int) × (List UInt8) × UInt8 × (List UInt8) × List (List ((List UInt8) × (UInt8 × Bool × Bool) × List UInt8)))) × List (Int × Int × Int × Int × (List UInt8) × (List UInt8) × Bool × Bool)) : Option (List UInt8 × Int × Int) :=
 bnd (document_Check N x) fun v0 =>
 cnd (ine v0 (0 : Int))
  (some (([] : List UInt8), (-1 : Int), v0))
  (jn (fun (v1 : Unit × List UInt8) =>
   bnd (strings_Builder_Len N ((), v1.2)) fun v2 =>
   cnd (ilt (262144 : Int) v2.1)
    (some (([] : List UInt8), (-1 : Int), (9 : Int)))
    (some (v2.2.2, (-1 : Int), (0 : Int))))
  fun v3 =>
  fixN (fun v4 (v5 : Int × Unit × List UInt8) =>
   cnd (ilt v5.1 (len x.2.2.2.2.2.2.1))
    (grd (inb v5.1 (len x.2.2.2.2.2.2.1))
     (bnd (subrip_block N (x.2.2.1, w64 (iadd v5.1 (1 : Int)), lget x.2.2.2.2.2.2.1 (toN v5.1) ((0 : Int), (((0 : Int), (0 : Int)), ([], ((0 : UInt8), ([], []))))))) fun v6 =>
     cnd (ine v6.2 (0 : Int))
      (some (([] : List UInt8), v5.1, v6.2))
      (bnd (strings_Builder_WriteString N (((), v5.2.2), v6.1)) fun v7 =>
      v4 (w64 (iadd v5.1 (1 : Int)), (), v7.2.2.2))))
    (v3 ((), v5.2.2))) N ((0 : Int), (), ([] : List UInt8)))
def ps_subrip_Encode : List PK := [.k (.v (.st (.pair (.str) (.pair (.str) (.pair (.u8) (.pair (.bool) (.pair (.int .i64) (.pair (.slice (.st (.pair (.str) (.pair (.int .i64) (.pair (.int .i64) (.pair (.int .i64) (.pair (.int .i64) (.pair (.u8) (.bool))))))))) (.pair (.slice (.st (.pair (.int .i64) (.pair (.st (.pair (.int .i64) (.int .i64))) (.pair (.str) (.pair (.u8) (.pair (.str) (.slice (.st (.slice (.st (.pair (.str) (.pair (.st (.pair (.u8) (.pair (.bool) (.bool)))) (.str)))))))))))))) (.slice (.st (.pair (.int .i64) (.pair (.int .i64) (.pair (.int .i64) (.pair (.int .i64) (.pair (.str) (.pair (.str) (.pair (.bool) (.bool)))))))))))))))))) [])]
def rs_subrip_Encode : List Kd := [.v (.str) [], .v (.int .i64) []]
def subrip_Encode (N : Nat) (x : (List UInt8) × (List UInt8) × UInt8 × Bool × Int × (List ((List UInt8) × Int × Int × Int × Int × UInt8 × Bool)) × (List (Int × (Int × Int) × (List UInt8) × UInt8 × (List UInt8) × List (List ((List UInt8) × (UInt8 × Bool × Bool) × List UInt8)))) × List (Int × Int × Int × Int × (List UInt8) × (List UInt8) × Bool × Bool)) : Option (List UInt8 × Int) :=
 bnd (subrip_encode N x) fun v0 =>
 some (v0.1, v0.2.2)
def ps_utf8_decodeRuneInStringSlow : List PK := [.k (.v (.str) [])]
def rs_utf8_decodeRuneInStringSlow : List Kd := [.v (.int .i32) [], .v (.int .i64) []]
def utf8_decodeRuneInStringSlow (N : Nat) (x : List UInt8) : Option (Int × Int) :=
 cnd (ilt (len x) (1 : Int))
  (some ((65533 : Int), (0 : Int)))
  (grd (inb (0 : Int) (len x))
   (grd (inb (n8 (lget x (toN (0 : Int)) (0 : UInt8))) (ofN 256))
    (cnd (ile (n8 (240 : UInt8)) (n8 (lget gl1 (toN (n8 (lget x (toN (0 : Int)) (0 : UInt8)))) (0 : UInt8))))
     (grd (inb (0 : Int) (len x))
      (some (bitb .or .i32 (bitb .andNot .i32 (wr .i32 (n8 (lget x (toN (0 : Int)) (0 : UInt8)))) (shrk .i32 (wr .i32 (shlk .i32 (wr .i32 (n8 (lget gl1 (toN (n8 (lget x (toN (0 : Int)) (0 : UInt8)))) (0 : UInt8)))) (31 : Int))) (31 : Int))) (bitb .and .i32 (65533 : Int) (shrk .i32 (wr .i32 (shlk .i32 (wr .i32 (n8 (lget gl1 (toN (n8 (lget x (toN (0 : Int)) (0 : UInt8)))) (0 : UInt8)))) (31 : Int))) (31 : Int))), (1 : Int))))
     (grd (inb (n8 (b8 (shrk .u8 (n8 (lget gl1 (toN (n8 (lget x (toN (0 : Int)) (0 : UInt8)))) (0 : UInt8))) (4 : Int)))) (ofN 16))
      (cnd (ilt (len x) (w64 (n8 (b8 (bitb .and .u8 (n8 (lget gl1 (toN (n8 (lget x (toN (0 : Int)) (0 : UInt8)))) (0 : UInt8))) (n8 (7 : UInt8)))))))
       (some ((65533 : Int), (1 : Int)))
       (grd (inb (1 : Int) (len x))
        (cnd (ilt (n8 (lget x (toN (1 : Int)) (0 : UInt8))) (n8 (lget gl2 (toN (n8 (b8 (shrk .u8 (n8 (lget gl1 (toN (n8 (lget x (toN (0 : Int)) (0 : UInt8)))) (0 : UInt8))) (4 : Int))))) ((0 : UInt8), (0 : UInt8))).1))
         (some ((65533 : Int), (1 : Int)))
         (cnd (ilt (n8 (lget gl2 (toN (n8 (b8 (shrk .u8 (n8 (lget gl1 (toN (n8 (lget x (toN (0 : Int)) (0 : UInt8)))) (0 : UInt8))) (4 : Int))))) ((0 : UInt8), (0 : UInt8))).2) (n8 (lget x (toN (1 : Int)) (0 : UInt8))))
          (some ((65533 : Int), (1 : Int)))
          (cnd (ile (w64 (n8 (b8 (bitb .and .u8 (n8 (lget gl1 (toN (n8 (lget x (toN (0 : Int)) (0 : UInt8)))) (0 : UInt8))) (n8 (7 : UInt8)))))) (2 : Int))
           (some (bitb .or .i32 (wr .i32 (shlk .i32 (wr .i32 (n8 (b8 (bitb .and .u8 (n8 (lget x (toN (0 : Int)) (0 : UInt8))) (n8 (31 : UInt8)))))) (6 : Int))) (wr .i32 (n8 (b8 (bitb .and .u8 (n8 (lget x (toN (1 : Int)) (0 : UInt8))) (n8 (63 : UInt8)))))), (2 : Int)))
           (grd (inb (2 : Int) (len x))
            (cnd (ilt (n8 (lget x (toN (2 : Int)) (0 : UInt8))) (n8 (128 : UInt8)))
             (some ((65533 : Int), (1 : Int)))
             (cnd (ilt (n8 (191 : UInt8)) (n8 (lget x (toN (2 : Int)) (0 : UInt8))))
              (some ((65533 : Int), (1 : Int)))
              (cnd (ile (w64 (n8 (b8 (bitb .and .u8 (n8 (lget gl1 (toN (n8 (lget x (toN (0 : Int)) (0 : UInt8)))) (0 : UInt8))) (n8 (7 : UInt8)))))) (3 : Int))
               (some (bitb .or .i32 (bitb .or .i32 (wr .i32 (shlk .i32 (wr .i32 (n8 (b8 (bitb .and .u8 (n8 (lget x (toN (0 : Int)) (0 : UInt8))) (n8 (15 : UInt8)))))) (12 : Int))) (wr .i32 (shlk .i32 (wr .i32 (n8 (b8 (bitb .and .u8 (n8 (lget x (toN (1 : Int)) (0 : UInt8))) (n8 (63 : UInt8)))))) (6 : Int)))) (wr .i32 (n8 (b8 (bitb .and .u8 (n8 (lget x (toN (2 : Int)) (0 : UInt8))) (n8 (63 : UInt8)))))), (3 : Int)))
               (grd (inb (3 : Int) (len x))
                (cnd (ilt (n8 (lget x (toN (3 : Int)) (0 : UInt8))) (n8 (128 : UInt8)))
                 (some ((65533 : Int), (1 : Int)))
                 (cnd (ilt (n8 (191 : UInt8)) (n8 (lget x (toN (3 : Int)) (0 : UInt8))))
                  (some ((65533 : Int), (1 : Int)))
                  (some (bitb .or .i32 (bitb .or .i32 (bitb .or .i32 (wr .i32 (shlk .i32 (wr .i32 (n8 (b8 (bitb .and .u8 (n8 (lget x (toN (0 : Int)) (0 : UInt8))) (n8 (7 : UInt8)))))) (18 : Int))) (wr .i32 (shlk .i32 (wr .i32 (n8 (b8 (bitb .and .u8 (n8 (lget x (toN (1 : Int)) (0 : UInt8))) (n8 (63 : UInt8)))))) (12 : Int)))) (wr .i32 (shlk .i32 (wr .i32 (n8 (b8 (bitb .and .u8 (n8 (lget x (toN (2 : Int)) (0 : UInt8))) (n8 (63 : UInt8)))))) (6 : Int)))) (wr .i32 (n8 (b8 (bitb .and .u8 (n8 (lget x (toN (3 : Int)) (0 : UInt8))) (n8 (63 : UInt8)))))), (4 : Int)))))))))))))))))))
def ps_utf8_DecodeRuneInString : List PK := [.k (.v (.str) [])]
def rs_utf8_DecodeRuneInString : List Kd := [.v (.int .i32) [], .v (.int .i64) []]
def utf8_DecodeRuneInString (N : Nat) (x : List UInt8) : Option (Int × Int) :=
 cnd (sne x ([] : List UInt8))
  (grd (inb (0 : Int) (len x))
   (cnd (ilt (n8 (lget x (toN (0 : Int)) (0 : UInt8))) (n8 (128 : UInt8)))
    (grd (inb (0 : Int) (len x))
     (some (wr .i32 (n8 (lget x (toN (0 : Int)) (0 : UInt8))), (1 : Int))))
    (bnd (utf8_decodeRuneInStringSlow N x) fun v0 =>
    some v0)))
  (bnd (utf8_decodeRuneInStringSlow N x) fun v1 =>
  some v1)
def ps_strings_explode : List PK := [.k (.v (.str) []), .k (.v (.int .i64) [])]
def rs_strings_explode : List Kd := [.v (.slice (.str)) [0]]
def strings_explode (N : Nat) (x : List UInt8 × Int) : Option (List (List UInt8)) :=
 bnd (utf8_RuneCountInString N x.1) fun v0 =>
 jn (fun (v1 : Int) =>
  grd (mkOk v1 v1 16) <|
  jn (fun (v2 : (List UInt8) × List (List UInt8)) =>
   cnd (ilt (0 : Int) v1)
    (grd (inb (w64 (isub v1 (1 : Int))) (len v2.2))
     (some (lset v2.2 (toN (w64 (isub v1 (1 : Int)))) v2.1)))
    (some v2.2))
  fun v3 =>
  fixN (fun v4 (v5 : (List UInt8) × Int × List (List UInt8)) =>
   cnd (ilt v5.2.1 (w64 (isub v1 (1 : Int))))
    (bnd (utf8_DecodeRuneInString N v5.1) fun v6 =>
    grd (in2 v6.2 (len v5.1)) <|
    grd (inb v5.2.1 (len v5.2.2)) <|
    grd (in2 v6.2 (len v5.1)) <|
    v4 (ldrop (toN v6.2) v5.1, w64 (iadd v5.2.1 (1 : Int)), lset v5.2.2 (toN v5.2.1) (ltake (toN v6.2) v5.1)))
    (v3 (v5.1, v5.2.2))) N (x.1, (0 : Int), lrep (toN v1) ([] : List UInt8)))
 fun v7 =>
 cnd (ilt x.2 (0 : Int))
  (v7 v0)
  (cnd (ilt v0 x.2)
   (v7 v0)
   (v7 x.2))
def ps_bytealg_CountString : List PK := [.k (.v (.str) []), .k (.v (.u8) [])]
def rs_bytealg_CountString : List Kd := [.v (.int .i64) []]
def bytealg_CountString (N : Nat) (x : List UInt8 × UInt8) : Option (Int) := hand_bytealg_CountString N x
def ps_strings_Count : List PK := [.k (.v (.str) []), .k (.v (.str) [])]
def rs_strings_Count : List Kd := [.v (.int .i64) []]
def strings_Count (N : Nat) (x : List UInt8 × List UInt8) : Option (Int) :=
 cnd (ieq (len x.2) (0 : Int))
  (bnd (utf8_RuneCountInString N x.1) fun v0 =>
  some (w64 (iadd v0 (1 : Int))))
  (cnd (ieq (len x.2) (1 : Int))
   (grd (inb (0 : Int) (len x.2))
    (bnd (bytealg_CountString N (x.1, lget x.2 (toN (0 : Int)) (0 : UInt8))) fun v1 =>
    some v1))
   (fixN (fun v2 (v3 : (List UInt8) × Int) =>
    bnd (strings_Index N (v3.1, x.2)) fun v4 =>
    cnd (ieq v4 (-1 : Int))
     (some v3.2)
     (grd (in2 (w64 (iadd v4 (len x.2))) (len v3.1))
      (v2 (ldrop (toN (w64 (iadd v4 (len x.2)))) v3.1, w64 (iadd v3.2 (1 : Int)))))) N (x.1, (0 : Int))))
def ps_strings_genSplit : List PK := [.k (.v (.str) []), .k (.v (.str) []), .k (.v (.int .i64) []), .k (.v (.int .i64) [])]
def rs_strings_genSplit : List Kd := [.v (.slice (.str)) [0]]
def strings_genSplit (N : Nat) (x : List UInt8 × List UInt8 × Int × Int) : Option (List (List UInt8)) :=
 cnd (ieq x.2.2.2 (0 : Int))
  (some ([] : List (List UInt8)))
  (cnd (seq x.2.1 ([] : List UInt8))
   (bnd (strings_explode N (x.1, x.2.2.2)) fun v0 =>
   some v0)
   (jn (fun (v1 : Int) =>
    grd (mkOk (imin v1 (w64 (iadd (len x.1) (1 : Int)))) (imin v1 (w64 (iadd (len x.1) (1 : Int)))) 16) <|
    jn (fun (v2 : (List UInt8) × Int × List (List UInt8)) =>
     grd (inb v2.2.1 (len v2.2.2)) <|
     grd (in2 (w64 (iadd v2.2.1 (1 : Int))) (ofN (nlen (lset v2.2.2 (toN v2.2.1) v2.1)))) <|
     some (cutl (lset v2.2.2 (toN v2.2.1) v2.1) 0 (toN (w64 (iadd v2.2.1 (1 : Int))))))
    fun v3 =>
    fixN (fun v4 (v5 : (List UInt8) × Int × List (List UInt8)) =>
     cnd (ilt v5.2.1 (w64 (isub (imin v1 (w64 (iadd (len x.1) (1 : Int)))) (1 : Int))))
      (bnd (strings_Index N (v5.1, x.2.1)) fun v6 =>
      cnd (ilt v6 (0 : Int))
       (v3 v5)
       (grd (in2 (w64 (iadd v6 x.2.2.1)) (len v5.1))
        (grd (inb v5.2.1 (len v5.2.2))
         (grd (in2 (w64 (iadd v6 (len x.2.1))) (len v5.1))
          (v4 (ldrop (toN (w64 (iadd v6 (len x.2.1)))) v5.1, w64 (iadd v5.2.1 (1 : Int)), lset v5.2.2 (toN v5.2.1) (ltake (toN (w64 (iadd v6 x.2.2.1))) v5.1)))))))
      (v3 v5)) N (x.1, (0 : Int), lrep (toN (imin v1 (w64 (iadd (len x.1) (1 : Int))))) ([] : List UInt8)))
   fun v7 =>
   cnd (ilt x.2.2.2 (0 : Int))
    (bnd (strings_Count N (x.1, x.2.1)) fun v8 =>
    v7 (w64 (iadd v8 (1 : Int))))
    (v7 x.2.2.2)))
def ps_strings_Split : List PK := [.k (.v (.str) []), .k (.v (.str) [])]
def rs_strings_Split : List Kd := [.v (.slice (.str)) [0]]
def strings_Split (N : Nat) (x : List UInt8 × List UInt8) : Option (List (List UInt8)) :=
 bnd (strings_genSplit N (x.1, x.2, (0 : Int), (-1 : Int))) fun v0 =>
 some v0
def ps_stringslite_HasSuffix : List PK := [.k (.v (.str) []), .k (.v (.str) [])]
def rs_stringslite_HasSuffix : List Kd := [.v (.bool) []]
def stringslite_HasSuffix (N : Nat) (x : List UInt8 × List UInt8) : Option (Bool) :=
 cnd (ile (len x.2) (len x.1))
  (grd (in2 (w64 (isub (len x.1) (len x.2))) (len x.1))
   (some (seq (ldrop (toN (w64 (isub (len x.1) (len x.2)))) x.1) x.2)))
  (some false)
def ps_stringslite_TrimSuffix : List PK := [.k (.v (.str) []), .k (.v (.str) [])]
def rs_stringslite_TrimSuffix : List Kd := [.v (.str) []]
def stringslite_TrimSuffix (N : Nat) (x : List UInt8 × List UInt8) : Option (List UInt8) :=
 bnd (stringslite_HasSuffix N x) fun v0 =>
 cnd v0
  (grd (in2 (w64 (isub (len x.1) (len x.2))) (len x.1))
   (some (ltake (toN (w64 (isub (len x.1) (len x.2)))) x.1)))
  (some x.1)
def ps_strings_TrimSuffix : List PK := [.k (.v (.str) []), .k (.v (.str) [])]
def rs_strings_TrimSuffix : List Kd := [.v (.str) []]
def strings_TrimSuffix (N : Nat) (x : List UInt8 × List UInt8) : Option (List UInt8) :=
 bnd (stringslite_TrimSuffix N x) fun v0 =>
 some v0
def ps_subrip_field : List PK := [.k (.v (.str) [])]
def rs_subrip_field : List Kd := [.v (.int .i64) []]
def subrip_field (N : Nat) (x : List UInt8) : Option (Int) :=
 jn (fun (v0 : Int) =>
  some v0)
 fun v1 =>
 fixN (fun v2 (v3 : Int × Int) =>
  cnd (ilt v3.2 (len x))
   (grd (inb v3.2 (len x))
    (cnd (ilt (n8 (lget x (toN v3.2) (0 : UInt8))) (n8 (48 : UInt8)))
     (some (-1 : Int))
     (grd (inb v3.2 (len x))
      (cnd (ilt (n8 (57 : UInt8)) (n8 (lget x (toN v3.2) (0 : UInt8))))
       (some (-1 : Int))
       (grd (inb v3.2 (len x))
        (v2 (w64 (iadd (w64 (imul (10 : Int) v3.1)) (w64 (n8 (b8 (isub (n8 (lget x (toN v3.2) (0 : UInt8))) (n8 (48 : UInt8))))))), w64 (iadd v3.2 (1 : Int)))))))))
   (v1 v3.1)) N ((0 : Int), (0 : Int))
def ps_subrip_number : List PK := [.k (.v (.str) [])]
def rs_subrip_number : List Kd := [.v (.bool) []]
def subrip_number (N : Nat) (x : List UInt8) : Option (Bool) :=
 cnd (ile (1 : Int) (len x))
  (cnd (ile (len x) (9 : Int))
   (bnd (subrip_field N x) fun v0 =>
   some (ile (0 : Int) v0))
   (some false))
  (some false)
def ps_subrip_reader_fail : List PK := [.k (.b 98 (.st (.pair (.u8) (.pair (.st (.pair (.str) (.pair (.str) (.pair (.u8) (.pair (.bool) (.pair (.int .i64) (.pair (.slice (.st (.pair (.str) (.pair (.int .i64) (.pair (.int .i64) (.pair (.int .i64) (.pair (.int .i64) (.pair (.u8) (.bool))))))))) (.pair (.slice (.st (.pair (.int .i64) (.pair (.st (.pair (.int .i64) (.int .i64))) (.pair (.str) (.pair (.u8) (.pair (.str) (.slice (.st (.slice (.st (.pair (.str) (.pair (.st (.pair (.u8) (.pair (.bool) (.bool)))) (.str)))))))))))))) (.slice (.st (.pair (.int .i64) (.pair (.int .i64) (.pair (.int .i64) (.pair (.int .i64) (.pair (.str) (.pair (.str) (.pair (.bool) (.bool)))))))))))))))))) (.slice (.st (.pair (.int .i64) (.pair (.int .i64) (.int .i64)))))))) [6, 7, 8, 9]), .k (.v (.int .i64) []), .k (.v (.int .i64) [])]
def rs_subrip_reader_fail : List Kd := []
def subrip_reader_fail (N : Nat) (x : (UInt8 × ((List UInt8) × (List UInt8) × UInt8 × Bool × Int × (List ((List UInt8) × Int × Int × Int × Int × UInt8 × Bool)) × (List (Int × (Int × Int) × (List UInt8) × UInt8 × (List UInt8) × List (List ((List UInt8) × (UInt8 × Bool × Bool) × List UInt8)))) × List (Int × Int × Int × Int × (List UInt8) × (List UInt8) × Bool × Bool)) × List (Int × Int × Int)) × Int × Int) : Option (UInt8 × ((List UInt8) × (List UInt8) × UInt8 × Bool × Int × (List ((List UInt8) × Int × Int × Int × Int × UInt8 × Bool)) × (List (Int × (Int × Int) × (List UInt8) × UInt8 × (List UInt8) × List (List ((List UInt8) × (UInt8 × Bool × Bool) × List UInt8)))) × List (Int × Int × Int × Int × (List UInt8) × (List UInt8) × Bool × Bool)) × List (Int × Int × Int)) :=
 cnd (ilt (len x.1.2.2) (50 : Int))
  (grd (room (iadd (len x.1.2.2) (len ([(x.2.1, (1 : Int), x.2.2)] : List (Int × Int × Int)))) 24)
   (some (x.1.1, x.1.2.1, lapp x.1.2.2 ([(x.2.1, (1 : Int), x.2.2)] : List (Int × Int × Int)))))
  (some x.1)
def ps_subrip_ParseClock : List PK := [.k (.v (.str) [])]
def rs_subrip_ParseClock : List Kd := [.v (.int .i64) [], .v (.int .i64) []]
def subrip_ParseClock (N : Nat) (x : List UInt8) : Option (Int × Int) :=
 jn (fun (v0 : Unit) =>
  grd (in2 (2 : Int) (len x)) <|
  bnd (subrip_field N (ltake (toN (2 : Int)) x)) fun v1 =>
  grd (in3 (3 : Int) (5 : Int) (len x)) <|
  bnd (subrip_field N (ldrop (toN (3 : Int)) (ltake (toN (5 : Int)) x))) fun v2 =>
  grd (in3 (6 : Int) (8 : Int) (len x)) <|
  bnd (subrip_field N (ldrop (toN (6 : Int)) (ltake (toN (8 : Int)) x))) fun v3 =>
  grd (in2 (9 : Int) (len x)) <|
  bnd (subrip_field N (ldrop (toN (9 : Int)) x)) fun v4 =>
  cnd (ilt v1 (0 : Int))
   (some ((0 : Int), (4 : Int)))
   (cnd (ilt v2 (0 : Int))
    (some ((0 : Int), (4 : Int)))
    (cnd (ilt (59 : Int) v2)
     (some ((0 : Int), (4 : Int)))
     (cnd (ilt v3 (0 : Int))
      (some ((0 : Int), (4 : Int)))
      (cnd (ilt (59 : Int) v3)
       (some ((0 : Int), (4 : Int)))
       (cnd (ilt v4 (0 : Int))
        (some ((0 : Int), (4 : Int)))
        (some (w64 (iadd (w64 (imul (w64 (iadd (w64 (imul (w64 (iadd (w64 (imul v1 (60 : Int))) v2)) (60 : Int))) v3)) (1000 : Int))) v4), (0 : Int)))))))))
 fun v5 =>
 cnd (ine (len x) (12 : Int))
  (some ((0 : Int), (4 : Int)))
  (grd (inb (2 : Int) (len x))
   (cnd (ine (n8 (lget x (toN (2 : Int)) (0 : UInt8))) (n8 (58 : UInt8)))
    (some ((0 : Int), (4 : Int)))
    (grd (inb (5 : Int) (len x))
     (cnd (ine (n8 (lget x (toN (5 : Int)) (0 : UInt8))) (n8 (58 : UInt8)))
      (some ((0 : Int), (4 : Int)))
      (grd (inb (8 : Int) (len x))
       (cnd (ine (n8 (lget x (toN (8 : Int)) (0 : UInt8))) (n8 (44 : UInt8)))
        (grd (inb (8 : Int) (len x))
         (cnd (ine (n8 (lget x (toN (8 : Int)) (0 : UInt8))) (n8 (46 : UInt8)))
          (some ((0 : Int), (4 : Int)))
          (v5 ())))
        (v5 ())))))))
def ps_subrip_times : List PK := [.k (.v (.str) [])]
def rs_subrip_times : List Kd := [.v (.int .i64) [], .v (.int .i64) [], .v (.bool) []]
def subrip_times (N : Nat) (x : List UInt8) : Option (Int × Int × Bool) :=
 cnd (ine (len x) (29 : Int))
  (some ((0 : Int), (0 : Int), false))
  (grd (in3 (12 : Int) (17 : Int) (len x))
   (cnd (sne (ldrop (toN (12 : Int)) (ltake (toN (17 : Int)) x)) ([32, 45, 45, 62, 32] : List UInt8))
    (some ((0 : Int), (0 : Int), false))
    (grd (in2 (12 : Int) (len x))
     (bnd (subrip_ParseClock N (ltake (toN (12 : Int)) x)) fun v0 =>
     grd (in2 (17 : Int) (len x)) <|
     bnd (subrip_ParseClock N (ldrop (toN (17 : Int)) x)) fun v1 =>
     cnd (ieq v0.2 (0 : Int))
      (some (v0.1, v1.1, ieq v1.2 (0 : Int)))
      (some (v0.1, v1.1, false))))))
def ps_timebase_Frame : List PK := [.k (.v (.u8) []), .k (.v (.int .i64) []), .k (.v (.u8) [])]
def rs_timebase_Frame : List Kd := [.v (.int .i64) [], .v (.int .i64) []]
def timebase_Frame (N : Nat) (x : UInt8 × Int × UInt8) : Option (Int × Int) :=
 bnd (timebase_Valid N x.1) fun v0 =>
 cnd (bnot v0)
  (some ((0 : Int), (3 : Int)))
  (cnd (ilt (n8 x.2.2) (n8 (1 : UInt8)))
   (some ((0 : Int), (3 : Int)))
   (cnd (ilt (n8 (3 : UInt8)) (n8 x.2.2))
    (some ((0 : Int), (3 : Int)))
    (cnd (ilt x.2.1 (0 : Int))
     (some ((0 : Int), (2 : Int)))
     (cnd (ilt (10378368000 : Int) x.2.1)
      (some ((0 : Int), (2 : Int)))
      (bnd (timebase_Ticks N x.1) fun v1 =>
      bnd (ratio_Quotient N (x.2.1, v1, x.2.2)) fun v2 =>
      bnd (timebase_Ticks N x.1) fun v3 =>
      cnd (ilt (10378368000 : Int) (w64 (imul v2.1 v3)))
       (some ((0 : Int), (2 : Int)))
       (some (v2.1, (0 : Int))))))))
def ps_timebase_FromMillis : List PK := [.k (.v (.u8) []), .k (.v (.int .i64) [])]
def rs_timebase_FromMillis : List Kd := [.v (.int .i64) [], .v (.int .i64) []]
def timebase_FromMillis (N : Nat) (x : UInt8 × Int) : Option (Int × Int) :=
 bnd (timebase_Valid N x.1) fun v0 =>
 cnd (bnot v0)
  (some ((0 : Int), (3 : Int)))
  (cnd (ilt x.2 (0 : Int))
   (some ((0 : Int), (2 : Int)))
   (cnd (ilt (86486400 : Int) x.2)
    (some ((0 : Int), (2 : Int)))
    (bnd (timebase_Frame N (x.1, w64 (imul x.2 (120 : Int)), (2 : UInt8))) fun v1 =>
    some v1)))
def ps_subrip_ParseMarkup_1 : List PK := [.k (.v (.st (.pair (.u8) (.pair (.bool) (.bool)))) []), .k (.b 31 (.st (.slice (.st (.pair (.str) (.pair (.st (.pair (.u8) (.pair (.bool) (.bool)))) (.str)))))) [0]), .k (.b 9 (.str) []), .k (.b 38 (.st (.pair (.u8) (.pair (.bool) (.bool)))) [])]
def rs_subrip_ParseMarkup_1 : List Kd := []
def subrip_ParseMarkup_1 (N : Nat) (x : (UInt8 × Bool × Bool) × (List ((List UInt8) × (UInt8 × Bool × Bool) × List UInt8)) × List UInt8 × UInt8 × Bool × Bool) : Option ((List ((List UInt8) × (UInt8 × Bool × Bool) × List UInt8)) × List UInt8 × UInt8 × Bool × Bool) :=
 grd (room (iadd (len x.2.1) (len ([(x.2.2.1, x.2.2.2, ([] : List UInt8))] : List ((List UInt8) × (UInt8 × Bool × Bool) × List UInt8)))) 40) <|
 some (lapp x.2.1 ([(x.2.2.1, x.2.2.2, ([] : List UInt8))] : List ((List UInt8) × (UInt8 × Bool × Bool) × List UInt8)), ([] : List UInt8), x.1)
def ps_stringslite_HasPrefix : List PK := [.k (.v (.str) []), .k (.v (.str) [])]
def rs_stringslite_HasPrefix : List Kd := [.v (.bool) []]
def stringslite_HasPrefix (N : Nat) (x : List UInt8 × List UInt8) : Option (Bool) :=
 cnd (ile (len x.2) (len x.1))
  (grd (in2 (len x.2) (len x.1))
   (some (seq (ltake (toN (len x.2)) x.1) x.2)))
  (some false)
def ps_strings_HasPrefix : List PK := [.k (.v (.str) []), .k (.v (.str) [])]
def rs_strings_HasPrefix : List Kd := [.v (.bool) []]
def strings_HasPrefix (N : Nat) (x : List UInt8 × List UInt8) : Option (Bool) :=
 bnd (stringslite_HasPrefix N x) fun v0 =>
 some v0
def ps_subrip_ParseMarkup : List PK := [.k (.v (.str) [])]
def rs_subrip_ParseMarkup : List Kd := [.v (.st (.slice (.st (.pair (.str) (.pair (.st (.pair (.u8) (.pair (.bool) (.bool)))) (.str)))))) [0]]
def subrip_ParseMarkup (N : Nat) (x : List UInt8) : Option (List ((List UInt8) × (UInt8 × Bool × Bool) × List UInt8)) :=
 jn (fun (v0 : (List ((List UInt8) × (UInt8 × Bool × Bool) × List UInt8)) × (List UInt8) × UInt8 × Bool × Bool) =>
  bnd (subrip_ParseMarkup_1 N (v0.2.2, v0)) fun v1 =>
  bnd (style_Norm N v1.1) fun v2 =>
  some v2)
 fun v3 =>
 fixN (fun v4 (v5 : (List UInt8) × (List ((List UInt8) × (UInt8 × Bool × Bool) × List UInt8)) × (List UInt8) × UInt8 × Bool × Bool) =>
  cnd (sne v5.1 ([] : List UInt8))
   (jn (fun (v6 : List UInt8) =>
    jn (fun (v7 : UInt8 × Bool × Bool) =>
     bnd (subrip_ParseMarkup_1 N (v7, v5.2)) fun v8 =>
     grd (in2 (len v6) (len v5.1)) <|
     v4 (ldrop (toN (len v6)) v5.1, v8))
    fun v9 =>
    cnd (seq v6 ([] : List UInt8))
     (grd (in2 (1 : Int) (len v5.1))
      (grd (catOk (iadd (len v5.2.2.1) (len (ltake (toN (1 : Int)) v5.1))))
       (grd (in2 (1 : Int) (len v5.1))
        (v4 (ldrop (toN (1 : Int)) v5.1, v5.2.1, lapp v5.2.2.1 (ltake (toN (1 : Int)) v5.1), v5.2.2.2)))))
     (jn (fun (v10 : Bool) =>
      cnd v10
       (v9 (v5.2.2.2.1, seq v6 ([60, 105, 62] : List UInt8), v5.2.2.2.2.2))
       (cnd (seq v6 ([60, 117, 62] : List UInt8))
        (cnd (seq v6 ([60, 117, 62] : List UInt8))
         (v9 (v5.2.2.2.1, v5.2.2.2.2.1, seq v6 ([60, 117, 62] : List UInt8)))
         (v9 v5.2.2.2))
        (cnd (seq v6 ([60, 47, 117, 62] : List UInt8))
         (v9 (v5.2.2.2.1, v5.2.2.2.2.1, seq v6 ([60, 117, 62] : List UInt8)))
         (v9 v5.2.2.2))))
     fun v11 =>
     cnd (seq v6 ([60, 105, 62] : List UInt8))
      (v11 (seq v6 ([60, 105, 62] : List UInt8)))
      (v11 (seq v6 ([60, 47, 105, 62] : List UInt8)))))
   fun v12 =>
   fixN (fun v13 (v14 : (List UInt8) × Int) =>
    cnd (ilt v14.2 (len ([([60, 105, 62] : List UInt8), ([60, 47, 105, 62] : List UInt8), ([60, 117, 62] : List UInt8), ([60, 47, 117, 62] : List UInt8), ([60, 98, 62] : List UInt8), ([60, 47, 98, 62] : List UInt8)] : List (List UInt8))))
     (grd (inb v14.2 (len ([([60, 105, 62] : List UInt8), ([60, 47, 105, 62] : List UInt8), ([60, 117, 62] : List UInt8), ([60, 47, 117, 62] : List UInt8), ([60, 98, 62] : List UInt8), ([60, 47, 98, 62] : List UInt8)] : List (List UInt8))))
      (bnd (strings_HasPrefix N (v5.1, lget ([([60, 105, 62] : List UInt8), ([60, 47, 105, 62] : List UInt8), ([60, 117, 62] : List UInt8), ([60, 47, 117, 62] : List UInt8), ([60, 98, 62] : List UInt8), ([60, 47, 98, 62] : List UInt8)] : List (List UInt8)) (toN v14.2) [])) fun v15 =>
      cnd v15
       (v13 (lget ([([60, 105, 62] : List UInt8), ([60, 47, 105, 62] : List UInt8), ([60, 117, 62] : List UInt8), ([60, 47, 117, 62] : List UInt8), ([60, 98, 62] : List UInt8), ([60, 47, 98, 62] : List UInt8)] : List (List UInt8)) (toN v14.2) [], w64 (iadd v14.2 (1 : Int))))
       (v13 (v14.1, w64 (iadd v14.2 (1 : Int))))))
     (v12 v14.1)) N (([] : List UInt8), (0 : Int)))
   (v3 v5.2)) N (x, ([] : List ((List UInt8) × (UInt8 × Bool × Bool) × List UInt8)), ([] : List UInt8), (0 : UInt8), false, false)
def ps_subrip_reader_block : List PK := [.k (.b 98 (.st (.pair (.u8) (.pair (.st (.pair (.str) (.pair (.str) (.pair (.u8) (.pair (.bool) (.pair (.int .i64) (.pair (.slice (.st (.pair (.str) (.pair (.int .i64) (.pair (.int .i64) (.pair (.int .i64) (.pair (.int .i64) (.pair (.u8) (.bool))))))))) (.pair (.slice (.st (.pair (.int .i64) (.pair (.st (.pair (.int .i64) (.int .i64))) (.pair (.str) (.pair (.u8) (.pair (.str) (.slice (.st (.slice (.st (.pair (.str) (.pair (.st (.pair (.u8) (.pair (.bool) (.bool)))) (.str)))))))))))))) (.slice (.st (.pair (.int .i64) (.pair (.int .i64) (.pair (.int .i64) (.pair (.int .i64) (.pair (.str) (.pair (.str) (.pair (.bool) (.bool)))))))))))))))))) (.slice (.st (.pair (.int .i64) (.pair (.int .i64) (.int .i64)))))))) [6, 7, 8, 9]), .k (.v (.slice (.str)) []), .k (.v (.int .i64) [])]
def rs_subrip_reader_block : List Kd := []
def subrip_reader_block (N : Nat) (x : (UInt8 × ((List UInt8) × (List UInt8) × UInt8 × Bool × Int × (List ((List UInt8) × Int × Int × Int × Int × UInt8 × Bool)) × (List (Int × (Int × Int) × (List UInt8) × UInt8 × (List UInt8) × List (List ((List UInt8) × (UInt8 × Bool × Bool) × List UInt8)))) × List (Int × Int × Int × Int × (List UInt8) × (List UInt8) × Bool × Bool)) × List (Int × Int × Int)) × List (List UInt8) × Int) : Option (UInt8 × ((List UInt8) × (List UInt8) × UInt8 × Bool × Int × (List ((List UInt8) × Int × Int × Int × Int × UInt8 × Bool)) × (List (Int × (Int × Int) × (List UInt8) × UInt8 × (List UInt8) × List (List ((List UInt8) × (UInt8 × Bool × Bool) × List UInt8)))) × List (Int × Int × Int × Int × (List UInt8) × (List UInt8) × Bool × Bool)) × List (Int × Int × Int)) :=
 jn (fun (v0 : (List (List UInt8)) × Int) =>
  grd (inb (0 : Int) (len v0.1)) <|
  bnd (subrip_times N (lget v0.1 (toN (0 : Int)) [])) fun v1 =>
  cnd (bnot v1.2.2)
   (bnd (subrip_reader_fail N (x.1, v0.2, (4 : Int))) fun v2 =>
   some v2)
   (cnd (ile (400 : Int) (len x.1.2.1.2.2.2.2.2.2.1))
    (bnd (subrip_reader_fail N (x.1, v0.2, (9 : Int))) fun v3 =>
    some v3)
    (bnd (timebase_FromMillis N (x.1.1, v1.1)) fun v4 =>
    cnd (ine v4.2 (0 : Int))
     (bnd (subrip_reader_fail N (x.1, v0.2, v4.2)) fun v5 =>
     some v5)
     (bnd (timebase_FromMillis N (x.1.1, v1.2.1)) fun v6 =>
     cnd (ine v6.2 (0 : Int))
      (bnd (subrip_reader_fail N (x.1, v0.2, v6.2)) fun v7 =>
      some v7)
      (jn (fun (v8 : Int × (Int × Int) × (List UInt8) × UInt8 × (List UInt8) × List (List ((List UInt8) × (UInt8 × Bool × Bool) × List UInt8))) =>
       bnd (event_Check N (v8, ([] : List ((List UInt8) × Int × Int × Int × Int × UInt8 × Bool)))) fun v9 =>
       cnd (ine v9 (0 : Int))
        (bnd (subrip_reader_fail N (x.1, v0.2, v9)) fun v10 =>
        some v10)
        (grd (room (iadd (len x.1.2.1.2.2.2.2.2.2.1) (len ([v8] : List (Int × (Int × Int) × (List UInt8) × UInt8 × (List UInt8) × List (List ((List UInt8) × (UInt8 × Bool × Bool) × List UInt8)))))) 88)
         (some (x.1.1, (x.1.2.1.1, x.1.2.1.2.1, x.1.2.1.2.2.1, x.1.2.1.2.2.2.1, x.1.2.1.2.2.2.2.1, x.1.2.1.2.2.2.2.2.1, lapp x.1.2.1.2.2.2.2.2.2.1 ([v8] : List (Int × (Int × Int) × (List UInt8) × UInt8 × (List UInt8) × List (List ((List UInt8) × (UInt8 × Bool × Bool) × List UInt8)))), x.1.2.1.2.2.2.2.2.2.2), x.1.2.2))))
      fun v11 =>
      grd (in2 (1 : Int) (len v0.1)) <|
      fixN (fun v12 (v13 : Int × Int × (Int × Int) × (List UInt8) × UInt8 × (List UInt8) × List (List ((List UInt8) × (UInt8 × Bool × Bool) × List UInt8))) =>
       cnd (ilt v13.1 (len (ldrop (toN (1 : Int)) v0.1)))
        (grd (inb v13.1 (len (ldrop (toN (1 : Int)) v0.1)))
         (bnd (subrip_ParseMarkup N (lget (ldrop (toN (1 : Int)) v0.1) (toN v13.1) [])) fun v14 =>
         grd (room (iadd (len v13.2.2.2.2.2.2) (len ([v14] : List (List ((List UInt8) × (UInt8 × Bool × Bool) × List UInt8))))) 24) <|
         v12 (w64 (iadd v13.1 (1 : Int)), v13.2.1, v13.2.2.1, v13.2.2.2.1, v13.2.2.2.2.1, v13.2.2.2.2.2.1, lapp v13.2.2.2.2.2.2 ([v14] : List (List ((List UInt8) × (UInt8 × Bool × Bool) × List UInt8))))))
        (v11 v13.2)) N ((0 : Int), w64 (iadd (len x.1.2.1.2.2.2.2.2.2.1) (1 : Int)), (v4.1, v6.1), ([] : List UInt8), (1 : UInt8), ([] : List UInt8), ([] : List (List ((List UInt8) × (UInt8 × Bool × Bool) × List UInt8)))))))))
 fun v15 =>
 grd (inb (0 : Int) (len x.2.1)) <|
 bnd (subrip_number N (lget x.2.1 (toN (0 : Int)) [])) fun v16 =>
 cnd v16
  (cnd (ieq (len x.2.1) (1 : Int))
   (bnd (subrip_reader_fail N (x.1, x.2.2, (4 : Int))) fun v17 =>
   some v17)
   (grd (in2 (1 : Int) (len x.2.1))
    (v15 (ldrop (toN (1 : Int)) x.2.1, w64 (iadd x.2.2 (1 : Int))))))
  (v15 x.2)
def ps_slices_Clone_Lapi_Row_api_Row : List PK := [.k (.v (.slice (.st (.slice (.st (.pair (.str) (.pair (.st (.pair (.u8) (.pair (.bool) (.bool)))) (.str))))))) [])]
def rs_slices_Clone_Lapi_Row_api_Row : List Kd := [.v (.slice (.st (.slice (.st (.pair (.str) (.pair (.st (.pair (.u8) (.pair (.bool) (.bool)))) (.str))))))) [0]]
def slices_Clone_Lapi_Row_api_Row (N : Nat) (x : List (List ((List UInt8) × (UInt8 × Bool × Bool) × List UInt8))) : Option (List (List ((List UInt8) × (UInt8 × Bool × Bool) × List UInt8))) :=
 cnd (ine (len x) (0 : Int))
  (grd (room (iadd (len ([] : List (List ((List UInt8) × (UInt8 × Bool × Bool) × List UInt8)))) (len x)) 24)
   (some (lapp ([] : List (List ((List UInt8) × (UInt8 × Bool × Bool) × List UInt8))) x)))
  (univ fun v0 =>
  cnd v0
   (some ([] : List (List ((List UInt8) × (UInt8 × Bool × Bool) × List UInt8))))
   (grd (room (iadd (len ([] : List (List ((List UInt8) × (UInt8 × Bool × Bool) × List UInt8)))) (len x)) 24)
    (some (lapp ([] : List (List ((List UInt8) × (UInt8 × Bool × Bool) × List UInt8))) x))))
def ps_slices_Clone_Lapi_Run_api_Run : List PK := [.k (.v (.slice (.st (.pair (.str) (.pair (.st (.pair (.u8) (.pair (.bool) (.bool)))) (.str))))) [])]
def rs_slices_Clone_Lapi_Run_api_Run : List Kd := [.v (.slice (.st (.pair (.str) (.pair (.st (.pair (.u8) (.pair (.bool) (.bool)))) (.str))))) [0]]
def slices_Clone_Lapi_Run_api_Run (N : Nat) (x : List ((List UInt8) × (UInt8 × Bool × Bool) × List UInt8)) : Option (List ((List UInt8) × (UInt8 × Bool × Bool) × List UInt8)) :=
 cnd (ine (len x) (0 : Int))
  (grd (room (iadd (len ([] : List ((List UInt8) × (UInt8 × Bool × Bool) × List UInt8))) (len x)) 40)
   (some (lapp ([] : List ((List UInt8) × (UInt8 × Bool × Bool) × List UInt8)) x)))
  (univ fun v0 =>
  cnd v0
   (some ([] : List ((List UInt8) × (UInt8 × Bool × Bool) × List UInt8)))
   (grd (room (iadd (len ([] : List ((List UInt8) × (UInt8 × Bool × Bool) × List UInt8))) (len x)) 40)
    (some (lapp ([] : List ((List UInt8) × (UInt8 × Bool × Bool) × List UInt8)) x))))
def ps_style_Clone : List PK := [.k (.v (.slice (.st (.slice (.st (.pair (.str) (.pair (.st (.pair (.u8) (.pair (.bool) (.bool)))) (.str))))))) [])]
def rs_style_Clone : List Kd := [.v (.slice (.st (.slice (.st (.pair (.str) (.pair (.st (.pair (.u8) (.pair (.bool) (.bool)))) (.str))))))) [0]]
def style_Clone (N : Nat) (x : List (List ((List UInt8) × (UInt8 × Bool × Bool) × List UInt8))) : Option (List (List ((List UInt8) × (UInt8 × Bool × Bool) × List UInt8))) :=
 bnd (slices_Clone_Lapi_Row_api_Row N x) fun v0 =>
 jn (fun (v1 : List (List ((List UInt8) × (UInt8 × Bool × Bool) × List UInt8))) =>
  some v1)
 fun v2 =>
 fixN (fun v3 (v4 : Int × List (List ((List UInt8) × (UInt8 × Bool × Bool) × List UInt8))) =>
  cnd (ilt v4.1 (len v0))
   (grd (inb v4.1 (len v4.2))
    (bnd (slices_Clone_Lapi_Run_api_Run N (lget v4.2 (toN v4.1) [])) fun v5 =>
    grd (inb v4.1 (len v4.2)) <|
    v3 (w64 (iadd v4.1 (1 : Int)), lset v4.2 (toN v4.1) v5)))
   (v2 v4.2)) N ((0 : Int), v0)
def ps_event_Clone : List PK := [.k (.v (.st (.pair (.int .i64) (.pair (.st (.pair (.int .i64) (.int .i64))) (.pair (.str) (.pair (.u8) (.pair (.str) (.slice (.st (.slice (.st (.pair (.str) (.pair (.st (.pair (.u8) (.pair (.bool) (.bool)))) (.str))))))))))))) [])]
def rs_event_Clone : List Kd := [.v (.st (.pair (.int .i64) (.pair (.st (.pair (.int .i64) (.int .i64))) (.pair (.str) (.pair (.u8) (.pair (.str) (.slice (.st (.slice (.st (.pair (.str) (.pair (.st (.pair (.u8) (.pair (.bool) (.bool)))) (.str))))))))))))) [6]]
def event_Clone (N : Nat) (x : Int × (Int × Int) × (List UInt8) × UInt8 × (List UInt8) × List (List ((List UInt8) × (UInt8 × Bool × Bool) × List UInt8))) : Option (Int × (Int × Int) × (List UInt8) × UInt8 × (List UInt8) × List (List ((List UInt8) × (UInt8 × Bool × Bool) × List UInt8))) :=
 bnd (style_Clone N x.2.2.2.2.2) fun v0 =>
 some (x.1, x.2.1, x.2.2.1, x.2.2.2.1, x.2.2.2.2.1, v0)
def ps_document_Sort_1 : List PK := [.k (.v (.st (.pair (.int .i64) (.pair (.st (.pair (.int .i64) (.int .i64))) (.pair (.str) (.pair (.u8) (.pair (.str) (.slice (.st (.slice (.st (.pair (.str) (.pair (.st (.pair (.u8) (.pair (.bool) (.bool)))) (.str))))))))))))) []), .k (.v (.st (.pair (.int .i64) (.pair (.st (.pair (.int .i64) (.int .i64))) (.pair (.str) (.pair (.u8) (.pair (.str) (.slice (.st (.slice (.st (.pair (.str) (.pair (.st (.pair (.u8) (.pair (.bool) (.bool)))) (.str))))))))))))) [])]
def rs_document_Sort_1 : List Kd := [.v (.int .i64) []]
def document_Sort_1 (N : Nat) (x : (Int × (Int × Int) × (List UInt8) × UInt8 × (List UInt8) × List (List ((List UInt8) × (UInt8 × Bool × Bool) × List UInt8))) × Int × (Int × Int) × (List UInt8) × UInt8 × (List UInt8) × List (List ((List UInt8) × (UInt8 × Bool × Bool) × List UInt8))) : Option (Int) :=
 bnd (cmp_Compare_int64 N (x.1.2.1.1, x.2.2.1.1)) fun v0 =>
 bnd (cmp_Compare_int64 N (x.1.1, x.2.1)) fun v1 =>
 bnd (cmp_Or_int N ([v0, v1] : List Int)) fun v2 =>
 some v2
def ps_slices_insertionSortCmpFunc_api_Event : List PK := [.k (.r 4 (.st (.pair (.int .i64) (.pair (.st (.pair (.int .i64) (.int .i64))) (.pair (.str) (.pair (.u8) (.pair (.str) (.slice (.st (.slice (.st (.pair (.str) (.pair (.st (.pair (.u8) (.pair (.bool) (.bool)))) (.str)))))))))))))), .k (.v (.int .i64) []), .k (.v (.int .i64) []), .fn 110]
def rs_slices_insertionSortCmpFunc_api_Event : List Kd := []
def slices_insertionSortCmpFunc_api_Event (N : Nat) (x : (List (Int × (Int × Int) × (List UInt8) × UInt8 × (List UInt8) × List (List ((List UInt8) × (UInt8 × Bool × Bool) × List UInt8)))) × Int × Int) : Option (List (Int × (Int × Int) × (List UInt8) × UInt8 × (List UInt8) × List (List ((List UInt8) × (UInt8 × Bool × Bool) × List UInt8)))) :=
 fixN (fun v0 (v1 : Int × List (Int × (Int × Int) × (List UInt8) × UInt8 × (List UInt8) × List (List ((List UInt8) × (UInt8 × Bool × Bool) × List UInt8)))) =>
  cnd (ilt v1.1 x.2.2)
   (jn (fun (v2 : List (Int × (Int × Int) × (List UInt8) × UInt8 × (List UInt8) × List (List ((List UInt8) × (UInt8 × Bool × Bool) × List UInt8)))) =>
    v0 (w64 (iadd v1.1 (1 : Int)), v2))
   fun v3 =>
   fixN (fun v4 (v5 : Int × List (Int × (Int × Int) × (List UInt8) × UInt8 × (List UInt8) × List (List ((List UInt8) × (UInt8 × Bool × Bool) × List UInt8)))) =>
    cnd (ilt x.2.1 v5.1)
     (grd (inb v5.1 (len v5.2))
      (grd (inb (w64 (isub v5.1 (1 : Int))) (len v5.2))
       (bnd (document_Sort_1 N (lget v5.2 (toN v5.1) ((0 : Int), (((0 : Int), (0 : Int)), ([], ((0 : UInt8), ([], []))))), lget v5.2 (toN (w64 (isub v5.1 (1 : Int)))) ((0 : Int), (((0 : Int), (0 : Int)), ([], ((0 : UInt8), ([], []))))))) fun v6 =>
       cnd (ilt v6 (0 : Int))
        (grd (inb (w64 (isub v5.1 (1 : Int))) (len v5.2))
         (grd (inb v5.1 (len v5.2))
          (grd (inb v5.1 (len v5.2))
           (grd (inb (w64 (isub v5.1 (1 : Int))) (len (lset v5.2 (toN v5.1) (lget v5.2 (toN (w64 (isub v5.1 (1 : Int)))) ((0 : Int), (((0 : Int), (0 : Int)), ([], ((0 : UInt8), ([], [])))))))))
            (v4 (w64 (isub v5.1 (1 : Int)), lset (lset v5.2 (toN v5.1) (lget v5.2 (toN (w64 (isub v5.1 (1 : Int)))) ((0 : Int), (((0 : Int), (0 : Int)), ([], ((0 : UInt8), ([], []))))))) (toN (w64 (isub v5.1 (1 : Int)))) (lget v5.2 (toN v5.1) ((0 : Int), (((0 : Int), (0 : Int)), ([], ((0 : UInt8), ([], []))))))))))))
        (v3 v5.2))))
     (v3 v5.2)) N v1)
   (some v1.2)) N (w64 (iadd x.2.1 (1 : Int)), x.1)
def ps_slices_swapRangeCmpFunc_api_Event : List PK := [.k (.r 4 (.st (.pair (.int .i64) (.pair (.st (.pair (.int .i64) (.int .i64))) (.pair (.str) (.pair (.u8) (.pair (.str) (.slice (.st (.slice (.st (.pair (.str) (.pair (.st (.pair (.u8) (.pair (.bool) (.bool)))) (.str)))))))))))))), .k (.v (.int .i64) []), .k (.v (.int .i64) []), .k (.v (.int .i64) []), .fn 110]
def rs_slices_swapRangeCmpFunc_api_Event : List Kd := []
def slices_swapRangeCmpFunc_api_Event (N : Nat) (x : (List (Int × (Int × Int) × (List UInt8) × UInt8 × (List UInt8) × List (List ((List UInt8) × (UInt8 × Bool × Bool) × List UInt8)))) × Int × Int × Int) : Option (List (Int × (Int × Int) × (List UInt8) × UInt8 × (List UInt8) × List (List ((List UInt8) × (UInt8 × Bool × Bool) × List UInt8)))) :=
 fixN (fun v0 (v1 : Int × List (Int × (Int × Int) × (List UInt8) × UInt8 × (List UInt8) × List (List ((List UInt8) × (UInt8 × Bool × Bool) × List UInt8)))) =>
  cnd (ilt v1.1 x.2.2.2)
   (grd (inb (w64 (iadd x.2.2.1 v1.1)) (len v1.2))
    (grd (inb (w64 (iadd x.2.1 v1.1)) (len v1.2))
     (grd (inb (w64 (iadd x.2.1 v1.1)) (len v1.2))
      (grd (inb (w64 (iadd x.2.2.1 v1.1)) (len (lset v1.2 (toN (w64 (iadd x.2.1 v1.1))) (lget v1.2 (toN (w64 (iadd x.2.2.1 v1.1))) ((0 : Int), (((0 : Int), (0 : Int)), ([], ((0 : UInt8), ([], [])))))))))
       (v0 (w64 (iadd v1.1 (1 : Int)), lset (lset v1.2 (toN (w64 (iadd x.2.1 v1.1))) (lget v1.2 (toN (w64 (iadd x.2.2.1 v1.1))) ((0 : Int), (((0 : Int), (0 : Int)), ([], ((0 : UInt8), ([], []))))))) (toN (w64 (iadd x.2.2.1 v1.1))) (lget v1.2 (toN (w64 (iadd x.2.1 v1.1))) ((0 : Int), (((0 : Int), (0 : Int)), ([], ((0 : UInt8), ([], []))))))))))))
   (some v1.2)) N ((0 : Int), x.1)
def ps_slices_rotateCmpFunc_api_Event : List PK := [.k (.r 4 (.st (.pair (.int .i64) (.pair (.st (.pair (.int .i64) (.int .i64))) (.pair (.str) (.pair (.u8) (.pair (.str) (.slice (.st (.slice (.st (.pair (.str) (.pair (.st (.pair (.u8) (.pair (.bool) (.bool)))) (.str)))))))))))))), .k (.v (.int .i64) []), .k (.v (.int .i64) []), .k (.v (.int .i64) []), .fn 110]
def rs_slices_rotateCmpFunc_api_Event : List Kd := []
def slices_rotateCmpFunc_api_Event (N : Nat) (x : (List (Int × (Int × Int) × (List UInt8) × UInt8 × (List UInt8) × List (List ((List UInt8) × (UInt8 × Bool × Bool) × List UInt8)))) × Int × Int × Int) : Option (List (Int × (Int × Int) × (List UInt8) × UInt8 × (List UInt8) × List (List ((List UInt8) × (UInt8 × Bool × Bool) × List UInt8)))) :=
 jn (fun (v0 : Int × List (Int × (Int × Int) × (List UInt8) × UInt8 × (List UInt8) × List (List ((List UInt8) × (UInt8 × Bool × Bool) × List UInt8)))) =>
  bnd (slices_swapRangeCmpFunc_api_Event N (v0.2, w64 (isub x.2.2.1 v0.1), x.2.2.1, v0.1)) fun v1 =>
  some v1)
 fun v2 =>
 fixN (fun v3 (v4 : Int × Int × List (Int × (Int × Int) × (List UInt8) × UInt8 × (List UInt8) × List (List ((List UInt8) × (UInt8 × Bool × Bool) × List UInt8)))) =>
  cnd (ine v4.1 v4.2.1)
   (cnd (ilt v4.2.1 v4.1)
    (bnd (slices_swapRangeCmpFunc_api_Event N (v4.2.2, w64 (isub x.2.2.1 v4.1), x.2.2.1, v4.2.1)) fun v5 =>
    v3 (w64 (isub v4.1 v4.2.1), v4.2.1, v5))
    (bnd (slices_swapRangeCmpFunc_api_Event N (v4.2.2, w64 (isub x.2.2.1 v4.1), w64 (isub (w64 (iadd x.2.2.1 v4.2.1)) v4.1), v4.1)) fun v6 =>
    v3 (v4.1, w64 (isub v4.2.1 v4.1), v6)))
   (v2 (v4.1, v4.2.2))) N (w64 (isub x.2.2.1 x.2.1), w64 (isub x.2.2.2 x.2.2.1), x.1)
def ps_slices_symMergeCmpFunc_api_Event : List PK := [.k (.r 4 (.st (.pair (.int .i64) (.pair (.st (.pair (.int .i64) (.int .i64))) (.pair (.str) (.pair (.u8) (.pair (.str) (.slice (.st (.slice (.st (.pair (.str) (.pair (.st (.pair (.u8) (.pair (.bool) (.bool)))) (.str)))))))))))))), .k (.v (.int .i64) []), .k (.v (.int .i64) []), .k (.v (.int .i64) []), .fn 110]
def rs_slices_symMergeCmpFunc_api_Event : List Kd := []
def slices_symMergeCmpFunc_api_Event_r (N : Nat) : Nat → ((List (Int × (Int × Int) × (List UInt8) × UInt8 × (List UInt8) × List (List ((List UInt8) × (UInt8 × Bool × Bool) × List UInt8)))) × Int × Int × Int) → Option (List (Int × (Int × Int) × (List UInt8) × UInt8 × (List UInt8) × List (List ((List UInt8) × (UInt8 × Bool × Bool) × List UInt8))))
 | 0, _ => none
 | D + 1, x => jn (fun (v0 : Unit) =>
   jn (fun (v1 : Unit) =>
    jn (fun (v2 : Int × Int) =>
     jn (fun (v3 : Int) =>
      jn (fun (v4 : List (Int × (Int × Int) × (List UInt8) × UInt8 × (List UInt8) × List (List ((List UInt8) × (UInt8 × Bool × Bool) × List UInt8)))) =>
       jn (fun (v5 : List (Int × (Int × Int) × (List UInt8) × UInt8 × (List UInt8) × List (List ((List UInt8) × (UInt8 × Bool × Bool) × List UInt8)))) =>
        cnd (ilt (w64 (shrk .u64 (wr .u64 (w64 (iadd x.2.1 x.2.2.2))) (1 : Int))) (w64 (isub (w64 (iadd (w64 (shrk .u64 (wr .u64 (w64 (iadd x.2.1 x.2.2.2))) (1 : Int))) x.2.2.1)) v3)))
         (cnd (ilt (w64 (isub (w64 (iadd (w64 (shrk .u64 (wr .u64 (w64 (iadd x.2.1 x.2.2.2))) (1 : Int))) x.2.2.1)) v3)) x.2.2.2)
          (bnd (slices_symMergeCmpFunc_api_Event_r N D (v5, w64 (shrk .u64 (wr .u64 (w64 (iadd x.2.1 x.2.2.2))) (1 : Int)), w64 (isub (w64 (iadd (w64 (shrk .u64 (wr .u64 (w64 (iadd x.2.1 x.2.2.2))) (1 : Int))) x.2.2.1)) v3), x.2.2.2)) fun v6 =>
          some v6)
          (some v5))
         (some v5))
       fun v7 =>
       cnd (ilt x.2.1 v3)
        (cnd (ilt v3 (w64 (shrk .u64 (wr .u64 (w64 (iadd x.2.1 x.2.2.2))) (1 : Int))))
         (bnd (slices_symMergeCmpFunc_api_Event_r N D (v4, x.2.1, v3, w64 (shrk .u64 (wr .u64 (w64 (iadd x.2.1 x.2.2.2))) (1 : Int)))) fun v8 =>
         v7 v8)
         (v7 v4))
        (v7 v4))
      fun v9 =>
      cnd (ilt v3 x.2.2.1)
       (cnd (ilt x.2.2.1 (w64 (isub (w64 (iadd (w64 (shrk .u64 (wr .u64 (w64 (iadd x.2.1 x.2.2.2))) (1 : Int))) x.2.2.1)) v3)))
        (bnd (slices_rotateCmpFunc_api_Event N (x.1, v3, x.2.2.1, w64 (isub (w64 (iadd (w64 (shrk .u64 (wr .u64 (w64 (iadd x.2.1 x.2.2.2))) (1 : Int))) x.2.2.1)) v3))) fun v10 =>
        v9 v10)
        (v9 x.1))
       (v9 x.1))
     fun v11 =>
     fixN (fun v12 (v13 : Int × Int) =>
      cnd (ilt v13.1 v13.2)
       (grd (inb (w64 (isub (w64 (isub (w64 (iadd (w64 (shrk .u64 (wr .u64 (w64 (iadd x.2.1 x.2.2.2))) (1 : Int))) x.2.2.1)) (1 : Int))) (w64 (shrk .u64 (wr .u64 (w64 (iadd v13.1 v13.2))) (1 : Int))))) (len x.1))
        (grd (inb (w64 (shrk .u64 (wr .u64 (w64 (iadd v13.1 v13.2))) (1 : Int))) (len x.1))
         (bnd (document_Sort_1 N (lget x.1 (toN (w64 (isub (w64 (isub (w64 (iadd (w64 (shrk .u64 (wr .u64 (w64 (iadd x.2.1 x.2.2.2))) (1 : Int))) x.2.2.1)) (1 : Int))) (w64 (shrk .u64 (wr .u64 (w64 (iadd v13.1 v13.2))) (1 : Int)))))) ((0 : Int), (((0 : Int), (0 : Int)), ([], ((0 : UInt8), ([], []))))), lget x.1 (toN (w64 (shrk .u64 (wr .u64 (w64 (iadd v13.1 v13.2))) (1 : Int)))) ((0 : Int), (((0 : Int), (0 : Int)), ([], ((0 : UInt8), ([], []))))))) fun v14 =>
         cnd (bnot (ilt v14 (0 : Int)))
          (v12 (w64 (iadd (w64 (shrk .u64 (wr .u64 (w64 (iadd v13.1 v13.2))) (1 : Int))) (1 : Int)), v13.2))
          (v12 (v13.1, w64 (shrk .u64 (wr .u64 (w64 (iadd v13.1 v13.2))) (1 : Int)))))))
       (v11 v13.1)) N v2)
    fun v15 =>
    cnd (ilt (w64 (shrk .u64 (wr .u64 (w64 (iadd x.2.1 x.2.2.2))) (1 : Int))) x.2.2.1)
     (v15 (w64 (isub (w64 (iadd (w64 (shrk .u64 (wr .u64 (w64 (iadd x.2.1 x.2.2.2))) (1 : Int))) x.2.2.1)) x.2.2.2), w64 (shrk .u64 (wr .u64 (w64 (iadd x.2.1 x.2.2.2))) (1 : Int))))
     (v15 (x.2.1, x.2.2.1)))
   fun v16 =>
   cnd (ieq (w64 (isub x.2.2.2 x.2.2.1)) (1 : Int))
    (jn (fun (v17 : Int) =>
     jn (fun (v18 : List (Int × (Int × Int) × (List UInt8) × UInt8 × (List UInt8) × List (List ((List UInt8) × (UInt8 × Bool × Bool) × List UInt8)))) =>
      some v18)
     fun v19 =>
     fixN (fun v20 (v21 : Int × List (Int × (Int × Int) × (List UInt8) × UInt8 × (List UInt8) × List (List ((List UInt8) × (UInt8 × Bool × Bool) × List UInt8)))) =>
      cnd (ilt v17 v21.1)
       (grd (inb (w64 (isub v21.1 (1 : Int))) (len v21.2))
        (grd (inb v21.1 (len v21.2))
         (grd (inb v21.1 (len v21.2))
          (grd (inb (w64 (isub v21.1 (1 : Int))) (len (lset v21.2 (toN v21.1) (lget v21.2 (toN (w64 (isub v21.1 (1 : Int)))) ((0 : Int), (((0 : Int), (0 : Int)), ([], ((0 : UInt8), ([], [])))))))))
           (v20 (w64 (isub v21.1 (1 : Int)), lset (lset v21.2 (toN v21.1) (lget v21.2 (toN (w64 (isub v21.1 (1 : Int)))) ((0 : Int), (((0 : Int), (0 : Int)), ([], ((0 : UInt8), ([], []))))))) (toN (w64 (isub v21.1 (1 : Int)))) (lget v21.2 (toN v21.1) ((0 : Int), (((0 : Int), (0 : Int)), ([], ((0 : UInt8), ([], []))))))))))))
       (v19 v21.2)) N (x.2.2.1, x.1))
    fun v22 =>
    fixN (fun v23 (v24 : Int × Int) =>
     cnd (ilt v24.1 v24.2)
      (grd (inb x.2.2.1 (len x.1))
       (grd (inb (w64 (shrk .u64 (wr .u64 (w64 (iadd v24.1 v24.2))) (1 : Int))) (len x.1))
        (bnd (document_Sort_1 N (lget x.1 (toN x.2.2.1) ((0 : Int), (((0 : Int), (0 : Int)), ([], ((0 : UInt8), ([], []))))), lget x.1 (toN (w64 (shrk .u64 (wr .u64 (w64 (iadd v24.1 v24.2))) (1 : Int)))) ((0 : Int), (((0 : Int), (0 : Int)), ([], ((0 : UInt8), ([], []))))))) fun v25 =>
        cnd (bnot (ilt v25 (0 : Int)))
         (v23 (w64 (iadd (w64 (shrk .u64 (wr .u64 (w64 (iadd v24.1 v24.2))) (1 : Int))) (1 : Int)), v24.2))
         (v23 (v24.1, w64 (shrk .u64 (wr .u64 (w64 (iadd v24.1 v24.2))) (1 : Int)))))))
      (v22 v24.1)) N (x.2.1, x.2.2.1))
    (v16 ()))
  fun v26 =>
  cnd (ieq (w64 (isub x.2.2.1 x.2.1)) (1 : Int))
   (jn (fun (v27 : Int) =>
    jn (fun (v28 : List (Int × (Int × Int) × (List UInt8) × UInt8 × (List UInt8) × List (List ((List UInt8) × (UInt8 × Bool × Bool) × List UInt8)))) =>
     some v28)
    fun v29 =>
    fixN (fun v30 (v31 : Int × List (Int × (Int × Int) × (List UInt8) × UInt8 × (List UInt8) × List (List ((List UInt8) × (UInt8 × Bool × Bool) × List UInt8)))) =>
     cnd (ilt v31.1 (w64 (isub v27 (1 : Int))))
      (grd (inb (w64 (iadd v31.1 (1 : Int))) (len v31.2))
       (grd (inb v31.1 (len v31.2))
        (grd (inb v31.1 (len v31.2))
         (grd (inb (w64 (iadd v31.1 (1 : Int))) (len (lset v31.2 (toN v31.1) (lget v31.2 (toN (w64 (iadd v31.1 (1 : Int)))) ((0 : Int), (((0 : Int), (0 : Int)), ([], ((0 : UInt8), ([], [])))))))))
          (v30 (w64 (iadd v31.1 (1 : Int)), lset (lset v31.2 (toN v31.1) (lget v31.2 (toN (w64 (iadd v31.1 (1 : Int)))) ((0 : Int), (((0 : Int), (0 : Int)), ([], ((0 : UInt8), ([], []))))))) (toN (w64 (iadd v31.1 (1 : Int)))) (lget v31.2 (toN v31.1) ((0 : Int), (((0 : Int), (0 : Int)), ([], ((0 : UInt8), ([], []))))))))))))
      (v29 v31.2)) N (x.2.1, x.1))
   fun v32 =>
   fixN (fun v33 (v34 : Int × Int) =>
    cnd (ilt v34.1 v34.2)
     (grd (inb (w64 (shrk .u64 (wr .u64 (w64 (iadd v34.1 v34.2))) (1 : Int))) (len x.1))
      (grd (inb x.2.1 (len x.1))
       (bnd (document_Sort_1 N (lget x.1 (toN (w64 (shrk .u64 (wr .u64 (w64 (iadd v34.1 v34.2))) (1 : Int)))) ((0 : Int), (((0 : Int), (0 : Int)), ([], ((0 : UInt8), ([], []))))), lget x.1 (toN x.2.1) ((0 : Int), (((0 : Int), (0 : Int)), ([], ((0 : UInt8), ([], []))))))) fun v35 =>
       cnd (ilt v35 (0 : Int))
        (v33 (w64 (iadd (w64 (shrk .u64 (wr .u64 (w64 (iadd v34.1 v34.2))) (1 : Int))) (1 : Int)), v34.2))
        (v33 (v34.1, w64 (shrk .u64 (wr .u64 (w64 (iadd v34.1 v34.2))) (1 : Int)))))))
     (v32 v34.1)) N x.2.2)
   (v26 ())
def slices_symMergeCmpFunc_api_Event (N : Nat) (x : (List (Int × (Int × Int) × (List UInt8) × UInt8 × (List UInt8) × List (List ((List UInt8) × (UInt8 × Bool × Bool) × List UInt8)))) × Int × Int × Int) : Option (List (Int × (Int × Int) × (List UInt8) × UInt8 × (List UInt8) × List (List ((List UInt8) × (UInt8 × Bool × Bool) × List UInt8)))) := slices_symMergeCmpFunc_api_Event_r N N x
def ps_slices_stableCmpFunc_api_Event : List PK := [.k (.r 4 (.st (.pair (.int .i64) (.pair (.st (.pair (.int .i64) (.int .i64))) (.pair (.str) (.pair (.u8) (.pair (.str) (.slice (.st (.slice (.st (.pair (.str) (.pair (.st (.pair (.u8) (.pair (.bool) (.bool)))) (.str)))))))))))))), .k (.v (.int .i64) []), .fn 110]
def rs_slices_stableCmpFunc_api_Event : List Kd := []
def slices_stableCmpFunc_api_Event (N : Nat) (x : (List (Int × (Int × Int) × (List UInt8) × UInt8 × (List UInt8) × List (List ((List UInt8) × (UInt8 × Bool × Bool) × List UInt8)))) × Int) : Option (List (Int × (Int × Int) × (List UInt8) × UInt8 × (List UInt8) × List (List ((List UInt8) × (UInt8 × Bool × Bool) × List UInt8)))) :=
 jn (fun (v0 : Int × List (Int × (Int × Int) × (List UInt8) × UInt8 × (List UInt8) × List (List ((List UInt8) × (UInt8 × Bool × Bool) × List UInt8)))) =>
  bnd (slices_insertionSortCmpFunc_api_Event N (v0.2, v0.1, x.2)) fun v1 =>
  fixN (fun v2 (v3 : Int × List (Int × (Int × Int) × (List UInt8) × UInt8 × (List UInt8) × List (List ((List UInt8) × (UInt8 × Bool × Bool) × List UInt8)))) =>
   cnd (ilt v3.1 x.2)
    (jn (fun (v4 : Int × List (Int × (Int × Int) × (List UInt8) × UInt8 × (List UInt8) × List (List ((List UInt8) × (UInt8 × Bool × Bool) × List UInt8)))) =>
     cnd (ilt (w64 (iadd v4.1 v3.1)) x.2)
      (bnd (slices_symMergeCmpFunc_api_Event N (v4.2, v4.1, w64 (iadd v4.1 v3.1), x.2)) fun v5 =>
      v2 (w64 (imul v3.1 (2 : Int)), v5))
      (v2 (w64 (imul v3.1 (2 : Int)), v4.2)))
    fun v6 =>
    fixN (fun v7 (v8 : Int × Int × List (Int × (Int × Int) × (List UInt8) × UInt8 × (List UInt8) × List (List ((List UInt8) × (UInt8 × Bool × Bool) × List UInt8)))) =>
     cnd (ile v8.2.1 x.2)
      (bnd (slices_symMergeCmpFunc_api_Event N (v8.2.2, v8.1, w64 (iadd v8.1 v3.1), v8.2.1)) fun v9 =>
      v7 (v8.2.1, w64 (iadd v8.2.1 (w64 (imul (2 : Int) v3.1))), v9))
      (v6 (v8.1, v8.2.2))) N ((0 : Int), w64 (imul (2 : Int) v3.1), v3.2))
    (some v3.2)) N ((20 : Int), v1))
 fun v10 =>
 fixN (fun v11 (v12 : Int × Int × List (Int × (Int × Int) × (List UInt8) × UInt8 × (List UInt8) × List (List ((List UInt8) × (UInt8 × Bool × Bool) × List UInt8)))) =>
  cnd (ile v12.2.1 x.2)
   (bnd (slices_insertionSortCmpFunc_api_Event N (v12.2.2, v12.1, v12.2.1)) fun v13 =>
   v11 (v12.2.1, w64 (iadd v12.2.1 (20 : Int)), v13))
   (v10 (v12.1, v12.2.2))) N ((0 : Int), (20 : Int), x.1)
def ps_slices_SortStableFunc_Lapi_Event_api_Event : List PK := [.k (.r 4 (.st (.pair (.int .i64) (.pair (.st (.pair (.int .i64) (.int .i64))) (.pair (.str) (.pair (.u8) (.pair (.str) (.slice (.st (.slice (.st (.pair (.str) (.pair (.st (.pair (.u8) (.pair (.bool) (.bool)))) (.str)))))))))))))), .fn 110]
def rs_slices_SortStableFunc_Lapi_Event_api_Event : List Kd := []
def slices_SortStableFunc_Lapi_Event_api_Event (N : Nat) (x : List (Int × (Int × Int) × (List UInt8) × UInt8 × (List UInt8) × List (List ((List UInt8) × (UInt8 × Bool × Bool) × List UInt8)))) : Option (List (Int × (Int × Int) × (List UInt8) × UInt8 × (List UInt8) × List (List ((List UInt8) × (UInt8 × Bool × Bool) × List UInt8)))) :=
 bnd (slices_stableCmpFunc_api_Event N (x, len x)) fun v0 =>
 some v0
def ps_document_Sort : List PK := [.k (.v (.slice (.st (.pair (.int .i64) (.pair (.st (.pair (.int .i64) (.int .i64))) (.pair (.str) (.pair (.u8) (.pair (.str) (.slice (.st (.slice (.st (.pair (.str) (.pair (.st (.pair (.u8) (.pair (.bool) (.bool)))) (.str)))))))))))))) [])]
def rs_document_Sort : List Kd := [.v (.slice (.st (.pair (.int .i64) (.pair (.st (.pair (.int .i64) (.int .i64))) (.pair (.str) (.pair (.u8) (.pair (.str) (.slice (.st (.slice (.st (.pair (.str) (.pair (.st (.pair (.u8) (.pair (.bool) (.bool)))) (.str)))))))))))))) [0]]
def document_Sort (N : Nat) (x : List (Int × (Int × Int) × (List UInt8) × UInt8 × (List UInt8) × List (List ((List UInt8) × (UInt8 × Bool × Bool) × List UInt8)))) : Option (List (Int × (Int × Int) × (List UInt8) × UInt8 × (List UInt8) × List (List ((List UInt8) × (UInt8 × Bool × Bool) × List UInt8)))) :=
 jn (fun (v0 : List (Int × (Int × Int) × (List UInt8) × UInt8 × (List UInt8) × List (List ((List UInt8) × (UInt8 × Bool × Bool) × List UInt8)))) =>
  bnd (slices_SortStableFunc_Lapi_Event_api_Event N v0) fun v1 =>
  some v1)
 fun v2 =>
 fixN (fun v3 (v4 : (List (Int × (Int × Int) × (List UInt8) × UInt8 × (List UInt8) × List (List ((List UInt8) × (UInt8 × Bool × Bool) × List UInt8)))) × Int) =>
  cnd (ilt v4.2 (len x))
   (grd (inb v4.2 (len x))
    (bnd (event_Clone N (lget x (toN v4.2) ((0 : Int), (((0 : Int), (0 : Int)), ([], ((0 : UInt8), ([], []))))))) fun v5 =>
    grd (room (iadd (len v4.1) (len ([v5] : List (Int × (Int × Int) × (List UInt8) × UInt8 × (List UInt8) × List (List ((List UInt8) × (UInt8 × Bool × Bool) × List UInt8)))))) 88) <|
    v3 (lapp v4.1 ([v5] : List (Int × (Int × Int) × (List UInt8) × UInt8 × (List UInt8) × List (List ((List UInt8) × (UInt8 × Bool × Bool) × List UInt8)))), w64 (iadd v4.2 (1 : Int)))))
   (v2 v4.1)) N (([] : List (Int × (Int × Int) × (List UInt8) × UInt8 × (List UInt8) × List (List ((List UInt8) × (UInt8 × Bool × Bool) × List UInt8)))), (0 : Int))
def ps_subrip_Decode : List PK := [.k (.v (.str) []), .k (.v (.u8) []), .k (.v (.bool) [])]
def rs_subrip_Decode : List Kd := [.v (.st (.pair (.str) (.pair (.str) (.pair (.u8) (.pair (.bool) (.pair (.int .i64) (.pair (.slice (.st (.pair (.str) (.pair (.int .i64) (.pair (.int .i64) (.pair (.int .i64) (.pair (.int .i64) (.pair (.u8) (.bool))))))))) (.pair (.slice (.st (.pair (.int .i64) (.pair (.st (.pair (.int .i64) (.int .i64))) (.pair (.str) (.pair (.u8) (.pair (.str) (.slice (.st (.slice (.st (.pair (.str) (.pair (.st (.pair (.u8) (.pair (.bool) (.bool)))) (.str)))))))))))))) (.slice (.st (.pair (.int .i64) (.pair (.int .i64) (.pair (.int .i64) (.pair (.int .i64) (.pair (.str) (.pair (.str) (.pair (.bool) (.bool)))))))))))))))))) [5, 6, 7], .v (.slice (.st (.pair (.int .i64) (.pair (.int .i64) (.int .i64))))) [0]]
def subrip_Decode (N : Nat) (x : List UInt8 × UInt8 × Bool) : Option (((List UInt8) × (List UInt8) × UInt8 × Bool × Int × (List ((List UInt8) × Int × Int × Int × Int × UInt8 × Bool)) × (List (Int × (Int × Int) × (List UInt8) × UInt8 × (List UInt8) × List (List ((List UInt8) × (UInt8 × Bool × Bool) × List UInt8)))) × List (Int × Int × Int × Int × (List UInt8) × (List UInt8) × Bool × Bool)) × List (Int × Int × Int)) :=
 jn (fun (v0 : Unit) =>
  bnd (strings_Split N (x.1, ([10] : List UInt8))) fun v1 =>
  grd (room (iadd (len v1) (len ([([] : List UInt8)] : List (List UInt8)))) 16) <|
  jn (fun (v2 : UInt8 × ((List UInt8) × (List UInt8) × UInt8 × Bool × Int × (List ((List UInt8) × Int × Int × Int × Int × UInt8 × Bool)) × (List (Int × (Int × Int) × (List UInt8) × UInt8 × (List UInt8) × List (List ((List UInt8) × (UInt8 × Bool × Bool) × List UInt8)))) × List (Int × Int × Int × Int × (List UInt8) × (List UInt8) × Bool × Bool)) × List (Int × Int × Int)) =>
   bnd (document_Sort N v2.2.1.2.2.2.2.2.2.1) fun v3 =>
   some ((v2.2.1.1, v2.2.1.2.1, v2.2.1.2.2.1, v2.2.1.2.2.2.1, len v3, v2.2.1.2.2.2.2.2.1, v3, v2.2.1.2.2.2.2.2.2.2), v2.2.2))
  fun v4 =>
  fixN (fun v5 (v6 : (List (List UInt8)) × Int × UInt8 × ((List UInt8) × (List UInt8) × UInt8 × Bool × Int × (List ((List UInt8) × Int × Int × Int × Int × UInt8 × Bool)) × (List (Int × (Int × Int) × (List UInt8) × UInt8 × (List UInt8) × List (List ((List UInt8) × (UInt8 × Bool × Bool) × List UInt8)))) × List (Int × Int × Int × Int × (List UInt8) × (List UInt8) × Bool × Bool)) × List (Int × Int × Int)) =>
   cnd (ilt v6.2.1 (len (lapp v1 ([([] : List UInt8)] : List (List UInt8)))))
    (grd (inb v6.2.1 (len (lapp v1 ([([] : List UInt8)] : List (List UInt8)))))
     (bnd (strings_TrimSuffix N (lget (lapp v1 ([([] : List UInt8)] : List (List UInt8))) (toN v6.2.1) [], ([13] : List UInt8))) fun v7 =>
     cnd (sne v7 ([] : List UInt8))
      (grd (room (iadd (len v6.1) (len ([v7] : List (List UInt8)))) 16)
       (v5 (lapp v6.1 ([v7] : List (List UInt8)), w64 (iadd v6.2.1 (1 : Int)), v6.2.2)))
      (cnd (ilt (0 : Int) (len v6.1))
       (bnd (subrip_reader_block N (v6.2.2, v6.1, w64 (iadd (w64 (isub v6.2.1 (len v6.1))) (1 : Int)))) fun v8 =>
       v5 (([] : List (List UInt8)), w64 (iadd v6.2.1 (1 : Int)), v8))
       (v5 (([] : List (List UInt8)), w64 (iadd v6.2.1 (1 : Int)), v6.2.2)))))
    (v4 v6.2.2)) N (([] : List (List UInt8)), (0 : Int), x.2.1, (([] : List UInt8), ([] : List UInt8), x.2.1, x.2.2, (0 : Int), ([] : List ((List UInt8) × Int × Int × Int × Int × UInt8 × Bool)), ([] : List (Int × (Int × Int) × (List UInt8) × UInt8 × (List UInt8) × List (List ((List UInt8) × (UInt8 × Bool × Bool) × List UInt8)))), ([] : List (Int × Int × Int × Int × (List UInt8) × (List UInt8) × Bool × Bool))), ([] : List (Int × Int × Int))))
 fun v9 =>
 bnd (timebase_Valid N x.2.1) fun v10 =>
 cnd (bnot v10)
  (some ((([] : List UInt8), ([] : List UInt8), (0 : UInt8), false, (0 : Int), ([] : List ((List UInt8) × Int × Int × Int × Int × UInt8 × Bool)), ([] : List (Int × (Int × Int) × (List UInt8) × UInt8 × (List UInt8) × List (List ((List UInt8) × (UInt8 × Bool × Bool) × List UInt8)))), ([] : List (Int × Int × Int × Int × (List UInt8) × (List UInt8) × Bool × Bool))), ([((1 : Int), (1 : Int), (13 : Int))] : List (Int × Int × Int))))
  (cnd x.2.2
   (bnd (timebase_CanDrop N x.2.1) fun v11 =>
   cnd (bnot v11)
    (some ((([] : List UInt8), ([] : List UInt8), (0 : UInt8), false, (0 : Int), ([] : List ((List UInt8) × Int × Int × Int × Int × UInt8 × Bool)), ([] : List (Int × (Int × Int) × (List UInt8) × UInt8 × (List UInt8) × List (List ((List UInt8) × (UInt8 × Bool × Bool) × List UInt8)))), ([] : List (Int × Int × Int × Int × (List UInt8) × (List UInt8) × Bool × Bool))), ([((1 : Int), (1 : Int), (13 : Int))] : List (Int × Int × Int))))
    (cnd (ilt (262144 : Int) (len x.1))
     (some ((([] : List UInt8), ([] : List UInt8), (0 : UInt8), false, (0 : Int), ([] : List ((List UInt8) × Int × Int × Int × Int × UInt8 × Bool)), ([] : List (Int × (Int × Int) × (List UInt8) × UInt8 × (List UInt8) × List (List ((List UInt8) × (UInt8 × Bool × Bool) × List UInt8)))), ([] : List (Int × Int × Int × Int × (List UInt8) × (List UInt8) × Bool × Bool))), ([((1 : Int), (1 : Int), (9 : Int))] : List (Int × Int × Int))))
     (v9 ())))
   (cnd (ilt (262144 : Int) (len x.1))
    (some ((([] : List UInt8), ([] : List UInt8), (0 : UInt8), false, (0 : Int), ([] : List ((List UInt8) × Int × Int × Int × Int × UInt8 × Bool)), ([] : List (Int × (Int × Int) × (List UInt8) × UInt8 × (List UInt8) × List (List ((List UInt8) × (UInt8 × Bool × Bool) × List UInt8)))), ([] : List (Int × Int × Int × Int × (List UInt8) × (List UInt8) × Bool × Bool))), ([((1 : Int), (1 : Int), (9 : Int))] : List (Int × Int × Int))))
    (v9 ())))
def ps_slices_Equal_Lapi_Run_api_Run : List PK := [.k (.v (.slice (.st (.pair (.str) (.pair (.st (.pair (.u8) (.pair (.bool) (.bool)))) (.str))))) []), .k (.v (.slice (.st (.pair (.str) (.pair (.st (.pair (.u8) (.pair (.bool) (.bool)))) (.str))))) [])]
def rs_slices_Equal_Lapi_Run_api_Run : List Kd := [.v (.bool) []]
def slices_Equal_Lapi_Run_api_Run (N : Nat) (x : (List ((List UInt8) × (UInt8 × Bool × Bool) × List UInt8)) × List ((List UInt8) × (UInt8 × Bool × Bool) × List UInt8)) : Option (Bool) :=
 cnd (ine (len x.1) (len x.2))
  (some false)
  (jn (fun (v0 : Unit) =>
   some true)
  fun v1 =>
  fixN (fun v2 (v3 : Int) =>
   cnd (ilt v3 (len x.1))
    (grd (inb v3 (len x.1))
     (grd (inb v3 (len x.2))
      (cnd (bnot (band (seq (lget x.1 (toN v3) ([], (((0 : UInt8), (false, false)), []))).1 (lget x.2 (toN v3) ([], (((0 : UInt8), (false, false)), []))).1) (band (band (ieq (n8 (lget x.1 (toN v3) ([], (((0 : UInt8), (false, false)), []))).2.1.1) (n8 (lget x.2 (toN v3) ([], (((0 : UInt8), (false, false)), []))).2.1.1)) (band (beqb (lget x.1 (toN v3) ([], (((0 : UInt8), (false, false)), []))).2.1.2.1 (lget x.2 (toN v3) ([], (((0 : UInt8), (false, false)), []))).2.1.2.1) (beqb (lget x.1 (toN v3) ([], (((0 : UInt8), (false, false)), []))).2.1.2.2 (lget x.2 (toN v3) ([], (((0 : UInt8), (false, false)), []))).2.1.2.2))) (seq (lget x.1 (toN v3) ([], (((0 : UInt8), (false, false)), []))).2.2 (lget x.2 (toN v3) ([], (((0 : UInt8), (false, false)), []))).2.2))))
       (some false)
       (v2 (w64 (iadd v3 (1 : Int)))))))
    (v1 ())) N (0 : Int))
def ps_style_Same : List PK := [.k (.v (.st (.slice (.st (.pair (.str) (.pair (.st (.pair (.u8) (.pair (.bool) (.bool)))) (.str)))))) []), .k (.v (.st (.slice (.st (.pair (.str) (.pair (.st (.pair (.u8) (.pair (.bool) (.bool)))) (.str)))))) [])]
def rs_style_Same : List Kd := [.v (.bool) []]
def style_Same (N : Nat) (x : (List ((List UInt8) × (UInt8 × Bool × Bool) × List UInt8)) × List ((List UInt8) × (UInt8 × Bool × Bool) × List UInt8)) : Option (Bool) :=
 bnd (slices_Equal_Lapi_Run_api_Run N x) fun v0 =>
 some v0
def ps_l19_awake : List PK := []
def rs_l19_awake : List Kd := [.v (.bool) []]
def l19_awake (N : Nat) (x : Unit) : Option (Bool) :=
 bnd (subrip_Encode N (([] : List UInt8), ([] : List UInt8), (3 : UInt8), false, (7 : Int), ([] : List ((List UInt8) × Int × Int × Int × Int × UInt8 × Bool)), ([((7 : Int), ((25 : Int), (50 : Int)), ([] : List UInt8), (2 : UInt8), ([] : List UInt8), ([([(([89, 101, 115, 44, 32] : List UInt8), ((0 : UInt8), false, false), ([] : List UInt8)), (([110, 111, 119] : List UInt8), ((0 : UInt8), true, false), ([] : List UInt8))] : List ((List UInt8) × (UInt8 × Bool × Bool) × List UInt8))] : List (List ((List UInt8) × (UInt8 × Bool × Bool) × List UInt8))))] : List (Int × (Int × Int) × (List UInt8) × UInt8 × (List UInt8) × List (List ((List UInt8) × (UInt8 × Bool × Bool) × List UInt8)))), ([] : List (Int × Int × Int × Int × (List UInt8) × (List UInt8) × Bool × Bool)))) fun v0 =>
 bnd (subrip_Clock N (3723004 : Int)) fun v1 =>
 cnd (ine v0.2 (0 : Int))
  (some false)
  (cnd (ine v1.2 (0 : Int))
   (some false)
   (cnd (sne v0.1 ([49, 10, 48, 48, 58, 48, 48, 58, 48, 49, 44, 48, 48, 48, 32, 45, 45, 62, 32, 48, 48, 58, 48, 48, 58, 48, 50, 44, 48, 48, 48, 10, 89, 101, 115, 44, 32, 60, 105, 62, 110, 111, 119, 60, 47, 105, 62, 10, 10] : List UInt8))
    (some false)
    (cnd (sne v1.1 ([48, 49, 58, 48, 50, 58, 48, 51, 44, 48, 48, 52] : List UInt8))
     (some false)
     (bnd (subrip_Decode N (([48, 48, 58, 48, 48, 58, 48, 49, 46, 48, 48, 48, 32, 45, 45, 62, 32, 48, 48, 58, 48, 48, 58, 48, 50, 46, 48, 48, 48, 13, 10, 72, 105, 13, 10] : List UInt8), (3 : UInt8), false)) fun v2 =>
     cnd (ine (len v2.2) (0 : Int))
      (some false)
      (cnd (ine (len v2.1.2.2.2.2.2.2.1) (1 : Int))
       (some false)
       (grd (inb (0 : Int) (len v2.1.2.2.2.2.2.2.1))
        (cnd (bnot (band (ieq (lget v2.1.2.2.2.2.2.2.1 (toN (0 : Int)) ((0 : Int), (((0 : Int), (0 : Int)), ([], ((0 : UInt8), ([], [])))))).2.1.1 (25 : Int)) (ieq (lget v2.1.2.2.2.2.2.2.1 (toN (0 : Int)) ((0 : Int), (((0 : Int), (0 : Int)), ([], ((0 : UInt8), ([], [])))))).2.1.2 (50 : Int))))
         (some false)
         (grd (inb (0 : Int) (len v2.1.2.2.2.2.2.2.1))
          (cnd (ine (len (lget v2.1.2.2.2.2.2.2.1 (toN (0 : Int)) ((0 : Int), (((0 : Int), (0 : Int)), ([], ((0 : UInt8), ([], [])))))).2.2.2.2.2) (1 : Int))
           (some false)
           (grd (inb (0 : Int) (len v2.1.2.2.2.2.2.2.1))
            (grd (inb (0 : Int) (len (lget v2.1.2.2.2.2.2.2.1 (toN (0 : Int)) ((0 : Int), (((0 : Int), (0 : Int)), ([], ((0 : UInt8), ([], [])))))).2.2.2.2.2))
             (bnd (style_Plain N (lget (lget v2.1.2.2.2.2.2.2.1 (toN (0 : Int)) ((0 : Int), (((0 : Int), (0 : Int)), ([], ((0 : UInt8), ([], [])))))).2.2.2.2.2 (toN (0 : Int)) [])) fun v3 =>
             cnd (sne v3 ([72, 105] : List UInt8))
              (some false)
              (bnd (subrip_ParseMarkup N ([60, 105, 62, 97, 60, 47, 105, 62, 60, 98, 62, 98, 60, 99, 62] : List UInt8)) fun v4 =>
              bnd (style_Same N (v4, ([(([97] : List UInt8), ((0 : UInt8), true, false), ([] : List UInt8)), (([98, 60, 99, 62] : List UInt8), ((0 : UInt8), false, false), ([] : List UInt8))] : List ((List UInt8) × (UInt8 × Bool × Bool) × List UInt8)))) fun v5 =>
              some v5)))))))))))))
def ps_l19_SubripReturns : List PK := [.k (.v (.st (.slice (.st (.pair (.str) (.pair (.st (.pair (.u8) (.pair (.bool) (.bool)))) (.str)))))) [])]
def rs_l19_SubripReturns : List Kd := [.v (.bool) []]
def l19_SubripReturns (N : Nat) (x : List ((List UInt8) × (UInt8 × Bool × Bool) × List UInt8)) : Option (Bool) :=
 bnd (l19_awake N ()) fun v0 =>
 cnd (bnot v0)
  (some false)
  (grd (in2 (imin (len x) (20 : Int)) (len x))
   (bnd (subrip_Markup N (ltake (toN (imin (len x) (20 : Int))) x)) fun v1 =>
   cnd (ine v1.2 (0 : Int))
    (some (seq v1.1 ([] : List UInt8)))
    (jn (fun (v2 : List ((List UInt8) × (UInt8 × Bool × Bool) × List UInt8)) =>
     bnd (subrip_ParseMarkup N v1.1) fun v3 =>
     bnd (style_Norm N v2) fun v4 =>
     bnd (style_Same N (v3, v4)) fun v5 =>
     some v5)
    fun v6 =>
    fixN (fun v7 (v8 : Int × List ((List UInt8) × (UInt8 × Bool × Bool) × List UInt8)) =>
     cnd (ilt v8.1 (len (ltake (toN (imin (len x) (20 : Int))) x)))
      (grd (inb v8.1 (len (ltake (toN (imin (len x) (20 : Int))) x)))
       (grd (room (iadd (len v8.2) (len ([((lget (ltake (toN (imin (len x) (20 : Int))) x) (toN v8.1) ([], (((0 : UInt8), (false, false)), []))).1, ((0 : UInt8), (lget (ltake (toN (imin (len x) (20 : Int))) x) (toN v8.1) ([], (((0 : UInt8), (false, false)), []))).2.1.2), ([] : List UInt8))] : List ((List UInt8) × (UInt8 × Bool × Bool) × List UInt8)))) 40)
        (v7 (w64 (iadd v8.1 (1 : Int)), lapp v8.2 ([((lget (ltake (toN (imin (len x) (20 : Int))) x) (toN v8.1) ([], (((0 : UInt8), (false, false)), []))).1, ((0 : UInt8), (lget (ltake (toN (imin (len x) (20 : Int))) x) (toN v8.1) ([], (((0 : UInt8), (false, false)), []))).2.1.2), ([] : List UInt8))] : List ((List UInt8) × (UInt8 × Bool × Bool) × List UInt8))))))
      (v6 v8.2)) N ((0 : Int), ([] : List ((List UInt8) × (UInt8 × Bool × Bool) × List UInt8))))))
end
end Go.Mo
end

section
/-
  Two functions of strings.Builder, walked by hand. The numbers are printed by a program.
-/
set_option linter.unusedVariables false
namespace Go.Mo
open Go Go.W Go.Proofs Go.RowKit

theorem sizeB : (Tryz.prog.info? 84).map (·.size) = some 2 := by kernel_rfl
theorem liesB : liesAt Tryz.prog Tryz.prog.depth 84 (2 / Tryz.prog.cellsOf 84) 0 84 1 = true := by kernel_rfl
theorem cellsByte : Tryz.prog.cellsOf 5 = 1 := by kernel_rfl
theorem undP : Tryz.prog.underlying 81 = some (.pointer 84) := by kernel_rfl
theorem undU : Tryz.prog.underlying 177 = some .unsafePointer := by kernel_rfl
theorem undBP : Tryz.prog.underlying 132 = some (.pointer 5) := by kernel_rfl
theorem undSl : Tryz.prog.underlying 82 = some (.slice 5) := by kernel_rfl
theorem mixedB : Tryz.prog.follows .mixedOrders = true := by kernel_rfl
theorem fNe : Tryz.prog.funcs[149]? = some Tryz.f149 := by kernel_rfl

set_option maxHeartbeats 1000000 in
set_option maxRecDepth 100000 in
theorem cc_used (b : Nat) (w : World) (h0 : w.cell? ⟨b, 0, none⟩ = some (.pointer (some ⟨b, 0, none⟩))) :
    Calls Tryz.prog 93 #[.pointer (some ⟨b, 0, none⟩)] w fun e w' => e = .returned (.tuple #[]) ∧ w' = w := by
  obtain ⟨j, hj, _⟩ := Option.map_eq_some_iff.1 sizeB
  go_enter Tryz.func93, Tryz.ntmps93
  go_wp2
  rw [Lib.run_neq_ptr_same w _ undP hj]
  go_wp2
  go_end0
  exact ⟨rfl, rfl⟩

set_option maxHeartbeats 1000000 in
set_option maxRecDepth 100000 in
theorem cc_fresh (b : Nat) (w : World) (h0 : w.cell? ⟨b, 0, none⟩ = some (.pointer none)) (hsh : w.shape? b = some (84, 2)) (hfz : w.frozen? ⟨b, 0, none⟩ = false) :
    Calls Tryz.prog 93 #[.pointer (some ⟨b, 0, none⟩)] w fun e w' => e = .returned (.tuple #[]) ∧ w' = w.setCell ⟨b, 0, none⟩ (.pointer (some ⟨b, 0, none⟩)) := by
  obtain ⟨j, hj, hjs⟩ := Option.map_eq_some_iff.1 sizeB
  go_enter Tryz.func93, Tryz.ntmps93
  go_wp2
  rw [Lib.run_to_unsafe w ⟨b, 0, none⟩ undP undU hj (by rw [hjs]; decide) hsh (Nat.zero_lt_succ 1)]
  simp only [Result.andThen]
  rw [Oper.upon_value]
  go_wp2
  rw [run_callFunc_extern fNe (by kernel_rfl) (by kernel_rfl) (by kernel_rfl) (e := Extern.AbiNoEscape.same) (by kernel_rfl)]
  rw [Lib.run_noEscape]
  simp only [Result.andThen]
  rw [Oper.upon_value]
  go_wp2
  rw [Lib.run_from_unsafe w ⟨b, 0, none⟩ undU undP hj hsh liesB]
  simp only [Result.andThen]
  rw [Oper.upon_value]
  go_wp2
  go_end0
  exact ⟨rfl, rfl⟩

theorem ccOk : CcOk Tryz.prog 93 84 := by
  intro w b p v hb hp
  refine ⟨by
    unfold callFunc
    simp only [program, Sem.run_bind, Sem.run, Result.andThen_ok, show Tryz.prog.funcs[93]? = some Tryz.f93 from by kernel_rfl]
    rfl, ?_⟩
  have c0 : w.cell? ⟨b, 0, none⟩ = some p := by rw [Lib.cell_of_heap hb]; rfl
  rcases hp with hp | hp
  · subst hp
    refine (cc_fresh b w c0 (by simp [World.shape?, hb]) (Lib.frozen_of_heap hb 0)).mono ?_
    rintro e w' ⟨rfl, rfl⟩
    refine ⟨rfl, rfl, rfl, rfl, by simp [World.setCell], fun b' hb' => ?_, .pointer (some ⟨b, 0, none⟩), ?_, .inr rfl⟩
    · simp [World.setCell, Array.getElem?_modify, Ne.symm hb']
    · simp [World.setCell, Array.getElem?_modify, hb]
  · subst hp
    refine (cc_used b w c0).mono ?_
    rintro e w' ⟨rfl, rfl⟩
    exact ⟨rfl, rfl, rfl, rfl, rfl, fun _ _ => rfl, _, hb, .inr rfl⟩

/-! ### String -/
section
variable (b : Nat) (p : Value) (w : World)
set_option maxHeartbeats 2000000 in
set_option maxRecDepth 100000 in
theorem bs_some (l : List UInt8) (h0 : l ≠ []) (g cap : Nat) (cur : Array Value) (fz : Nat × Nat) (hbk : w.heap[b]? = some (.cells #[p, .slice (some ⟨g, 0, none⟩) l.length cap] 84 (0, 0))) (hg : w.heap[g]? = some (.cells cur 5 fz)) (hnc : l.length ≤ cap) (hcm : cap ≤ maxLen) (hcs : cap ≤ cur.size) (htake : cur.toList.take l.length = l.map fun b => Value.int .u8 (b.toNat : Int)) :
    Calls Tryz.prog 50 #[.pointer (some ⟨b, 0, none⟩)] w fun e w' => e = .returned (.string ⟨l.toArray⟩) ∧ w' = w.drew.freeze ⟨g, 0, none⟩ l.length := by
  have hl0 : l.length ≠ 0 := by simpa using h0
  have c1 : w.drew.cell? ⟨b, 1, none⟩ = some (.slice (some ⟨g, 0, none⟩) l.length cap) := by
    have : w.drew.heap[b]? = some (.cells #[p, .slice (some ⟨g, 0, none⟩) l.length cap] 84 (0, 0)) := hbk
    rw [Lib.cell_of_heap this]; rfl
  have hSD : (Builtin.unsafeSliceData_ #[82] 132 #[.slice (some ⟨g, 0, none⟩) l.length cap]).run Tryz.prog w.drew = .ok (.pointer (some ⟨g, 0, none⟩)) w.drew :=
    Lib.run_unsafeSliceData_row _ _ _ _ _ _ (by omega)
  have hUS : (Builtin.unsafeString_ #[132, 3] 9 #[.pointer (some ⟨g, 0, none⟩), .int .i64 l.length]).run Tryz.prog w.drew = .ok (.string ⟨l.toArray⟩) (w.drew.freeze ⟨g, 0, none⟩ l.length) := by
    refine Lib.run_unsafeString_row w.drew 132 3 9 5 undBP cellsByte g cur.size (by have hg' : w.drew.heap[g]? = some (.cells cur 5 fz) := hg; simp [World.shape?, hg']) l h0 (by omega) (by unfold maxLen at hcm; omega) ?_
    intro j x hx
    have hg' : w.drew.heap[g]? = some (.cells cur 5 fz) := hg
    rw [add_lit, cell_row hg', Nat.zero_add]
    have hj : j < l.length := (List.getElem?_eq_some_iff.1 hx).1
    have := congrArg (·[j]?) htake
    simp only [List.getElem?_take, hj, if_true, List.getElem?_map, hx, Option.map_some] at this
    simpa using this
  go_enter Tryz.func50, Tryz.ntmps50
  go_wp2
  go_region
  all_goals (go_wp2; go_ret; exact ⟨rfl, rfl⟩)

theorem us_none (W : World) (q : Option Addr) : (Builtin.unsafeString_ #[132, 3] 9 #[.pointer q, .int .i64 0]).run Tryz.prog W = .ok (.string .empty) W := Lib.run_unsafeString_none W _ _ _ q

set_option maxHeartbeats 2000000 in
set_option maxRecDepth 100000 in
theorem bs_nil (hbk : w.heap[b]? = some (.cells #[p, .slice none 0 0] 84 (0, 0))) :
    Calls Tryz.prog 50 #[.pointer (some ⟨b, 0, none⟩)] w fun e w' => e = .returned (.string ⟨#[]⟩) ∧ w' = w.drew := by
  have hUS := us_none
  have c1 : w.drew.cell? ⟨b, 1, none⟩ = some (.slice none 0 0) := by
    have : w.drew.heap[b]? = some (.cells #[p, .slice none 0 0] 84 (0, 0)) := hbk
    rw [Lib.cell_of_heap this]; rfl
  have hSD : (Builtin.unsafeSliceData_ #[82] 132 #[.slice none 0 0]).run Tryz.prog w.drew = .ok (.pointer none) w.drew := rfl
  go_enter Tryz.func50, Tryz.ntmps50
  go_wp2
  go_region
  all_goals (go_wp2; go_ret; exact ⟨rfl, rfl⟩)

set_option maxHeartbeats 2000000 in
set_option maxRecDepth 100000 in
theorem bs_noroom (g : Nat) (cur : Array Value) (fz : Nat × Nat) (hbk : w.heap[b]? = some (.cells #[p, .slice (some ⟨g, 0, none⟩) 0 0] 84 (0, 0))) (hg : w.heap[g]? = some (.cells cur 5 fz)) :
    Calls Tryz.prog 50 #[.pointer (some ⟨b, 0, none⟩)] w fun e w' => e = .returned (.string ⟨#[]⟩) ∧ ∃ d o, w' = World.alloc { w with drawn := d } o := by
  have hUS := us_none
  have hlt : b < w.heap.size := (Array.getElem?_eq_some_iff.1 hbk).1
  have c1 : w.drew.cell? ⟨b, 1, none⟩ = some (.slice (some ⟨g, 0, none⟩) 0 0) := by
    have : w.drew.heap[b]? = some (.cells #[p, .slice (some ⟨g, 0, none⟩) 0 0] 84 (0, 0)) := hbk
    rw [Lib.cell_of_heap this]; rfl
  have hSD : (Builtin.unsafeSliceData_ #[82] 132 #[.slice (some ⟨g, 0, none⟩) 0 0]).run Tryz.prog w.drew = .ok (.pointer (some ⟨w.drew.heap.size, 0, none⟩)) (w.drew.alloc (.view ⟨g, 0, none⟩ 5)) :=
    Lib.run_unsafeSliceData_zero w.drew _ _ 5 undBP ⟨g, 0, none⟩ 0 (5, cur.size) (by have hg' : w.drew.heap[g]? = some (.cells cur 5 fz) := hg; simp [World.shape?, hg'])
  have c2 : (w.drew.alloc (.view ⟨g, 0, none⟩ 5)).cell? ⟨b, 1, none⟩ = some (.slice (some ⟨g, 0, none⟩) 0 0) := by
    have : (w.drew.alloc (.view ⟨g, 0, none⟩ 5)).heap[b]? = _ := (Lib.alloc_old w.drew _ b hlt).trans hbk
    rw [Lib.cell_of_heap this]; rfl
  have c3 : (w.alloc (.view ⟨g, 0, none⟩ 5)).drew.cell? ⟨b, 1, none⟩ = some (.slice (some ⟨g, 0, none⟩) 0 0) := c2
  have c0 : w.cell? ⟨b, 1, none⟩ = some (.slice (some ⟨g, 0, none⟩) 0 0) := c1
  go_enter Tryz.func50, Tryz.ntmps50
  go_wp2
  go_region
  all_goals (go_wp2; go_ret; exact ⟨rfl, w.drawn + 1, .view ⟨g, 0, none⟩ 5, rfl⟩)

set_option maxHeartbeats 2000000 in
set_option maxRecDepth 100000 in
theorem bs_room (g cap : Nat) (hc0 : cap ≠ 0) (hbk : w.heap[b]? = some (.cells #[p, .slice (some ⟨g, 0, none⟩) 0 cap] 84 (0, 0))) :
    Calls Tryz.prog 50 #[.pointer (some ⟨b, 0, none⟩)] w fun e w' => e = .returned (.string ⟨#[]⟩) ∧ w' = w.drew := by
  have hUS := us_none
  have c1 : w.drew.cell? ⟨b, 1, none⟩ = some (.slice (some ⟨g, 0, none⟩) 0 cap) := by
    have : w.drew.heap[b]? = some (.cells #[p, .slice (some ⟨g, 0, none⟩) 0 cap] 84 (0, 0)) := hbk
    rw [Lib.cell_of_heap this]; rfl
  have hSD : (Builtin.unsafeSliceData_ #[82] 132 #[.slice (some ⟨g, 0, none⟩) 0 cap]).run Tryz.prog w.drew = .ok (.pointer (some ⟨g, 0, none⟩)) w.drew :=
    Lib.run_unsafeSliceData_row _ _ _ _ _ _ hc0
  clear hc0
  go_enter Tryz.func50, Tryz.ntmps50
  go_wp2
  go_region
  all_goals (go_wp2; go_ret; exact ⟨rfl, rfl⟩)
end
theorem bsOk : BsOk Tryz.prog 50 84 := by
  intro w b p A c xs hb hcm hpre
  refine ⟨by
    unfold callFunc
    simp only [program, Sem.run_bind, Sem.run, Result.andThen_ok, show Tryz.prog.funcs[50]? = some Tryz.f50 from by kernel_rfl]
    rfl, ?_⟩
  have same : ∀ (A : Option Addr) (w' : World), w' = w.drew → SameBut w w' A := fun A w' e => by
    subst e
    exact ⟨rfl, rfl, rfl, Nat.le_refl _, fun _ _ _ => rfl, fun ad _ cs e fz h => ⟨fz, h⟩⟩
  rcases hpre with ⟨rfl, rfl, rfl⟩ | ⟨g, cur, fz, rfl, h1, h2, h3, h4, h5⟩
  · exact (bs_nil b p w hb).mono fun e w' ⟨he, hw⟩ => ⟨he, same _ _ hw⟩
  · by_cases hx : xs = []
    · subst hx
      by_cases hc : c = 0
      · subst hc
        refine (bs_noroom b p w g cur fz hb h1).mono fun e w' ⟨he, d, o, hw⟩ => ⟨he, ?_⟩
        subst hw
        have old : ∀ b', b' < w.heap.size → (World.alloc { w with drawn := d } o).heap[b']? = w.heap[b']? := fun b' hb' => Below.heap_alloc { w with drawn := d } o b' hb'
        exact ⟨rfl, rfl, rfl, by simp [World.alloc], fun b' hb' _ => old b' hb', fun ad _ cs e fz h => ⟨fz, by rw [old _ (Array.getElem?_eq_some_iff.1 h).1]; exact h⟩⟩
      · exact (bs_room b p w g c hc hb).mono fun e w' ⟨he, hw⟩ => ⟨he, same _ _ hw⟩
    · refine (bs_some b p w xs hx g c cur fz hb h1 h3 hcm h4 h5).mono fun e w' ⟨he, hw⟩ => ⟨he, ?_⟩
      subst hw
      have hne : xs.length ≠ 0 := by simpa using hx
      unfold World.freeze
      rw [if_neg hne]
      refine ⟨rfl, rfl, rfl, by simp, fun b' _ hb' => ?_, fun ad had cs e fz' h => ?_⟩
      · have hgb : g ≠ b' := fun e => hb' _ rfl e.symm
        show (w.heap.modify g _)[b']? = w.heap[b']?
        rw [Array.getElem?_modify, if_neg hgb]
      · injection had with had
        subst had
        have h : w.heap[g]? = some (.cells cs e fz') := h
        obtain ⟨lo, hi⟩ := fz'
        refine ⟨if lo == hi then (0, 0 + xs.length) else (min lo 0, max hi (0 + xs.length)), ?_⟩
        show (w.heap.modify g _)[g]? = _
        rw [Array.getElem?_modify, if_pos rfl, h]
        rfl
end Go.Mo
end

section
/-
  unicode/utf8.ValidString: the library's contract. The numbers are printed by a program.
-/
set_option linter.unusedVariables false
namespace Go.Mo
open Go Go.W Go.Proofs Go.Shelf Go.RowKit
set_option maxRecDepth 100000
def rhoV : Ren := ⟨fun n => match n with | 196 => 143 | 259 => 182 | n => n, fun n => match n with | 46 => 167 | 53 => 181 | 119 => 199 | 138 => 201 | 139 => 202 | n => n, fun n => match n with | 3 => 1 | 4 => 2 | n => n⟩
theorem laysV : Lays.n196 Tryz.prog rhoV := { mixed := by kernel_rfl, f196 := by kernel_rfl, f259 := by kernel_rfl, t0 := by kernel_rfl, a0 := fun _ => by kernel_rfl, z0 := fun _ => by kernel_rfl, v0 := fun _ => by kernel_rfl, t3 := by kernel_rfl, a3 := fun _ => by kernel_rfl, z3 := fun _ => by kernel_rfl, v3 := fun _ => by kernel_rfl, t4 := by kernel_rfl, a4 := fun _ => by kernel_rfl, z4 := fun _ => by kernel_rfl, v4 := fun _ => by kernel_rfl, t5 := by kernel_rfl, a5 := fun _ => by kernel_rfl, z5 := fun _ => by kernel_rfl, v5 := fun _ => by kernel_rfl, t9 := by kernel_rfl, a9 := fun _ => by kernel_rfl, z9 := fun _ => by kernel_rfl, v9 := fun _ => by kernel_rfl, t12 := by kernel_rfl, a12 := fun _ => by kernel_rfl, z12 := fun _ => by kernel_rfl, v12 := fun _ => by kernel_rfl, t46 := by kernel_rfl, a46 := fun _ => by kernel_rfl, z46 := fun _ => by kernel_rfl, v46 := fun _ => by kernel_rfl, t53 := by kernel_rfl, a53 := fun _ => by kernel_rfl, z53 := fun _ => by kernel_rfl, v53 := fun _ => by kernel_rfl, t119 := by kernel_rfl, a119 := fun _ => by kernel_rfl, z119 := fun _ => by kernel_rfl, t138 := by kernel_rfl, a138 := fun _ => by kernel_rfl, z138 := fun _ => by kernel_rfl, v138 := fun _ => by kernel_rfl, t139 := by kernel_rfl, a139 := fun _ => by kernel_rfl, z139 := fun _ => by kernel_rfl, v139 := fun _ => by kernel_rfl, g3 := by kernel_rfl, g4 := by kernel_rfl }
theorem first_tab : ((List.range 256).all fun c => Nat.beq ((gl1.getD c 0).toNat) (Lib.firstT c) && Nat.beq gl1.length 256) = true := by kernel_rfl
theorem acc_tab : ((List.range 16).all fun c => Nat.beq ((gl2.getD c (0, 0)).1.toNat) (Lib.accLo c) && Nat.beq ((gl2.getD c (0, 0)).2.toNat) (Lib.accHi c) && Nat.beq gl2.length 16) = true := by kernel_rfl
theorem rep_pairs {K : Kn} : ∀ {xs : List (UInt8 × UInt8)} {vs : List Value}, RepL (RepC K (.st (.pair .u8 .u8))) xs vs → ∀ i x, xs[i]? = some x → vs[2 * i]? = some (.int .u8 (n8 x.1)) ∧ vs[2 * i + 1]? = some (.int .u8 (n8 x.2))
  | [], vs, h, i, x, hx => by simp at hx
  | y :: xs, vs, ⟨c1, c2, e, h1, h2⟩, i, x, hx => by
    obtain ⟨d1, d2, e1, e2, e3⟩ := h1
    have e2 : d1 = [.int .u8 (n8 y.1)] := e2
    have e3 : d2 = [.int .u8 (n8 y.2)] := e3
    subst e2
    subst e3
    subst e1
    subst e
    cases i with
    | zero => simp at hx; subst hx; exact ⟨rfl, rfl⟩
    | succ i =>
      have := rep_pairs h2 i x (by simpa using hx)
      rw [show 2 * (i + 1) = 2 * i + 1 + 1 by omega]
      simpa using this
theorem tabsV {K : Kn} {w : World} (hg : GlobOk E K) (hk : KOk K w) : Lib.Utf8Tabs 1 2 w := by
  have cell : ∀ {b o : Nat} {v : Value}, K b o = some v → v.oneCell' = true → w.cell? ⟨b, o, none⟩ = some v := fun {b o v} h hv => by
    obtain ⟨cs, e, fz, h1, h2⟩ := hk b o v h
    rw [cell_row h1]
    exact h2.1 hv
  constructor
  · obtain ⟨cs, ⟨_, r2⟩, r3, _⟩ := hg.1 1 _ _ (show lkG E.gl 1 = some ⟨.arr 256 .u8, gl1⟩ from by kernel_rfl)
    have hcs := repL_u8_cells r2
    intro c hc
    have ht := List.all_eq_true.1 first_tab c (List.mem_range.2 hc)
    simp only [Bool.and_eq_true] at ht
    have ht1 := Nat.eq_of_beq_eq_true ht.1
    have ht2 := Nat.eq_of_beq_eq_true ht.2
    have hlt : c < gl1.length := by rw [ht2]; exact hc
    refine cell (r3 c _ ?_) rfl
    rw [hcs, List.getElem?_map, List.getElem?_eq_getElem hlt]
    have : gl1.getD c 0 = gl1[c] := by simp [hlt]
    rw [this] at ht1
    simp [ht1]
  · obtain ⟨cs, ⟨_, r2⟩, r3, _⟩ := hg.1 2 _ _ (show lkG E.gl 2 = some ⟨.arr 16 (.st (.pair .u8 .u8)), gl2⟩ from by kernel_rfl)
    intro c hc
    have ht := List.all_eq_true.1 acc_tab c (List.mem_range.2 hc)
    simp only [Bool.and_eq_true] at ht
    have ht1 := Nat.eq_of_beq_eq_true ht.1.1
    have ht2 := Nat.eq_of_beq_eq_true ht.1.2
    have ht3 := Nat.eq_of_beq_eq_true ht.2
    have hlt : c < gl2.length := by rw [ht3]; exact hc
    obtain ⟨q1, q2⟩ := rep_pairs r2 c _ (List.getElem?_eq_getElem hlt)
    have : gl2.getD c (0, 0) = gl2[c] := by simp [hlt]
    rw [this] at ht1 ht2
    refine ⟨cell (r3 _ _ (by rw [q1]; unfold n8; rw [ht1])) rfl, cell (r3 _ _ (by rw [q2]; unfold n8; rw [ht2])) rfl⟩
theorem khV (N : Nat) : ConOk E ⟨143, [.k (.v .str [])], [.v .bool []], hand_utf8_ValidString N⟩ := by
  intro x r h w K H γ args hEnt
  obtain ⟨hgd, h⟩ := grd_some (show grd (catOk (len x)) (some (Lib.validD x)) = some r from h)
  injection h with h
  subst h
  have hgd : (x.length : Int) ≤ 9223372036854775807 := of_decide_eq_true hgd
  right
  have hs : args.size = 1 := hEnt.size
  have s0 := (hEnt.slots 0 0 (.val (.one (.v .str x))) rfl).2
  have s0 : args.getD 0 undef = .string (bst x) := by simpa [RepSV, RepV, RepCell, RepC] using s0
  have ha : args = #[.string (bst x)] := by
    apply Array.ext
    · simpa using hs
    · intro i h1 h3
      simp at h3
      subst h3
      have : args.getD 0 undef = args[0] := by simp [Array.getD, hs]
      rw [← this, s0]
      rfl
  subst ha
  have hsz : (bst x).size = x.length := bst_size x
  refine ⟨by
    unfold callFunc
    simp only [program, Sem.run_bind, Sem.run, Result.andThen_ok, show E.P.funcs[143]? = some Tryz.f143 from by kernel_rfl]
    rfl, ?_⟩
  have hT := tabsV hEnt.glob hEnt.hp.kok
  refine (Any.utf8_ValidString laysV (bst x) w (by rw [hsz]; omega) hT).mono fun e w' he => ?_
  obtain ⟨rfl, hb⟩ := he
  intro tk _
  refine ⟨γ, obs (W.start [.k (.v .str [])] x), K, [], [], ?_, ⟨rfl, rfl⟩, fun j => by simp, fun i o ho => ?_, fun γ2 _ => rfl⟩
  · have hn : ∀ j, obs (W.start [.k (.v .str [])] x) j = none := fun j => rfl
    refine ⟨hb.os, hb.tape, hb.output, hb.size, fun b hlt _ => ⟨hb.block b hlt, fun _ => rfl⟩, Kn.le.refl K, fun b o v hv => ?_, fun j o g hj => (by rw [hn] at hj; cases hj), fun j o g hj => (by rw [hn] at hj; cases hj), fun i j p q g g' hi => (by rw [hn] at hi; cases hi)⟩
    obtain ⟨cs, ee, fz, h1, h2⟩ := hEnt.hp.kok b o v hv
    exact ⟨cs, ee, fz, by rw [hb.block b (Array.getElem?_eq_some_iff.1 h1).1]; exact h1, h2⟩
  · have ho : ([] : List Ob)[i]? = some o := ho
    simp at ho
end Go.Mo
end

section
/-
  Functions of the library, by its own contracts. The numbers are printed by a program.
-/
set_option linter.all false
namespace Go.Mo
open Go Go.W Go.Proofs Go.Shelf Go.RowKit
set_option maxRecDepth 100000
def rhoC : Ren := ⟨fun n => match n with | 143 => 38 | 144 => 172 | 217 => 134 | 219 => 84 | 224 => 136 | 225 => 135 | 266 => 178 | 267 => 137 | 314 => 179 | n => n, fun n => match n with | 46 => 167 | 51 => 195 | 146 => 196 | 22 => 80 | 23 => 99 | 27 => 66 | 28 => 159 | 31 => 64 | 37 => 82 | 39 => 169 | 40 => 204 | 41 => 176 | 47 => 226 | 52 => 227 | 53 => 181 | 54 => 214 | 55 => 165 | 61 => 65 | 64 => 170 | 65 => 67 | 69 => 52 | 70 => 81 | 71 => 83 | 72 => 84 | 73 => 126 | 74 => 85 | 75 => 86 | 76 => 87 | 77 => 88 | 80 => 89 | 81 => 134 | 83 => 212 | 84 => 76 | 103 => 168 | 104 => 78 | 105 => 127 | 106 => 128 | 111 => 171 | 113 => 125 | 114 => 166 | 115 => 172 | 116 => 173 | 117 => 174 | 118 => 175 | 119 => 199 | 124 => 205 | 127 => 132 | 131 => 122 | 136 => 203 | 137 => 200 | 138 => 201 | 139 => 202 | 150 => 164 | 151 => 197 | 164 => 177 | 165 => 178 | 166 => 198 | 171 => 213 | 172 => 215 | 173 => 216 | 174 => 217 | 211 => 223 | 212 => 224 | 213 => 225 | 232 => 228 | 233 => 229 | 238 => 230 | 239 => 231 | 240 => 232 | 241 => 233 | 242 => 234 | 243 => 235 | 244 => 236 | 245 => 237 | 246 => 238 | 247 => 239 | 248 => 240 | 249 => 241 | n => n, fun n => match n with | 1 => 0 | 3 => 1 | 4 => 2 | 17 => 3 | 18 => 4 | 19 => 5 | n => n⟩
theorem laysC : Lays.n144 Tryz.prog rhoC := { mixed := by kernel_rfl, f143 := by kernel_rfl, f144 := by kernel_rfl, f217 := by kernel_rfl, f219 := by kernel_rfl, f224 := by kernel_rfl, f225 := by kernel_rfl, f266 := by kernel_rfl, f267 := by kernel_rfl, f314 := by kernel_rfl, t3 := by kernel_rfl, a3 := fun _ => by kernel_rfl, z3 := fun _ => by kernel_rfl, v3 := fun _ => by kernel_rfl, t4 := by kernel_rfl, a4 := fun _ => by kernel_rfl, z4 := fun _ => by kernel_rfl, v4 := fun _ => by kernel_rfl, t5 := by kernel_rfl, a5 := fun _ => by kernel_rfl, z5 := fun _ => by kernel_rfl, v5 := fun _ => by kernel_rfl, t9 := by kernel_rfl, a9 := fun _ => by kernel_rfl, z9 := fun _ => by kernel_rfl, v9 := fun _ => by kernel_rfl, t46 := by kernel_rfl, a46 := fun _ => by kernel_rfl, z46 := fun _ => by kernel_rfl, v46 := fun _ => by kernel_rfl, t51 := by kernel_rfl, a51 := fun _ => by kernel_rfl, z51 := fun _ => by kernel_rfl, v51 := fun _ => by kernel_rfl, t146 := by kernel_rfl, a146 := fun _ => by kernel_rfl, z146 := fun _ => by kernel_rfl, v146 := fun _ => by kernel_rfl, g1 := by kernel_rfl }
theorem khContains (N : Nat) : ConOk E ⟨172, [.k (.v .str []), .k (.v .str [])], [.v .bool []], hand_strings_Contains N⟩ :=
  con_ssb (fn := Tryz.f172) _ (show E.P.funcs[172]? = some Tryz.f172 from by kernel_rfl) (by kernel_rfl) (by kernel_rfl) fun x r h w K hG hk => by
    obtain ⟨hb, h⟩ := grd_some h
    injection h with h
    subst h
    have hb : x.1.length < 4294967281 := of_decide_eq_true hb
    obtain ⟨m, hm⟩ := hG.2 0 (by kernel_rfl)
    obtain ⟨cs, e, fz, h1, h2⟩ := hk _ _ _ hm
    exact Any.strings_Contains laysC (bst x.1) (bst x.2) m w (by rw [bst_size]; exact hb) (by
      show w.cell? ⟨0, 0, none⟩ = _
      rw [cell_row h1]
      exact h2.1 rfl)
def rhoF : Ren := ⟨fun n => match n with | 129 => 212 | 246 => 181 | 283 => 202 | 284 => 203 | 285 => 204 | 286 => 205 | 317 => 211 | 318 => 213 | 319 => 214 | 320 => 215 | 337 => 217 | 338 => 218 | n => n, fun n => match n with | 37 => 82 | 46 => 167 | 51 => 195 | 53 => 181 | 171 => 213 | 173 => 216 | 212 => 224 | 213 => 225 | 232 => 228 | 233 => 229 | 22 => 80 | 23 => 99 | 27 => 66 | 28 => 159 | 31 => 64 | 39 => 169 | 40 => 204 | 41 => 176 | 47 => 226 | 52 => 227 | 54 => 214 | 55 => 165 | 61 => 65 | 64 => 170 | 65 => 67 | 69 => 52 | 70 => 81 | 71 => 83 | 72 => 84 | 73 => 126 | 74 => 85 | 75 => 86 | 76 => 87 | 77 => 88 | 80 => 89 | 81 => 134 | 83 => 212 | 84 => 76 | 103 => 168 | 104 => 78 | 105 => 127 | 106 => 128 | 111 => 171 | 113 => 125 | 114 => 166 | 115 => 172 | 116 => 173 | 117 => 174 | 118 => 175 | 119 => 199 | 124 => 205 | 127 => 132 | 131 => 122 | 136 => 203 | 137 => 200 | 138 => 201 | 139 => 202 | 146 => 196 | 150 => 164 | 151 => 197 | 164 => 177 | 165 => 178 | 166 => 198 | 172 => 215 | 174 => 217 | 211 => 223 | 238 => 230 | 239 => 231 | 240 => 232 | 241 => 233 | 242 => 234 | 243 => 235 | 244 => 236 | 245 => 237 | 246 => 238 | 247 => 239 | 248 => 240 | 249 => 241 | n => n, fun n => match n with | 17 => 3 | 18 => 4 | 19 => 5 | 1 => 0 | 3 => 1 | 4 => 2 | n => n⟩
theorem laysF : LaysM.n246 Tryz.prog rhoF := { mixed := by kernel_rfl, f129 := by kernel_rfl, f246 := by kernel_rfl, f283 := by kernel_rfl, f284 := by kernel_rfl, f285 := by kernel_rfl, f286 := by kernel_rfl, f317 := by kernel_rfl, f318 := by kernel_rfl, f319 := by kernel_rfl, f320 := by kernel_rfl, f337 := by kernel_rfl, f338 := by kernel_rfl, t0 := by kernel_rfl, a0 := fun _ => by kernel_rfl, z0 := fun _ => by kernel_rfl, v0 := fun _ => by kernel_rfl, t2 := by kernel_rfl, a2 := fun _ => by kernel_rfl, z2 := fun _ => by kernel_rfl, v2 := fun _ => by kernel_rfl, t3 := by kernel_rfl, a3 := fun _ => by kernel_rfl, z3 := fun _ => by kernel_rfl, v3 := fun _ => by kernel_rfl, t4 := by kernel_rfl, a4 := fun _ => by kernel_rfl, z4 := fun _ => by kernel_rfl, v4 := fun _ => by kernel_rfl, t5 := by kernel_rfl, a5 := fun _ => by kernel_rfl, z5 := fun _ => by kernel_rfl, v5 := fun _ => by kernel_rfl, t9 := by kernel_rfl, a9 := fun _ => by kernel_rfl, z9 := fun _ => by kernel_rfl, v9 := fun _ => by kernel_rfl, t20 := by kernel_rfl, a20 := fun _ => by kernel_rfl, z20 := fun _ => by kernel_rfl, v20 := fun _ => by kernel_rfl, t37 := by kernel_rfl, a37 := fun _ => by kernel_rfl, z37 := fun _ => by kernel_rfl, v37 := fun _ => by kernel_rfl, t46 := by kernel_rfl, a46 := fun _ => by kernel_rfl, z46 := fun _ => by kernel_rfl, v46 := fun _ => by kernel_rfl, t51 := by kernel_rfl, a51 := fun _ => by kernel_rfl, z51 := fun _ => by kernel_rfl, v51 := fun _ => by kernel_rfl, t53 := by kernel_rfl, a53 := fun _ => by kernel_rfl, z53 := fun _ => by kernel_rfl, v53 := fun _ => by kernel_rfl, t171 := by kernel_rfl, a171 := fun _ => by kernel_rfl, z171 := fun _ => by kernel_rfl, v171 := fun _ => by kernel_rfl, t173 := by kernel_rfl, a173 := fun _ => by kernel_rfl, z173 := fun _ => by kernel_rfl, v173 := fun _ => by kernel_rfl, t212 := by kernel_rfl, a212 := fun _ => by kernel_rfl, z212 := fun _ => by kernel_rfl, v212 := fun _ => by kernel_rfl, t213 := by kernel_rfl, a213 := fun _ => by kernel_rfl, z213 := fun _ => by kernel_rfl, t232 := by kernel_rfl, a232 := fun _ => by kernel_rfl, z232 := fun _ => by kernel_rfl, v232 := fun _ => by kernel_rfl, t233 := by kernel_rfl, a233 := fun _ => by kernel_rfl, z233 := fun _ => by kernel_rfl, v233 := fun _ => by kernel_rfl, g17 := by kernel_rfl, g18 := by kernel_rfl, g19 := by kernel_rfl, i0 := by kernel_rfl, i2 := by kernel_rfl, i3 := by kernel_rfl, i4 := by kernel_rfl, i5 := by kernel_rfl, i9 := by kernel_rfl, i20 := by kernel_rfl, i37 := by kernel_rfl, i46 := by kernel_rfl, i51 := by kernel_rfl, i53 := by kernel_rfl, i171 := by kernel_rfl, i173 := by kernel_rfl, i212 := by kernel_rfl, i232 := by kernel_rfl, i233 := by kernel_rfl, m17 := by kernel_rfl, m18 := by kernel_rfl, m19 := by kernel_rfl }
theorem khFormatInt (N : Nat) : ConOk E ⟨181, [.k (.v (.int .i64) []), .k (.v (.int .i64) [])], [.v .str []], hand_istrconv_FormatInt N⟩ :=
  con_fmt (fn := Tryz.f181) _ (show E.P.funcs[181]? = some Tryz.f181 from by kernel_rfl) (by kernel_rfl) (by kernel_rfl) fun x r h w K hG hk => by
    obtain ⟨h1, h⟩ := grd_some (show grd (ieq x.2 10) _ = some r from h)
    obtain ⟨h2, h⟩ := grd_some h
    obtain ⟨h3, h⟩ := grd_some h
    injection h with h
    subst h
    have e1 : x.2 = 10 := by unfold ieq at h1; simpa using h1
    have h2 : -9223372036854775808 ≤ x.1 := of_decide_eq_true h2
    have h3 : x.1 ≤ 9223372036854775807 := of_decide_eq_true h3
    obtain ⟨cs, r2, r3, r4⟩ := hG.1 3 _ _ (show lkG E.gl 3 = some ⟨.arr 20 (.int .u64), gl3⟩ from by kernel_rfl)
    have htab : Lib.TabIs E.P w "internal/strconv.uint64pow10" .u64 Lib.pow10Tab := by
      have := tab_is (P := E.P) (name := "internal/strconv.uint64pow10") hk r2 r3 r4 (by kernel_rfl)
      rwa [show (gl3 : List Int) = Lib.pow10Tab by kernel_rfl] at this
    rw [e1]
    refine (Any.internal_strconv_FormatInt_10 laysF x.1 h2 h3 w htab).mono fun e w' he => ?_
    obtain ⟨q1, k, os, q2⟩ := he
    subst q2
    exact ⟨by rw [q1, itoa10_eq h2 h3]; rfl, rfl, rfl, rfl, Lib.size_grow w k os, fun b hb => Lib.heap_grow_old w k os b hb⟩
def rhoA : Ren := ⟨fun n => match n with | 119 => 185 | 137 => 184 | 152 => 145 | 153 => 92 | 217 => 134 | 224 => 136 | 225 => 135 | 226 => 146 | 227 => 147 | 228 => 148 | 266 => 178 | n => n, fun n => match n with | 46 => 167 | 116 => 173 | 117 => 174 | 124 => 205 | 22 => 80 | 23 => 99 | 27 => 66 | 28 => 159 | 31 => 64 | 37 => 82 | 39 => 169 | 40 => 204 | 41 => 176 | 47 => 226 | 51 => 195 | 52 => 227 | 53 => 181 | 54 => 214 | 55 => 165 | 61 => 65 | 64 => 170 | 65 => 67 | 69 => 52 | 70 => 81 | 71 => 83 | 72 => 84 | 73 => 126 | 74 => 85 | 75 => 86 | 76 => 87 | 77 => 88 | 80 => 89 | 81 => 134 | 83 => 212 | 84 => 76 | 103 => 168 | 104 => 78 | 105 => 127 | 106 => 128 | 111 => 171 | 113 => 125 | 114 => 166 | 115 => 172 | 118 => 175 | 119 => 199 | 127 => 132 | 131 => 122 | 136 => 203 | 137 => 200 | 138 => 201 | 139 => 202 | 146 => 196 | 150 => 164 | 151 => 197 | 164 => 177 | 165 => 178 | 166 => 198 | 171 => 213 | 172 => 215 | 173 => 216 | 174 => 217 | 211 => 223 | 212 => 224 | 213 => 225 | 232 => 228 | 233 => 229 | 238 => 230 | 239 => 231 | 240 => 232 | 241 => 233 | 242 => 234 | 243 => 235 | 244 => 236 | 245 => 237 | 246 => 238 | 247 => 239 | 248 => 240 | 249 => 241 | n => n, fun n => match n with | 1 => 0 | 3 => 1 | 4 => 2 | 17 => 3 | 18 => 4 | 19 => 5 | n => n⟩
theorem laysA : Lays.n153 Tryz.prog rhoA := { mixed := by kernel_rfl, f119 := by kernel_rfl, f137 := by kernel_rfl, f152 := by kernel_rfl, f153 := by kernel_rfl, f217 := by kernel_rfl, f224 := by kernel_rfl, f225 := by kernel_rfl, f226 := by kernel_rfl, f227 := by kernel_rfl, f228 := by kernel_rfl, f266 := by kernel_rfl, t0 := by kernel_rfl, a0 := fun _ => by kernel_rfl, z0 := fun _ => by kernel_rfl, v0 := fun _ => by kernel_rfl, t3 := by kernel_rfl, a3 := fun _ => by kernel_rfl, z3 := fun _ => by kernel_rfl, v3 := fun _ => by kernel_rfl, t4 := by kernel_rfl, a4 := fun _ => by kernel_rfl, z4 := fun _ => by kernel_rfl, v4 := fun _ => by kernel_rfl, t5 := by kernel_rfl, a5 := fun _ => by kernel_rfl, z5 := fun _ => by kernel_rfl, v5 := fun _ => by kernel_rfl, t9 := by kernel_rfl, a9 := fun _ => by kernel_rfl, z9 := fun _ => by kernel_rfl, v9 := fun _ => by kernel_rfl, t21 := by kernel_rfl, a21 := fun _ => by kernel_rfl, z21 := fun _ => by kernel_rfl, v21 := fun _ => by kernel_rfl, t46 := by kernel_rfl, a46 := fun _ => by kernel_rfl, z46 := fun _ => by kernel_rfl, v46 := fun _ => by kernel_rfl, t116 := by kernel_rfl, a116 := fun _ => by kernel_rfl, z116 := fun _ => by kernel_rfl, t117 := by kernel_rfl, a117 := fun _ => by kernel_rfl, z117 := fun _ => by kernel_rfl, v117 := fun _ => by kernel_rfl, t124 := by kernel_rfl, a124 := fun _ => by kernel_rfl, z124 := fun _ => by kernel_rfl, v124 := fun _ => by kernel_rfl }
theorem khl_IndexAny : ConOk E ⟨92, [.k (.v .str []), .k (.v .str [])], [.v (.int .i64) []], fun x : List UInt8 × List UInt8 => grd (longAny x) (some (Lib.indexAny x.1 x.2))⟩ :=
  con_ssi (fn := Tryz.f92) _ (show E.P.funcs[92]? = some Tryz.f92 from by kernel_rfl) (by kernel_rfl) (by kernel_rfl) fun x r h w K hG hk => by
    obtain ⟨h1, h⟩ := grd_some (show grd (longAny x) _ = some r from h)
    injection h with h
    subst h
    unfold longAny at h1
    simp only [Bool.and_eq_true] at h1
    obtain ⟨⟨⟨⟨h1, h2⟩, h3⟩, h4⟩, h5⟩ := h1
    have h1 := Nat.le_of_ble_eq_true h1
    have h2 := Nat.le_of_ble_eq_true h2
    have h3 := Nat.le_of_ble_eq_true h3
    have h4 := Nat.le_of_ble_eq_true h4
    have hz := zero_of_info (P := E.P) (t := rhoA.t 116) (v := .agg (Array.replicate 256 (.bool false))) (n := 256) (by kernel_rfl)
    refine (Any.strings_IndexAny_long laysA hz.1 hz.2 (bst x.1) (bst x.2) w (by rw [bst_size]; omega) (by rw [bst_size]; omega) (by rw [bst_size]; omega) (by rw [bst_size]; omega) (asciiL_at h5)).mono fun e w' he => ?_
    obtain ⟨q1, q2⟩ := he
    subst q2
    generalize Obj.cells (Lib.setCells (bst x.2).data.toList) (rhoA.t 116) = ob
    exact ⟨q1, rfl, rfl, rfl, by rw [World.alloc, World.alloc]; simp only [Array.size_push]; omega, fun b hb => by rw [World.alloc, World.alloc]; simp only [Array.getElem?_push, Array.size_push]; rw [if_neg (by omega), if_neg (by omega)]⟩
end Go.Mo
end

section
/-
  The environment is sound; contracts by hand.
-/
namespace Go.Mo
open Go Go.W Go.Proofs
set_option maxRecDepth 100000
theorem nzOk : NzOk E.P 180 := nz_ok (show E.P.funcs[180]? = some Tryz.f180 from by kernel_rfl) (by kernel_rfl) (by kernel_rfl) (by kernel_rfl) (show Extern.find Tryz.f180 = some (Extern.BytealgMakeNoZero.makeNoZero #[3] #[82]) from by kernel_rfl) (by kernel_rfl)
theorem envOk : EnvOk E := ⟨chk, mixed, fun z h => (by injection h with h; subst h; exact nzOk), fun z t h => (by injection h with h; injection h with h1 h2; subst h1; subst h2; exact bsOk)⟩
theorem kh_utf8_ValidString (N : Nat) : ConOk E ⟨143, ps_utf8_ValidString, rs_utf8_ValidString, utf8_ValidString N⟩ := khV N
theorem kh_strings_Builder_copyCheck (N : Nat) : ConOk E ⟨93, ps_strings_Builder_copyCheck, rs_strings_Builder_copyCheck, strings_Builder_copyCheck N⟩ := W.kh_copyCheck (show CcOk E.P 93 84 from ccOk) N
theorem kh_bytealg_IndexByteString (N : Nat) : ConOk E ⟨178, ps_bytealg_IndexByteString, rs_bytealg_IndexByteString, bytealg_IndexByteString N⟩ := W.kh_IndexByteString (show E.P.funcs[178]? = some Tryz.f178 from by kernel_rfl) (by kernel_rfl) (by kernel_rfl) (by kernel_rfl) (show Extern.find Tryz.f178 = some Extern.BytealgIndexByte.indexByte from by kernel_rfl) N
theorem kh_strings_Contains (N : Nat) : ConOk E ⟨172, ps_strings_Contains, rs_strings_Contains, strings_Contains N⟩ := khContains N
theorem kh_istrconv_FormatInt (N : Nat) : ConOk E ⟨181, ps_istrconv_FormatInt, rs_istrconv_FormatInt, istrconv_FormatInt N⟩ := khFormatInt N
theorem kh_bytealg_CountString (N : Nat) : ConOk E ⟨139, ps_bytealg_CountString, rs_bytealg_CountString, bytealg_CountString N⟩ := W.kh_CountString (show E.P.funcs[139]? = some Tryz.f139 from by kernel_rfl) (by kernel_rfl) (by kernel_rfl) (by kernel_rfl) (show Extern.find Tryz.f139 = some Extern.BytealgCount.count from by kernel_rfl) N
end Go.Mo
end

section
/-
  The functions do what their models say. Printed by a program.
-/
namespace Go.Mo
open Go Go.W Go.Proofs
noncomputable section
set_option maxRecDepth 100000
def a_utf8_word_string : Ann := .lf
theorem x_utf8_word_string (N : Nat) : execF E [] N Tryz.f182 a_utf8_word_string ps_utf8_word_string rs_utf8_word_string = utf8_word_string N := by kernel_rfl

def a_charset_place : Ann := (.sq .lf (.sq .lf (.jn ⟨[], [], [], []⟩ (.sq .lf (.lp ⟨[1, 9], [], [.s 5, .o 5], [.v (.int .i64) [], .i]⟩ .lf)) .lf)))
theorem x_charset_place (N : Nat) : execF E [] N Tryz.f183 a_charset_place ps_charset_place rs_charset_place = charset_place N := by kernel_rfl
def a_charset_Index : Ann := .lf
theorem x_charset_Index (N : Nat) : execF E [⟨183, ps_charset_place, rs_charset_place, charset_place N⟩] N Tryz.f144 a_charset_Index ps_charset_Index rs_charset_Index = charset_Index N := by kernel_rfl
def a_charset_Valid : Ann := (.sq .lf (.sq .lf (.jn ⟨[], [], [], []⟩ (.sq .lf (.lp ⟨[9], [], [.o 7], [.i]⟩ .lf)) .lf)))
theorem x_charset_Valid (N : Nat) : execF E [⟨143, ps_utf8_ValidString, rs_utf8_ValidString, utf8_ValidString N⟩, ⟨144, ps_charset_Index, rs_charset_Index, charset_Index N⟩] N Tryz.f89 a_charset_Valid ps_charset_Valid rs_charset_Valid = charset_Valid N := by kernel_rfl
def a_lines_Name : Ann := (.sq .lf (.sq .lf (.jn ⟨[], [], [], []⟩ (.sq .lf (.lp ⟨[0, 24], [], [.s 25], [.v (.int .i64) []]⟩ (.sq .lf (.sq .lf (.jn ⟨[0, 24, 25], [], [], []⟩ .lf .lf))))) .lf)))
theorem x_lines_Name (N : Nat) : execF E [] N Tryz.f119 a_lines_Name ps_lines_Name rs_lines_Name = lines_Name N := by kernel_rfl
def a_timebase_of : Ann := .lf
theorem x_timebase_of (N : Nat) : execF E [] N Tryz.f102 a_timebase_of ps_timebase_of rs_timebase_of = timebase_of N := by kernel_rfl
def a_timebase_Valid : Ann := .lf
theorem x_timebase_Valid (N : Nat) : execF E [⟨102, ps_timebase_of, rs_timebase_of, timebase_of N⟩] N Tryz.f61 a_timebase_Valid ps_timebase_Valid rs_timebase_Valid = timebase_Valid N := by kernel_rfl
def a_timebase_CanDrop : Ann := .lf
theorem x_timebase_CanDrop (N : Nat) : execF E [⟨102, ps_timebase_of, rs_timebase_of, timebase_of N⟩] N Tryz.f62 a_timebase_CanDrop ps_timebase_CanDrop rs_timebase_CanDrop = timebase_CanDrop N := by kernel_rfl
def a_document_rate : Ann := .lf
theorem x_document_rate (N : Nat) : execF E [⟨61, ps_timebase_Valid, rs_timebase_Valid, timebase_Valid N⟩, ⟨62, ps_timebase_CanDrop, rs_timebase_CanDrop, timebase_CanDrop N⟩] N Tryz.f120 a_document_rate ps_document_rate rs_document_rate = document_rate N := by kernel_rfl
def a_document_header : Ann := (.sq .lf (.jn ⟨[1], [2], [], []⟩ .lf .lf))
theorem x_document_header (N : Nat) : execF E [⟨89, ps_charset_Valid, rs_charset_Valid, charset_Valid N⟩, ⟨119, ps_lines_Name, rs_lines_Name, lines_Name N⟩, ⟨120, ps_document_rate, rs_document_rate, document_rate N⟩] N Tryz.f76 a_document_header ps_document_header rs_document_header = document_header N := by kernel_rfl
def a_region_from : Ann := .lf
theorem x_region_from (N : Nat) : execF E [] N Tryz.f169 a_region_from ps_region_from rs_region_from = region_from N := by kernel_rfl
def a_region_Check : Ann := .lf
theorem x_region_Check (N : Nat) : execF E [⟨119, ps_lines_Name, rs_lines_Name, lines_Name N⟩, ⟨169, ps_region_from, rs_region_from, region_from N⟩] N Tryz.f121 a_region_Check ps_region_Check rs_region_Check = region_Check N := by kernel_rfl
def a_region_CheckList : Ann := (.sq .lf (.sq .lf (.jn ⟨[], [], [], []⟩ (.sq .lf (.lp ⟨[0, 9, 10], [], [.s 11], [.v (.int .i64) []]⟩ (.sq .lf (.sq .lf (.sq (.sq .lf (.sq .lf (.jn ⟨[0, 3, 4, 9, 10, 11], [14], [], []⟩ .lf .lf))) .lf))))) .lf)))
theorem x_region_CheckList (N : Nat) : execF E [⟨121, ps_region_Check, rs_region_Check, region_Check N⟩] N Tryz.f77 a_region_CheckList ps_region_CheckList rs_region_CheckList = region_CheckList N := by kernel_rfl
def a_region_Default : Ann := .lf
theorem x_region_Default (N : Nat) : execF E [] N Tryz.f170 a_region_Default ps_region_Default rs_region_Default = region_Default N := by kernel_rfl
def a_region_Find : Ann := (.sq .lf (.sq .lf (.jn ⟨[4], [2], [], []⟩ (.sq .lf (.lp ⟨[1, 4, 11, 12], [2], [.s 13], [.v (.int .i64) []]⟩ .lf)) .lf)))
theorem x_region_Find (N : Nat) : execF E [⟨170, ps_region_Default, rs_region_Default, region_Default N⟩] N Tryz.f122 a_region_Find ps_region_Find rs_region_Find = region_Find N := by kernel_rfl
def a_event_spans : Ann := .lf
theorem x_event_spans (N : Nat) : execF E [] N Tryz.f123 a_event_spans ps_event_spans rs_event_spans = event_spans N := by kernel_rfl
def a_event_kinds : Ann := .lf
theorem x_event_kinds (N : Nat) : execF E [] N Tryz.f171 a_event_kinds ps_event_kinds rs_event_kinds = event_kinds N := by kernel_rfl
def a_event_KindName : Ann := .lf
theorem x_event_KindName (N : Nat) : execF E [⟨171, ps_event_kinds, rs_event_kinds, event_kinds N⟩] N Tryz.f124 a_event_KindName ps_event_KindName rs_event_KindName = event_KindName N := by kernel_rfl
def a_style_Valid : Ann := .lf
theorem x_style_Valid (N : Nat) : execF E [] N Tryz.f90 a_style_Valid ps_style_Valid rs_style_Valid = style_Valid N := by kernel_rfl
def a_style_alike : Ann := .lf
theorem x_style_alike (N : Nat) : execF E [] N Tryz.f91 a_style_alike ps_style_alike rs_style_alike = style_alike N := by kernel_rfl
def a_style_Check : Ann := (.sq .lf (.sq .lf (.jn ⟨[], [], [], []⟩ (.sq .lf (.lp ⟨[1, 10, 11], [2], [.s 12], [.v (.int .i64) []]⟩ .lf)) .lf)))
theorem x_style_Check (N : Nat) : execF E [⟨89, ps_charset_Valid, rs_charset_Valid, charset_Valid N⟩, ⟨90, ps_style_Valid, rs_style_Valid, style_Valid N⟩, ⟨91, ps_style_alike, rs_style_alike, style_alike N⟩] N Tryz.f46 a_style_Check ps_style_Check rs_style_Check = style_Check N := by kernel_rfl

def a_strings_Builder_WriteString : Ann := .lf
theorem x_strings_Builder_WriteString (N : Nat) : execF E [⟨93, ps_strings_Builder_copyCheck, rs_strings_Builder_copyCheck, strings_Builder_copyCheck N⟩] N Tryz.f49 a_strings_Builder_WriteString ps_strings_Builder_WriteString rs_strings_Builder_WriteString = strings_Builder_WriteString N := by kernel_rfl
def a_style_Plain : Ann := (.sq .lf (.sq .lf (.jn ⟨[3], [], [.o 5], [.b 84 (.st (.pair (.nptr) (.slice (.u8)))) [1]]⟩ (.sq .lf (.lp ⟨[3, 7, 8], [], [.s 9, .o 5], [.v (.int .i64) [], .b 84 (.st (.pair (.nptr) (.slice (.u8)))) [1]]⟩ .lf)) .lf)))
theorem x_style_Plain (N : Nat) : execF E [⟨49, ps_strings_Builder_WriteString, rs_strings_Builder_WriteString, strings_Builder_WriteString N⟩] N Tryz.f40 a_style_Plain ps_style_Plain rs_style_Plain = style_Plain N := by kernel_rfl

def a_stringslite_IndexByte : Ann := .lf
theorem x_stringslite_IndexByte (N : Nat) : execF E [⟨178, ps_bytealg_IndexByteString, rs_bytealg_IndexByteString, bytealg_IndexByteString N⟩] N Tryz.f134 a_stringslite_IndexByte ps_stringslite_IndexByte rs_stringslite_IndexByte = stringslite_IndexByte N := by kernel_rfl
def a_bytealg_Cutover : Ann := .lf
theorem x_bytealg_Cutover (N : Nat) : execF E [] N Tryz.f136 a_bytealg_Cutover ps_bytealg_Cutover rs_bytealg_Cutover = bytealg_Cutover N := by kernel_rfl
def a_bytealg_hashStr_string : Ann := (.sq .lf (.sq .lf (.jn ⟨[0], [], [.s 4], [.v (.int .u32) []]⟩ (.sq .lf (.lp ⟨[0], [], [.s 4, .s 5], [.v (.int .u32) [], .v (.int .i64) []]⟩ .lf)) (.sq .lf (.jn ⟨[4], [], [.s 6], [.v (.int .u32) []]⟩ (.sq .lf (.lp ⟨[4], [], [.s 6, .s 7, .s 8], [.v (.int .u32) [], .v (.int .u32) [], .v (.int .i64) []]⟩ .lf)) .lf)))))
theorem x_bytealg_hashStr_string (N : Nat) : execF E [] N Tryz.f179 a_bytealg_hashStr_string ps_bytealg_hashStr_string rs_bytealg_hashStr_string = bytealg_hashStr_string N := by kernel_rfl
def a_bytealg_IndexRabinKarp_string : Ann := (.sq .lf (.sq .lf (.sq .lf (.sq .lf (.jn ⟨[0, 1, 5, 6, 7], [], [.s 8], [.v (.int .u32) []]⟩ (.sq .lf (.lp ⟨[0, 1, 5, 6, 7], [], [.s 8, .s 9], [.v (.int .u32) [], .v (.int .i64) []]⟩ .lf)) (.jn ⟨[0, 1, 5, 6, 7, 8], [], [], []⟩ .lf (.jn ⟨[], [], [], []⟩ (.sq .lf (.lp ⟨[0, 1, 5, 6, 7], [], [.s 8, .s 10], [.v (.int .u32) [], .v (.int .i64) []]⟩ .lf)) .lf)))))))
theorem x_bytealg_IndexRabinKarp_string (N : Nat) : execF E [⟨179, ps_bytealg_hashStr_string, rs_bytealg_hashStr_string, bytealg_hashStr_string N⟩] N Tryz.f137 a_bytealg_IndexRabinKarp_string ps_bytealg_IndexRabinKarp_string rs_bytealg_IndexRabinKarp_string = bytealg_IndexRabinKarp_string N := by kernel_rfl
def a_stringslite_Index : Ann := .lf
theorem x_stringslite_Index (N : Nat) : execF E [⟨134, ps_stringslite_IndexByte, rs_stringslite_IndexByte, stringslite_IndexByte N⟩, ⟨136, ps_bytealg_Cutover, rs_bytealg_Cutover, bytealg_Cutover N⟩, ⟨137, ps_bytealg_IndexRabinKarp_string, rs_bytealg_IndexRabinKarp_string, bytealg_IndexRabinKarp_string N⟩] N Tryz.f84 a_stringslite_Index ps_stringslite_Index rs_stringslite_Index = stringslite_Index N := by kernel_rfl
def a_strings_Index : Ann := .lf
theorem x_strings_Index (N : Nat) : execF E [⟨84, ps_stringslite_Index, rs_stringslite_Index, stringslite_Index N⟩] N Tryz.f38 a_strings_Index ps_strings_Index rs_strings_Index = strings_Index N := by kernel_rfl

def a_utf8_RuneCountInString : Ann := (.sq .lf (.jn ⟨[], [], [.s 2], [.v (.int .i64) []]⟩ (.sq .lf (.lp ⟨[4], [], [.s 2, .o 4], [.v (.int .i64) [], .i]⟩ .lf)) .lf))
theorem x_utf8_RuneCountInString (N : Nat) : execF E [] N Tryz.f138 a_utf8_RuneCountInString ps_utf8_RuneCountInString rs_utf8_RuneCountInString = utf8_RuneCountInString N := by kernel_rfl
def a_charset_Len : Ann := .lf
theorem x_charset_Len (N : Nat) : execF E [⟨89, ps_charset_Valid, rs_charset_Valid, charset_Valid N⟩, ⟨138, ps_utf8_RuneCountInString, rs_utf8_RuneCountInString, utf8_RuneCountInString N⟩] N Tryz.f201 a_charset_Len ps_charset_Len rs_charset_Len = charset_Len N := by kernel_rfl
def a_style_Len : Ann := (.sq .lf (.sq .lf (.jn ⟨[], [], [.s 3], [.v (.int .i64) []]⟩ (.sq .lf (.lp ⟨[8, 9], [], [.s 3, .s 10], [.v (.int .i64) [], .v (.int .i64) []]⟩ .lf)) .lf)))
theorem x_style_Len (N : Nat) : execF E [⟨201, ps_charset_Len, rs_charset_Len, charset_Len N⟩] N Tryz.f173 a_style_Len ps_style_Len rs_style_Len = style_Len N := by kernel_rfl
def a_event_row : Ann := .lf
theorem x_event_row (N : Nat) : execF E [⟨46, ps_style_Check, rs_style_Check, style_Check N⟩, ⟨40, ps_style_Plain, rs_style_Plain, style_Plain N⟩, ⟨172, ps_strings_Contains, rs_strings_Contains, strings_Contains N⟩, ⟨173, ps_style_Len, rs_style_Len, style_Len N⟩] N Tryz.f125 a_event_row ps_event_row rs_event_row = event_row N := by kernel_rfl
def a_event_lens : Ann := (.sq .lf (.sq .lf (.jn ⟨[], [], [.s 3], [.v (.slice (.int .i64)) [0]]⟩ (.sq .lf (.lp ⟨[7, 8], [], [.s 3, .s 9], [.v (.slice (.int .i64)) [0], .v (.int .i64) []]⟩ .lf)) .lf)))
theorem x_event_lens (N : Nat) : execF E [⟨173, ps_style_Len, rs_style_Len, style_Len N⟩] N Tryz.f127 a_event_lens ps_event_lens rs_event_lens = event_lens N := by kernel_rfl
def a_region_usable : Ann := .lf
theorem x_region_usable (N : Nat) : execF E [⟨170, ps_region_Default, rs_region_Default, region_Default N⟩, ⟨121, ps_region_Check, rs_region_Check, region_Check N⟩] N Tryz.f174 a_region_usable ps_region_usable rs_region_usable = region_usable N := by kernel_rfl
def a_region_Place : Ann := (.sq .lf (.sq .lf (.sq .lf (.jn ⟨[1, 2], [2], [.s 6], [.v (.int .i64) []]⟩ .lf (.sq .lf (.jn ⟨[], [], [.s 7], [.v (.slice (.st (.pair (.int .i64) (.pair (.int .i64) (.int .i64))))) [0]]⟩ (.sq .lf (.lp ⟨[2, 6, 32, 33], [2], [.s 7, .s 34], [.v (.slice (.st (.pair (.int .i64) (.pair (.int .i64) (.int .i64))))) [0], .v (.int .i64) []]⟩ .lf)) .lf))))))
theorem x_region_Place (N : Nat) : execF E [⟨174, ps_region_usable, rs_region_usable, region_usable N⟩] N Tryz.f126 a_region_Place ps_region_Place rs_region_Place = region_Place N := by kernel_rfl
def a_event_Check : Ann := (.sq .lf (.sq .lf (.sq (.sq .lf (.sq .lf (.sq .lf (.sq .lf (.sq .lf (.sq .lf (.jn ⟨[2, 5], [12, 2], [.s 42], [.v (.bool) []]⟩ .lf .lf))))))) (.jn ⟨[2, 5], [12, 2], [], []⟩ (.sq .lf (.lp ⟨[2, 5, 64, 65], [12, 2], [.s 66], [.v (.int .i64) []]⟩ .lf)) .lf))))
theorem x_event_Check (N : Nat) : execF E [⟨122, ps_region_Find, rs_region_Find, region_Find N⟩, ⟨123, ps_event_spans, rs_event_spans, event_spans N⟩, ⟨124, ps_event_KindName, rs_event_KindName, event_KindName N⟩, ⟨119, ps_lines_Name, rs_lines_Name, lines_Name N⟩, ⟨125, ps_event_row, rs_event_row, event_row N⟩, ⟨127, ps_event_lens, rs_event_lens, event_lens N⟩, ⟨126, ps_region_Place, rs_region_Place, region_Place N⟩] N Tryz.f78 a_event_Check ps_event_Check rs_event_Check = event_Check N := by kernel_rfl
def a_cmp_isNaN_int64 : Ann := .lf
theorem x_cmp_isNaN_int64 (N : Nat) : execF E [] N Tryz.f158 a_cmp_isNaN_int64 ps_cmp_isNaN_int64 rs_cmp_isNaN_int64 = cmp_isNaN_int64 N := by kernel_rfl
def a_cmp_Compare_int64 : Ann := .lf
theorem x_cmp_Compare_int64 (N : Nat) : execF E [⟨158, ps_cmp_isNaN_int64, rs_cmp_isNaN_int64, cmp_isNaN_int64 N⟩] N Tryz.f112 a_cmp_Compare_int64 ps_cmp_Compare_int64 rs_cmp_Compare_int64 = cmp_Compare_int64 N := by kernel_rfl
def a_cmp_Or_int : Ann := (.sq .lf (.sq .lf (.jn ⟨[3], [], [], []⟩ (.sq .lf (.lp ⟨[3, 6, 7], [], [.s 8], [.v (.int .i64) []]⟩ .lf)) .lf)))
theorem x_cmp_Or_int (N : Nat) : execF E [] N Tryz.f111 a_cmp_Or_int ps_cmp_Or_int rs_cmp_Or_int = cmp_Or_int N := by kernel_rfl
def a_event_Less : Ann := .lf
theorem x_event_Less (N : Nat) : execF E [⟨112, ps_cmp_Compare_int64, rs_cmp_Compare_int64, cmp_Compare_int64 N⟩, ⟨111, ps_cmp_Or_int, rs_cmp_Or_int, cmp_Or_int N⟩] N Tryz.f79 a_event_Less ps_event_Less rs_event_Less = event_Less N := by kernel_rfl
def a_event_Len : Ann := (.sq .lf (.sq .lf (.jn ⟨[], [], [.s 3], [.v (.int .i64) []]⟩ (.sq .lf (.lp ⟨[12, 13], [12], [.s 3, .s 14], [.v (.int .i64) [], .v (.int .i64) []]⟩ .lf)) .lf)))
theorem x_event_Len (N : Nat) : execF E [⟨127, ps_event_lens, rs_event_lens, event_lens N⟩] N Tryz.f175 a_event_Len ps_event_Len rs_event_Len = event_Len N := by kernel_rfl
def a_document_anchored : Ann := .lf
theorem x_document_anchored (N : Nat) : execF E [⟨175, ps_event_Len, rs_event_Len, event_Len N⟩] N Tryz.f128 a_document_anchored ps_document_anchored rs_document_anchored = document_anchored N := by kernel_rfl
def a_document_comments : Ann := (.sq .lf (.sq .lf (.jn ⟨[], [], [.o 1], [.m (.int .i64) (.int .i64)]⟩ (.sq .lf (.lp ⟨[1, 2, 15, 16], [3], [.s 17, .o 1], [.v (.int .i64) [], .m (.int .i64) (.int .i64)]⟩ (.sq .lf (.sq .lf (.sq (.sq .lf (.sq .lf (.jn ⟨[1, 2, 6, 15, 16, 17], [1, 19, 3], [], []⟩ .lf .lf))) .lf))))) .lf)))
theorem x_document_comments (N : Nat) : execF E [⟨128, ps_document_anchored, rs_document_anchored, document_anchored N⟩, ⟨119, ps_lines_Name, rs_lines_Name, lines_Name N⟩, ⟨89, ps_charset_Valid, rs_charset_Valid, charset_Valid N⟩] N Tryz.f80 a_document_comments ps_document_comments rs_document_comments = document_comments N := by kernel_rfl
def a_document_Check : Ann := (.sq .lf (.sq .lf (.sq .lf (.sq .lf (.sq .lf (.jn ⟨[1, 5], [2], [.o 20], [.m (.int .i64) (.int .i64)]⟩ (.sq .lf (.lp ⟨[1, 5, 28, 29], [2], [.s 30, .o 20], [.v (.int .i64) [], .m (.int .i64) (.int .i64)]⟩ .lf)) .lf))))))
theorem x_document_Check (N : Nat) : execF E [⟨76, ps_document_header, rs_document_header, document_header N⟩, ⟨77, ps_region_CheckList, rs_region_CheckList, region_CheckList N⟩, ⟨78, ps_event_Check, rs_event_Check, event_Check N⟩, ⟨79, ps_event_Less, rs_event_Less, event_Less N⟩, ⟨80, ps_document_comments, rs_document_comments, document_comments N⟩] N Tryz.f32 a_document_Check ps_document_Check rs_document_Check = document_Check N := by kernel_rfl
def a_timebase_Ticks : Ann := .lf
theorem x_timebase_Ticks (N : Nat) : execF E [⟨102, ps_timebase_of, rs_timebase_of, timebase_of N⟩] N Tryz.f192 a_timebase_Ticks ps_timebase_Ticks rs_timebase_Ticks = timebase_Ticks N := by kernel_rfl
def a_timebase_Time : Ann := .lf
theorem x_timebase_Time (N : Nat) : execF E [⟨61, ps_timebase_Valid, rs_timebase_Valid, timebase_Valid N⟩, ⟨192, ps_timebase_Ticks, rs_timebase_Ticks, timebase_Ticks N⟩] N Tryz.f187 a_timebase_Time ps_timebase_Time rs_timebase_Time = timebase_Time N := by kernel_rfl
def a_ratio_known : Ann := .lf
theorem x_ratio_known (N : Nat) : execF E [] N Tryz.f206 a_ratio_known ps_ratio_known rs_ratio_known = ratio_known N := by kernel_rfl
def a_ratio_size : Ann := .lf
theorem x_ratio_size (N : Nat) : execF E [] N Tryz.f207 a_ratio_size ps_ratio_size rs_ratio_size = ratio_size N := by kernel_rfl
def a_ratio_away : Ann := .lf
theorem x_ratio_away (N : Nat) : execF E [] N Tryz.f208 a_ratio_away ps_ratio_away rs_ratio_away = ratio_away N := by kernel_rfl
def a_ratio_Quotient : Ann := (.sq .lf (.sq .lf (.sq .lf (.sq .lf (.jn ⟨[8], [], [.s 9], [.v (.int .u64) []]⟩ .lf .lf)))))
theorem x_ratio_Quotient (N : Nat) : execF E [⟨206, ps_ratio_known, rs_ratio_known, ratio_known N⟩, ⟨207, ps_ratio_size, rs_ratio_size, ratio_size N⟩, ⟨208, ps_ratio_away, rs_ratio_away, ratio_away N⟩] N Tryz.f188 a_ratio_Quotient ps_ratio_Quotient rs_ratio_Quotient = ratio_Quotient N := by kernel_rfl
def a_timebase_Millis : Ann := .lf
theorem x_timebase_Millis (N : Nat) : execF E [⟨187, ps_timebase_Time, rs_timebase_Time, timebase_Time N⟩, ⟨188, ps_ratio_Quotient, rs_ratio_Quotient, ratio_Quotient N⟩] N Tryz.f151 a_timebase_Millis ps_timebase_Millis rs_timebase_Millis = timebase_Millis N := by kernel_rfl
def a_istrconv_small : Ann := .lf
theorem x_istrconv_small (N : Nat) : execF E [] N Tryz.f202 a_istrconv_small ps_istrconv_small rs_istrconv_small = istrconv_small N := by kernel_rfl
def a_bits_Len64 : Ann := (.sq .lf (.jn ⟨[], [], [.s 0, .s 2], [.v (.int .u64) [], .v (.int .i64) []]⟩ .lf (.jn ⟨[], [], [.s 0, .s 2], [.v (.int .u64) [], .v (.int .i64) []]⟩ .lf .lf)))
theorem x_bits_Len64 (N : Nat) : execF E [] N Tryz.f212 a_bits_Len64 ps_bits_Len64 rs_bits_Len64 = bits_Len64 N := by kernel_rfl
def a_istrconv_log10Pow2 : Ann := .lf
theorem x_istrconv_log10Pow2 (N : Nat) : execF E [] N Tryz.f211 a_istrconv_log10Pow2 ps_istrconv_log10Pow2 rs_istrconv_log10Pow2 = istrconv_log10Pow2 N := by kernel_rfl
def a_istrconv_bool2_int : Ann := .lf
theorem x_istrconv_bool2_int (N : Nat) : execF E [] N Tryz.f213 a_istrconv_bool2_int ps_istrconv_bool2_int rs_istrconv_bool2_int = istrconv_bool2_int N := by kernel_rfl
def a_istrconv_numDigits : Ann := .lf
theorem x_istrconv_numDigits (N : Nat) : execF E [⟨212, ps_bits_Len64, rs_bits_Len64, bits_Len64 N⟩, ⟨211, ps_istrconv_log10Pow2, rs_istrconv_log10Pow2, istrconv_log10Pow2 N⟩, ⟨213, ps_istrconv_bool2_int, rs_istrconv_bool2_int, istrconv_bool2_int N⟩] N Tryz.f203 a_istrconv_numDigits ps_istrconv_numDigits rs_istrconv_numDigits = istrconv_numDigits N := by kernel_rfl
def a_istrconv_isPowerOfTwo : Ann := .lf
theorem x_istrconv_isPowerOfTwo (N : Nat) : execF E [] N Tryz.f214 a_istrconv_isPowerOfTwo ps_istrconv_isPowerOfTwo rs_istrconv_isPowerOfTwo = istrconv_isPowerOfTwo N := by kernel_rfl
def a_bits_TrailingZeros32 : Ann := .lf
theorem x_bits_TrailingZeros32 (N : Nat) : execF E [] N Tryz.f217 a_bits_TrailingZeros32 ps_bits_TrailingZeros32 rs_bits_TrailingZeros32 = bits_TrailingZeros32 N := by kernel_rfl
def a_bits_TrailingZeros64 : Ann := .lf
theorem x_bits_TrailingZeros64 (N : Nat) : execF E [] N Tryz.f218 a_bits_TrailingZeros64 ps_bits_TrailingZeros64 rs_bits_TrailingZeros64 = bits_TrailingZeros64 N := by kernel_rfl
def a_bits_TrailingZeros : Ann := .lf
theorem x_bits_TrailingZeros (N : Nat) : execF E [⟨217, ps_bits_TrailingZeros32, rs_bits_TrailingZeros32, bits_TrailingZeros32 N⟩, ⟨218, ps_bits_TrailingZeros64, rs_bits_TrailingZeros64, bits_TrailingZeros64 N⟩] N Tryz.f215 a_bits_TrailingZeros ps_bits_TrailingZeros rs_bits_TrailingZeros = bits_TrailingZeros N := by kernel_rfl

def a_strconv_FormatInt : Ann := .lf
theorem x_strconv_FormatInt (N : Nat) : execF E [⟨181, ps_istrconv_FormatInt, rs_istrconv_FormatInt, istrconv_FormatInt N⟩] N Tryz.f142 a_strconv_FormatInt ps_strconv_FormatInt rs_strconv_FormatInt = strconv_FormatInt N := by kernel_rfl
def a_lines_Decimal : Ann := .lf
theorem x_lines_Decimal (N : Nat) : execF E [⟨142, ps_strconv_FormatInt, rs_strconv_FormatInt, strconv_FormatInt N⟩] N Tryz.f88 a_lines_Decimal ps_lines_Decimal rs_lines_Decimal = lines_Decimal N := by kernel_rfl
def a_subrip_digits : Ann := (.sq .lf (.sq .lf (.jn ⟨[], [], [.s 5], [.v (.str) []]⟩ (.lp ⟨[1], [], [.s 5], [.v (.str) []]⟩ .lf) .lf)))
theorem x_subrip_digits (N : Nat) : execF E [⟨88, ps_lines_Decimal, rs_lines_Decimal, lines_Decimal N⟩] N Tryz.f41 a_subrip_digits ps_subrip_digits rs_subrip_digits = subrip_digits N := by kernel_rfl
def a_subrip_Clock : Ann := .lf
theorem x_subrip_Clock (N : Nat) : execF E [⟨41, ps_subrip_digits, rs_subrip_digits, subrip_digits N⟩] N Tryz.f14 a_subrip_Clock ps_subrip_Clock rs_subrip_Clock = subrip_Clock N := by kernel_rfl
def a_strings_IndexByte : Ann := .lf
theorem x_strings_IndexByte (N : Nat) : execF E [⟨134, ps_stringslite_IndexByte, rs_stringslite_IndexByte, stringslite_IndexByte N⟩] N Tryz.f184 a_strings_IndexByte ps_strings_IndexByte rs_strings_IndexByte = strings_IndexByte N := by kernel_rfl
def a_utf8_ValidRune : Ann := .lf
theorem x_utf8_ValidRune (N : Nat) : execF E [] N Tryz.f185 a_utf8_ValidRune ps_utf8_ValidRune rs_utf8_ValidRune = utf8_ValidRune N := by kernel_rfl
def a_strings_IndexRune : Ann := (.sq .lf (.jn ⟨[0, 1], [], [.s 160], [.v (.bool) []]⟩ .lf (.sq .lf (.sq .lf (.sq (.jn ⟨[], [], [], []⟩ (.sq .lf (.lp ⟨[175], [], [.o 8], [.i]⟩ .lf)) .lf) (.sq .lf (.sq .lf (.sq (.sq .lf (.sq .lf (.sq .lf (.sq .lf (.jn ⟨[], [], [], []⟩ (.lp ⟨[0, 1, 7, 8], [], [.s 9, .s 10], [.v (.int .i64) [], .v (.int .i64) []]⟩ (.sq .lf (.sq (.jn ⟨[0, 1, 7, 8, 10], [], [.s 9], [.v (.int .i64) []]⟩ .lf (.jn ⟨[8, 9], [], [], []⟩ (.sq .lf (.lp ⟨[0, 1, 7, 8, 9, 10], [], [.s 12], [.v (.int .i64) []]⟩ .lf)) .lf)) .lf))) .lf))))) .lf))))))))
theorem x_strings_IndexRune (N : Nat) : execF E [⟨184, ps_strings_IndexByte, rs_strings_IndexByte, strings_IndexByte N⟩, ⟨185, ps_utf8_ValidRune, rs_utf8_ValidRune, utf8_ValidRune N⟩, ⟨136, ps_bytealg_Cutover, rs_bytealg_Cutover, bytealg_Cutover N⟩] N Tryz.f145 a_strings_IndexRune ps_strings_IndexRune rs_strings_IndexRune = strings_IndexRune N := by kernel_rfl
def a_strings_shouldUseASCIISet : Ann := .lf
theorem x_strings_shouldUseASCIISet (N : Nat) : execF E [] N Tryz.f146 a_strings_shouldUseASCIISet ps_strings_shouldUseASCIISet rs_strings_shouldUseASCIISet = strings_shouldUseASCIISet N := by kernel_rfl
def a_strings_IndexAny : Ann := (.sq .lf (.sq .lf (.sq .lf (.jn ⟨[0, 1], [], [], []⟩ .lf (.jn ⟨[], [], [], []⟩ (.sq .lf (.lp ⟨[1, 45], [], [.o 10], [.i]⟩ .lf)) .lf)))))
theorem x_strings_IndexAny (N : Nat) : execF E [⟨145, ps_strings_IndexRune, rs_strings_IndexRune, strings_IndexRune N⟩, ⟨146, ps_strings_shouldUseASCIISet, rs_strings_shouldUseASCIISet, strings_shouldUseASCIISet N⟩] N Tryz.f92 a_strings_IndexAny ps_strings_IndexAny rs_strings_IndexAny = strings_IndexAny_s N := by kernel_rfl
def a_strings_ContainsAny : Ann := .lf
theorem x_strings_ContainsAny (N : Nat) : execF E [⟨92, ps_strings_IndexAny, rs_strings_IndexAny, strings_IndexAny N⟩] N Tryz.f47 a_strings_ContainsAny ps_strings_ContainsAny rs_strings_ContainsAny = strings_ContainsAny N := by kernel_rfl
def a_style_norm : Ann := (.sq .lf (.sq .lf (.jn ⟨[2, 3], [2], [.o 4], [.b 31 (.st (.slice (.st (.pair (.str) (.pair (.st (.pair (.u8) (.pair (.bool) (.bool)))) (.str)))))) [0]]⟩ (.sq .lf (.lp ⟨[2, 3, 7, 8], [2], [.s 9, .o 4], [.v (.int .i64) [], .b 31 (.st (.slice (.st (.pair (.str) (.pair (.st (.pair (.u8) (.pair (.bool) (.bool)))) (.str)))))) [0]]⟩ .lf)) .lf)))
theorem x_style_norm (N : Nat) : execF E [⟨91, ps_style_alike, rs_style_alike, style_alike N⟩] N Tryz.f58 a_style_norm ps_style_norm rs_style_norm = style_norm N := by kernel_rfl
def a_style_Norm : Ann := .lf
theorem x_style_Norm (N : Nat) : execF E [⟨58, ps_style_norm, rs_style_norm, style_norm N⟩] N Tryz.f23 a_style_Norm ps_style_Norm rs_style_Norm = style_Norm N := by kernel_rfl
def a_subrip_carried : Ann := (.sq .lf (.sq .lf (.jn ⟨[2, 3], [4], [.o 6], [.b 31 (.st (.slice (.st (.pair (.str) (.pair (.st (.pair (.u8) (.pair (.bool) (.bool)))) (.str)))))) [0]]⟩ (.sq .lf (.lp ⟨[2, 3, 7, 8], [4], [.s 9, .o 6], [.v (.int .i64) [], .b 31 (.st (.slice (.st (.pair (.str) (.pair (.st (.pair (.u8) (.pair (.bool) (.bool)))) (.str)))))) [0]]⟩ .lf)) .lf)))
theorem x_subrip_carried (N : Nat) : execF E [⟨23, ps_style_Norm, rs_style_Norm, style_Norm N⟩] N Tryz.f48 a_subrip_carried ps_subrip_carried rs_subrip_carried = subrip_carried N := by kernel_rfl
def a_subrip_Markup : Ann := (.sq .lf (.sq .lf (.sq .lf (.sq .lf (.jn ⟨[5], [], [.o 14], [.b 84 (.st (.pair (.nptr) (.slice (.u8)))) [1]]⟩ (.sq .lf (.lp ⟨[5, 19, 20], [17], [.s 21, .o 14], [.v (.int .i64) [], .b 84 (.st (.pair (.nptr) (.slice (.u8)))) [1]]⟩ .lf)) .lf)))))
theorem x_subrip_Markup (N : Nat) : execF E [⟨46, ps_style_Check, rs_style_Check, style_Check N⟩, ⟨40, ps_style_Plain, rs_style_Plain, style_Plain N⟩, ⟨47, ps_strings_ContainsAny, rs_strings_ContainsAny, strings_ContainsAny N⟩, ⟨48, ps_subrip_carried, rs_subrip_carried, subrip_carried N⟩, ⟨49, ps_strings_Builder_WriteString, rs_strings_Builder_WriteString, strings_Builder_WriteString N⟩] N Tryz.f18 a_subrip_Markup ps_subrip_Markup rs_subrip_Markup = subrip_Markup N := by kernel_rfl
def a_subrip_block : Ann := (.sq .lf (.sq .lf (.sq .lf (.sq .lf (.sq .lf (.sq .lf (.sq .lf (.sq .lf (.jn ⟨[], [], [.s 15], [.v (.str) []]⟩ (.sq .lf (.lp ⟨[62, 63], [], [.s 15, .s 64], [.v (.str) [], .v (.int .i64) []]⟩ .lf)) .lf)))))))))
theorem x_subrip_block (N : Nat) : execF E [⟨151, ps_timebase_Millis, rs_timebase_Millis, timebase_Millis N⟩, ⟨14, ps_subrip_Clock, rs_subrip_Clock, subrip_Clock N⟩, ⟨88, ps_lines_Decimal, rs_lines_Decimal, lines_Decimal N⟩, ⟨18, ps_subrip_Markup, rs_subrip_Markup, subrip_Markup N⟩] N Tryz.f98 a_subrip_block ps_subrip_block rs_subrip_block = subrip_block N := by kernel_rfl
def a_strings_Builder_Len : Ann := .lf
theorem x_strings_Builder_Len (N : Nat) : execF E [] N Tryz.f99 a_strings_Builder_Len ps_strings_Builder_Len rs_strings_Builder_Len = strings_Builder_Len N := by kernel_rfl
def a_subrip_encode : Ann := (.sq .lf (.sq .lf (.sq .lf (.jn ⟨[6], [], [.o 12], [.b 84 (.st (.pair (.nptr) (.slice (.u8)))) [1]]⟩ (.sq .lf (.lp ⟨[1, 6, 17, 18], [2], [.s 19, .o 12], [.v (.int .i64) [], .b 84 (.st (.pair (.nptr) (.slice (.u8)))) [1]]⟩ .lf)) .lf))))
theorem x_subrip_encode (N : Nat) : execF E [⟨32, ps_document_Check, rs_document_Check, document_Check N⟩, ⟨98, ps_subrip_block, rs_subrip_block, subrip_block N⟩, ⟨49, ps_strings_Builder_WriteString, rs_strings_Builder_WriteString, strings_Builder_WriteString N⟩, ⟨99, ps_strings_Builder_Len, rs_strings_Builder_Len, strings_Builder_Len N⟩] N Tryz.f59 a_subrip_encode ps_subrip_encode rs_subrip_encode = subrip_encode N := by kernel_rfl
def a_subrip_Encode : Ann := .lf
theorem x_subrip_Encode (N : Nat) : execF E [⟨59, ps_subrip_encode, rs_subrip_encode, subrip_encode N⟩] N Tryz.f25 a_subrip_Encode ps_subrip_Encode rs_subrip_Encode = subrip_Encode N := by kernel_rfl
end
end Go.Mo
end

section
/-
  The functions do what their models say. Printed by a program.
-/
namespace Go.Mo
open Go Go.W Go.Proofs
noncomputable section
set_option maxRecDepth 100000
def a_utf8_decodeRuneInStringSlow : Ann := .lf
theorem x_utf8_decodeRuneInStringSlow (N : Nat) : execF E [] N Tryz.f141 a_utf8_decodeRuneInStringSlow ps_utf8_decodeRuneInStringSlow rs_utf8_decodeRuneInStringSlow = utf8_decodeRuneInStringSlow N := by kernel_rfl
def a_utf8_DecodeRuneInString : Ann := .lf
theorem x_utf8_DecodeRuneInString (N : Nat) : execF E [⟨141, ps_utf8_decodeRuneInStringSlow, rs_utf8_decodeRuneInStringSlow, utf8_decodeRuneInStringSlow N⟩] N Tryz.f87 a_utf8_DecodeRuneInString ps_utf8_DecodeRuneInString rs_utf8_DecodeRuneInString = utf8_DecodeRuneInString N := by kernel_rfl
def a_strings_explode : Ann := (.sq .lf (.sq .lf (.jn ⟨[0], [], [.s 1], [.v (.int .i64) []]⟩ .lf (.sq .lf (.jn ⟨[1, 6], [], [.s 0, .o 8], [.v (.str) [], .r 8 (.str)]⟩ (.sq .lf (.lp ⟨[1, 6], [], [.s 0, .s 7, .o 8], [.v (.str) [], .v (.int .i64) [], .r 8 (.str)]⟩ .lf)) .lf)))))
theorem x_strings_explode (N : Nat) : execF E [⟨138, ps_utf8_RuneCountInString, rs_utf8_RuneCountInString, utf8_RuneCountInString N⟩, ⟨87, ps_utf8_DecodeRuneInString, rs_utf8_DecodeRuneInString, utf8_DecodeRuneInString N⟩] N Tryz.f133 a_strings_explode ps_strings_explode rs_strings_explode = strings_explode N := by kernel_rfl

def a_strings_Count : Ann := (.sq .lf (.sq .lf (.sq .lf (.sq .lf (.lp ⟨[1], [], [.s 0, .s 5], [.v (.str) [], .v (.int .i64) []]⟩ .lf)))))
theorem x_strings_Count (N : Nat) : execF E [⟨138, ps_utf8_RuneCountInString, rs_utf8_RuneCountInString, utf8_RuneCountInString N⟩, ⟨139, ps_bytealg_CountString, rs_bytealg_CountString, bytealg_CountString N⟩, ⟨38, ps_strings_Index, rs_strings_Index, strings_Index N⟩] N Tryz.f85 a_strings_Count ps_strings_Count rs_strings_Count = strings_Count N := by kernel_rfl
def a_strings_genSplit : Ann := (.sq .lf (.sq .lf (.sq .lf (.jn ⟨[0, 1, 2], [], [.s 3], [.v (.int .i64) []]⟩ .lf (.sq .lf (.sq .lf (.sq .lf (.sq .lf (.jn ⟨[9], [], [.s 0, .s 10, .o 15], [.v (.str) [], .v (.int .i64) [], .r 15 (.str)]⟩ (.lp ⟨[1, 2, 3, 9], [], [.s 0, .s 10, .o 15], [.v (.str) [], .v (.int .i64) [], .r 15 (.str)]⟩ .lf) .lf)))))))))
theorem x_strings_genSplit (N : Nat) : execF E [⟨133, ps_strings_explode, rs_strings_explode, strings_explode N⟩, ⟨85, ps_strings_Count, rs_strings_Count, strings_Count N⟩, ⟨38, ps_strings_Index, rs_strings_Index, strings_Index N⟩] N Tryz.f83 a_strings_genSplit ps_strings_genSplit rs_strings_genSplit = strings_genSplit N := by kernel_rfl
def a_strings_Split : Ann := .lf
theorem x_strings_Split (N : Nat) : execF E [⟨83, ps_strings_genSplit, rs_strings_genSplit, strings_genSplit N⟩] N Tryz.f37 a_strings_Split ps_strings_Split rs_strings_Split = strings_Split N := by kernel_rfl
def a_stringslite_HasSuffix : Ann := .lf
theorem x_stringslite_HasSuffix (N : Nat) : execF E [] N Tryz.f154 a_stringslite_HasSuffix ps_stringslite_HasSuffix rs_stringslite_HasSuffix = stringslite_HasSuffix N := by kernel_rfl
def a_stringslite_TrimSuffix : Ann := .lf
theorem x_stringslite_TrimSuffix (N : Nat) : execF E [⟨154, ps_stringslite_HasSuffix, rs_stringslite_HasSuffix, stringslite_HasSuffix N⟩] N Tryz.f103 a_stringslite_TrimSuffix ps_stringslite_TrimSuffix rs_stringslite_TrimSuffix = stringslite_TrimSuffix N := by kernel_rfl
def a_strings_TrimSuffix : Ann := .lf
theorem x_strings_TrimSuffix (N : Nat) : execF E [⟨103, ps_stringslite_TrimSuffix, rs_stringslite_TrimSuffix, stringslite_TrimSuffix N⟩] N Tryz.f63 a_strings_TrimSuffix ps_strings_TrimSuffix rs_strings_TrimSuffix = strings_TrimSuffix N := by kernel_rfl
def a_subrip_field : Ann := (.sq .lf (.sq .lf (.jn ⟨[], [], [.s 3], [.v (.int .i64) []]⟩ (.sq .lf (.lp ⟨[0, 6], [], [.s 3, .s 7], [.v (.int .i64) [], .v (.int .i64) []]⟩ .lf)) .lf)))
theorem x_subrip_field (N : Nat) : execF E [] N Tryz.f43 a_subrip_field ps_subrip_field rs_subrip_field = subrip_field N := by kernel_rfl
def a_subrip_number : Ann := .lf
theorem x_subrip_number (N : Nat) : execF E [⟨43, ps_subrip_field, rs_subrip_field, subrip_field N⟩] N Tryz.f104 a_subrip_number ps_subrip_number rs_subrip_number = subrip_number N := by kernel_rfl
def a_subrip_reader_fail : Ann := .lf
theorem x_subrip_reader_fail (N : Nat) : execF E [] N Tryz.f105 a_subrip_reader_fail ps_subrip_reader_fail rs_subrip_reader_fail = subrip_reader_fail N := by kernel_rfl
def a_subrip_ParseClock : Ann := (.sq .lf (.jn ⟨[0], [], [], []⟩ .lf .lf))
theorem x_subrip_ParseClock (N : Nat) : execF E [⟨43, ps_subrip_field, rs_subrip_field, subrip_field N⟩] N Tryz.f16 a_subrip_ParseClock ps_subrip_ParseClock rs_subrip_ParseClock = subrip_ParseClock N := by kernel_rfl
def a_subrip_times : Ann := .lf
theorem x_subrip_times (N : Nat) : execF E [⟨16, ps_subrip_ParseClock, rs_subrip_ParseClock, subrip_ParseClock N⟩] N Tryz.f106 a_subrip_times ps_subrip_times rs_subrip_times = subrip_times N := by kernel_rfl
def a_timebase_Frame : Ann := .lf
theorem x_timebase_Frame (N : Nat) : execF E [⟨61, ps_timebase_Valid, rs_timebase_Valid, timebase_Valid N⟩, ⟨192, ps_timebase_Ticks, rs_timebase_Ticks, timebase_Ticks N⟩, ⟨188, ps_ratio_Quotient, rs_ratio_Quotient, ratio_Quotient N⟩] N Tryz.f155 a_timebase_Frame ps_timebase_Frame rs_timebase_Frame = timebase_Frame N := by kernel_rfl
def a_timebase_FromMillis : Ann := .lf
theorem x_timebase_FromMillis (N : Nat) : execF E [⟨61, ps_timebase_Valid, rs_timebase_Valid, timebase_Valid N⟩, ⟨155, ps_timebase_Frame, rs_timebase_Frame, timebase_Frame N⟩] N Tryz.f107 a_timebase_FromMillis ps_timebase_FromMillis rs_timebase_FromMillis = timebase_FromMillis N := by kernel_rfl
def a_subrip_ParseMarkup_1 : Ann := .lf
theorem x_subrip_ParseMarkup_1 (N : Nat) : execF E [] N Tryz.f54 a_subrip_ParseMarkup_1 ps_subrip_ParseMarkup_1 rs_subrip_ParseMarkup_1 = subrip_ParseMarkup_1 N := by kernel_rfl
def a_stringslite_HasPrefix : Ann := .lf
theorem x_stringslite_HasPrefix (N : Nat) : execF E [] N Tryz.f96 a_stringslite_HasPrefix ps_stringslite_HasPrefix rs_stringslite_HasPrefix = stringslite_HasPrefix N := by kernel_rfl
def a_strings_HasPrefix : Ann := .lf
theorem x_strings_HasPrefix (N : Nat) : execF E [⟨96, ps_stringslite_HasPrefix, rs_stringslite_HasPrefix, stringslite_HasPrefix N⟩] N Tryz.f55 a_strings_HasPrefix ps_strings_HasPrefix rs_strings_HasPrefix = strings_HasPrefix N := by kernel_rfl
def a_subrip_ParseMarkup : Ann := (.sq .lf (.sq .lf (.sq .lf (.sq .lf (.sq .lf (.jn ⟨[2, 3, 4, 6], [2], [.o 4, .o 8, .o 6], [.b 31 (.st (.slice (.st (.pair (.str) (.pair (.st (.pair (.u8) (.pair (.bool) (.bool)))) (.str)))))) [0], .b 9 (.str) [], .b 38 (.st (.pair (.u8) (.pair (.bool) (.bool)))) []]⟩ (.lp ⟨[2, 3, 4, 5, 6], [2], [.s 0, .o 4, .o 8, .o 6], [.v (.str) [], .b 31 (.st (.slice (.st (.pair (.str) (.pair (.st (.pair (.u8) (.pair (.bool) (.bool)))) (.str)))))) [0], .b 9 (.str) [], .b 38 (.st (.pair (.u8) (.pair (.bool) (.bool)))) []]⟩ (.sq .lf (.sq .lf (.sq .lf (.jn ⟨[0, 2, 3, 4, 5, 6, 7], [18, 4, 8, 6, 13, 2], [.s 8], [.v (.str) []]⟩ (.sq .lf (.lp ⟨[0, 2, 3, 4, 5, 6, 7, 15, 16], [22, 18, 4, 8, 6, 13, 2], [.s 8, .s 17], [.v (.str) [], .v (.int .i64) []]⟩ .lf)) (.jn ⟨[0, 2, 3, 4, 5, 6, 7, 8], [4, 8, 6, 13, 2], [.o 18], [.b 38 (.st (.pair (.u8) (.pair (.bool) (.bool)))) []]⟩ (.sq .lf (.sq .lf (.sq .lf (.jn ⟨[0, 2, 3, 4, 5, 6, 7, 8, 26], [18, 4, 8, 6, 13, 2], [.s 35], [.v (.bool) []]⟩ .lf .lf)))) .lf)))))) .lf))))))
theorem x_subrip_ParseMarkup (N : Nat) : execF E [⟨54, ps_subrip_ParseMarkup_1, rs_subrip_ParseMarkup_1, subrip_ParseMarkup_1 N⟩, ⟨55, ps_strings_HasPrefix, rs_strings_HasPrefix, strings_HasPrefix N⟩, ⟨23, ps_style_Norm, rs_style_Norm, style_Norm N⟩] N Tryz.f21 a_subrip_ParseMarkup ps_subrip_ParseMarkup rs_subrip_ParseMarkup = subrip_ParseMarkup N := by kernel_rfl
def a_subrip_reader_block : Ann := (.jn ⟨[0], [5, 1, 2, 3, 4], [.s 1, .s 2], [.v (.slice (.str)) [], .v (.int .i64) []]⟩ .lf (.sq .lf (.sq .lf (.sq .lf (.sq .lf (.sq .lf (.sq .lf (.sq .lf (.jn ⟨[0, 2, 9], [5, 1, 2, 3, 4], [.o 36], [.b 74 (.st (.pair (.int .i64) (.pair (.st (.pair (.int .i64) (.int .i64))) (.pair (.str) (.pair (.u8) (.pair (.str) (.slice (.st (.slice (.st (.pair (.str) (.pair (.st (.pair (.u8) (.pair (.bool) (.bool)))) (.str))))))))))))) [6]]⟩ (.sq .lf (.lp ⟨[0, 2, 9, 93, 94], [5, 1, 2, 3, 4], [.s 95, .o 36], [.v (.int .i64) [], .b 74 (.st (.pair (.int .i64) (.pair (.st (.pair (.int .i64) (.int .i64))) (.pair (.str) (.pair (.u8) (.pair (.str) (.slice (.st (.slice (.st (.pair (.str) (.pair (.st (.pair (.u8) (.pair (.bool) (.bool)))) (.str))))))))))))) [6]]⟩ .lf)) .lf)))))))))
theorem x_subrip_reader_block (N : Nat) : execF E [⟨104, ps_subrip_number, rs_subrip_number, subrip_number N⟩, ⟨105, ps_subrip_reader_fail, rs_subrip_reader_fail, subrip_reader_fail N⟩, ⟨106, ps_subrip_times, rs_subrip_times, subrip_times N⟩, ⟨107, ps_timebase_FromMillis, rs_timebase_FromMillis, timebase_FromMillis N⟩, ⟨21, ps_subrip_ParseMarkup, rs_subrip_ParseMarkup, subrip_ParseMarkup N⟩, ⟨78, ps_event_Check, rs_event_Check, event_Check N⟩] N Tryz.f64 a_subrip_reader_block ps_subrip_reader_block rs_subrip_reader_block = subrip_reader_block N := by kernel_rfl
def a_slices_Clone_Lapi_Row_api_Row : Ann := .lf
theorem x_slices_Clone_Lapi_Row_api_Row (N : Nat) : execF E [] N Tryz.f193 a_slices_Clone_Lapi_Row_api_Row ps_slices_Clone_Lapi_Row_api_Row rs_slices_Clone_Lapi_Row_api_Row = slices_Clone_Lapi_Row_api_Row N := by kernel_rfl
def a_slices_Clone_Lapi_Run_api_Run : Ann := .lf
theorem x_slices_Clone_Lapi_Run_api_Run (N : Nat) : execF E [] N Tryz.f194 a_slices_Clone_Lapi_Run_api_Run ps_slices_Clone_Lapi_Run_api_Run rs_slices_Clone_Lapi_Run_api_Run = slices_Clone_Lapi_Run_api_Run N := by kernel_rfl
def a_style_Clone : Ann := (.sq .lf (.sq .lf (.jn ⟨[3], [], [.o 4], [.r 4 (.st (.slice (.st (.pair (.str) (.pair (.st (.pair (.u8) (.pair (.bool) (.bool)))) (.str))))))]⟩ (.sq .lf (.lp ⟨[3, 8], [], [.s 9, .o 4], [.v (.int .i64) [], .r 4 (.st (.slice (.st (.pair (.str) (.pair (.st (.pair (.u8) (.pair (.bool) (.bool)))) (.str))))))]⟩ .lf)) .lf)))
theorem x_style_Clone (N : Nat) : execF E [⟨193, ps_slices_Clone_Lapi_Row_api_Row, rs_slices_Clone_Lapi_Row_api_Row, slices_Clone_Lapi_Row_api_Row N⟩, ⟨194, ps_slices_Clone_Lapi_Run_api_Run, rs_slices_Clone_Lapi_Run_api_Run, slices_Clone_Lapi_Run_api_Run N⟩] N Tryz.f156 a_style_Clone ps_style_Clone rs_style_Clone = style_Clone N := by kernel_rfl
def a_event_Clone : Ann := .lf
theorem x_event_Clone (N : Nat) : execF E [⟨156, ps_style_Clone, rs_style_Clone, style_Clone N⟩] N Tryz.f108 a_event_Clone ps_event_Clone rs_event_Clone = event_Clone N := by kernel_rfl
def a_document_Sort_1 : Ann := .lf
theorem x_document_Sort_1 (N : Nat) : execF E [⟨112, ps_cmp_Compare_int64, rs_cmp_Compare_int64, cmp_Compare_int64 N⟩, ⟨111, ps_cmp_Or_int, rs_cmp_Or_int, cmp_Or_int N⟩] N Tryz.f110 a_document_Sort_1 ps_document_Sort_1 rs_document_Sort_1 = document_Sort_1 N := by kernel_rfl
def a_slices_insertionSortCmpFunc_api_Event : Ann := (.sq .lf (.lp ⟨[0, 1, 2, 3], [], [.s 8, .o 1], [.v (.int .i64) [], .r 4 (.st (.pair (.int .i64) (.pair (.st (.pair (.int .i64) (.int .i64))) (.pair (.str) (.pair (.u8) (.pair (.str) (.slice (.st (.slice (.st (.pair (.str) (.pair (.st (.pair (.u8) (.pair (.bool) (.bool)))) (.str)))))))))))))]⟩ (.sq .lf (.jn ⟨[0, 1, 2, 3, 8], [], [.o 1], [.r 4 (.st (.pair (.int .i64) (.pair (.st (.pair (.int .i64) (.int .i64))) (.pair (.str) (.pair (.u8) (.pair (.str) (.slice (.st (.slice (.st (.pair (.str) (.pair (.st (.pair (.u8) (.pair (.bool) (.bool)))) (.str)))))))))))))]⟩ (.sq .lf (.lp ⟨[0, 1, 2, 3, 8], [], [.s 9, .o 1], [.v (.int .i64) [], .r 4 (.st (.pair (.int .i64) (.pair (.st (.pair (.int .i64) (.int .i64))) (.pair (.str) (.pair (.u8) (.pair (.str) (.slice (.st (.slice (.st (.pair (.str) (.pair (.st (.pair (.u8) (.pair (.bool) (.bool)))) (.str)))))))))))))]⟩ .lf)) .lf))))
theorem x_slices_insertionSortCmpFunc_api_Event (N : Nat) : execF E [⟨110, ps_document_Sort_1, rs_document_Sort_1, document_Sort_1 N⟩] N Tryz.f195 a_slices_insertionSortCmpFunc_api_Event ps_slices_insertionSortCmpFunc_api_Event rs_slices_insertionSortCmpFunc_api_Event = slices_insertionSortCmpFunc_api_Event N := by kernel_rfl
def a_slices_swapRangeCmpFunc_api_Event : Ann := (.sq .lf (.lp ⟨[0, 1, 2, 3], [], [.s 10, .o 1], [.v (.int .i64) [], .r 4 (.st (.pair (.int .i64) (.pair (.st (.pair (.int .i64) (.int .i64))) (.pair (.str) (.pair (.u8) (.pair (.str) (.slice (.st (.slice (.st (.pair (.str) (.pair (.st (.pair (.u8) (.pair (.bool) (.bool)))) (.str)))))))))))))]⟩ .lf))
theorem x_slices_swapRangeCmpFunc_api_Event (N : Nat) : execF E [⟨110, ps_document_Sort_1, rs_document_Sort_1, document_Sort_1 N⟩] N Tryz.f216 a_slices_swapRangeCmpFunc_api_Event ps_slices_swapRangeCmpFunc_api_Event rs_slices_swapRangeCmpFunc_api_Event = slices_swapRangeCmpFunc_api_Event N := by kernel_rfl
def a_slices_rotateCmpFunc_api_Event : Ann := (.sq .lf (.sq .lf (.jn ⟨[0, 2, 4], [], [.s 10, .o 1], [.v (.int .i64) [], .r 4 (.st (.pair (.int .i64) (.pair (.st (.pair (.int .i64) (.int .i64))) (.pair (.str) (.pair (.u8) (.pair (.str) (.slice (.st (.slice (.st (.pair (.str) (.pair (.st (.pair (.u8) (.pair (.bool) (.bool)))) (.str)))))))))))))]⟩ (.lp ⟨[0, 2, 4], [], [.s 10, .s 11, .o 1], [.v (.int .i64) [], .v (.int .i64) [], .r 4 (.st (.pair (.int .i64) (.pair (.st (.pair (.int .i64) (.int .i64))) (.pair (.str) (.pair (.u8) (.pair (.str) (.slice (.st (.slice (.st (.pair (.str) (.pair (.st (.pair (.u8) (.pair (.bool) (.bool)))) (.str)))))))))))))]⟩ .lf) .lf)))
theorem x_slices_rotateCmpFunc_api_Event (N : Nat) : execF E [⟨110, ps_document_Sort_1, rs_document_Sort_1, document_Sort_1 N⟩, ⟨216, ps_slices_swapRangeCmpFunc_api_Event, rs_slices_swapRangeCmpFunc_api_Event, slices_swapRangeCmpFunc_api_Event N⟩] N Tryz.f209 a_slices_rotateCmpFunc_api_Event ps_slices_rotateCmpFunc_api_Event rs_slices_rotateCmpFunc_api_Event = slices_rotateCmpFunc_api_Event N := by kernel_rfl
def a_slices_symMergeCmpFunc_api_Event : Ann := (.jn ⟨[0, 1, 2, 3, 4], [1], [], []⟩ (.sq .lf (.sq (.sq .lf (.sq .lf (.jn ⟨[0, 1], [1], [.s 10], [.v (.int .i64) []]⟩ (.lp ⟨[0, 1, 4], [1], [.s 10, .s 11], [.v (.int .i64) [], .v (.int .i64) []]⟩ .lf) (.jn ⟨[], [], [.o 1], [.r 4 (.st (.pair (.int .i64) (.pair (.st (.pair (.int .i64) (.int .i64))) (.pair (.str) (.pair (.u8) (.pair (.str) (.slice (.st (.slice (.st (.pair (.str) (.pair (.st (.pair (.u8) (.pair (.bool) (.bool)))) (.str)))))))))))))]⟩ (.sq .lf (.lp ⟨[0, 10], [], [.s 13, .o 1], [.v (.int .i64) [], .r 4 (.st (.pair (.int .i64) (.pair (.st (.pair (.int .i64) (.int .i64))) (.pair (.str) (.pair (.u8) (.pair (.str) (.slice (.st (.slice (.st (.pair (.str) (.pair (.st (.pair (.u8) (.pair (.bool) (.bool)))) (.str)))))))))))))]⟩ .lf)) .lf)))) .lf)) (.jn ⟨[0, 1, 2, 3, 4], [1], [], []⟩ (.sq .lf (.sq (.sq .lf (.sq .lf (.jn ⟨[0, 2], [1], [.s 14], [.v (.int .i64) []]⟩ (.lp ⟨[0, 2, 4], [1], [.s 14, .s 15], [.v (.int .i64) [], .v (.int .i64) []]⟩ .lf) (.jn ⟨[], [], [.o 1], [.r 4 (.st (.pair (.int .i64) (.pair (.st (.pair (.int .i64) (.int .i64))) (.pair (.str) (.pair (.u8) (.pair (.str) (.slice (.st (.slice (.st (.pair (.str) (.pair (.st (.pair (.u8) (.pair (.bool) (.bool)))) (.str)))))))))))))]⟩ (.sq .lf (.lp ⟨[0, 14], [], [.s 17, .o 1], [.v (.int .i64) [], .r 4 (.st (.pair (.int .i64) (.pair (.st (.pair (.int .i64) (.int .i64))) (.pair (.str) (.pair (.u8) (.pair (.str) (.slice (.st (.slice (.st (.pair (.str) (.pair (.st (.pair (.u8) (.pair (.bool) (.bool)))) (.str)))))))))))))]⟩ .lf)) .lf)))) .lf)) (.sq .lf (.sq .lf (.sq .lf (.jn ⟨[0, 1, 2, 3, 4, 18, 19], [1], [.s 20, .s 21], [.v (.int .i64) [], .v (.int .i64) []]⟩ .lf (.sq .lf (.jn ⟨[0, 1, 2, 3, 4, 18, 19], [1], [.s 20], [.v (.int .i64) []]⟩ (.lp ⟨[0, 1, 2, 3, 4, 18, 19, 22], [1], [.s 20, .s 21], [.v (.int .i64) [], .v (.int .i64) []]⟩ .lf) (.sq .lf (.jn ⟨[0, 1, 3, 4, 18, 20, 24], [], [.o 1], [.r 4 (.st (.pair (.int .i64) (.pair (.st (.pair (.int .i64) (.int .i64))) (.pair (.str) (.pair (.u8) (.pair (.str) (.slice (.st (.slice (.st (.pair (.str) (.pair (.st (.pair (.u8) (.pair (.bool) (.bool)))) (.str)))))))))))))]⟩ .lf (.jn ⟨[0, 3, 4, 18, 24], [], [.o 1], [.r 4 (.st (.pair (.int .i64) (.pair (.st (.pair (.int .i64) (.int .i64))) (.pair (.str) (.pair (.u8) (.pair (.str) (.slice (.st (.slice (.st (.pair (.str) (.pair (.st (.pair (.u8) (.pair (.bool) (.bool)))) (.str)))))))))))))]⟩ .lf .lf)))))))))))
theorem x_slices_symMergeCmpFunc_api_Event (N D : Nat) : execF E [⟨110, ps_document_Sort_1, rs_document_Sort_1, document_Sort_1 N⟩, ⟨209, ps_slices_rotateCmpFunc_api_Event, rs_slices_rotateCmpFunc_api_Event, slices_rotateCmpFunc_api_Event N⟩, ⟨196, ps_slices_symMergeCmpFunc_api_Event, rs_slices_symMergeCmpFunc_api_Event, slices_symMergeCmpFunc_api_Event_r N D⟩] N Tryz.f196 a_slices_symMergeCmpFunc_api_Event ps_slices_symMergeCmpFunc_api_Event rs_slices_symMergeCmpFunc_api_Event = slices_symMergeCmpFunc_api_Event_r N (D + 1) := by kernel_rfl
def a_slices_stableCmpFunc_api_Event : Ann := (.sq .lf (.sq .lf (.jn ⟨[0, 1, 2, 6], [], [.s 7, .o 1], [.v (.int .i64) [], .r 4 (.st (.pair (.int .i64) (.pair (.st (.pair (.int .i64) (.int .i64))) (.pair (.str) (.pair (.u8) (.pair (.str) (.slice (.st (.slice (.st (.pair (.str) (.pair (.st (.pair (.u8) (.pair (.bool) (.bool)))) (.str)))))))))))))]⟩ (.lp ⟨[0, 1, 2, 6], [], [.s 7, .s 8, .o 1], [.v (.int .i64) [], .v (.int .i64) [], .r 4 (.st (.pair (.int .i64) (.pair (.st (.pair (.int .i64) (.int .i64))) (.pair (.str) (.pair (.u8) (.pair (.str) (.slice (.st (.slice (.st (.pair (.str) (.pair (.st (.pair (.u8) (.pair (.bool) (.bool)))) (.str)))))))))))))]⟩ .lf) (.sq .lf (.lp ⟨[0, 1, 2], [], [.s 6, .o 1], [.v (.int .i64) [], .r 4 (.st (.pair (.int .i64) (.pair (.st (.pair (.int .i64) (.int .i64))) (.pair (.str) (.pair (.u8) (.pair (.str) (.slice (.st (.slice (.st (.pair (.str) (.pair (.st (.pair (.u8) (.pair (.bool) (.bool)))) (.str)))))))))))))]⟩ (.sq .lf (.sq .lf (.jn ⟨[0, 1, 2, 6], [], [.s 7, .o 1], [.v (.int .i64) [], .r 4 (.st (.pair (.int .i64) (.pair (.st (.pair (.int .i64) (.int .i64))) (.pair (.str) (.pair (.u8) (.pair (.str) (.slice (.st (.slice (.st (.pair (.str) (.pair (.st (.pair (.u8) (.pair (.bool) (.bool)))) (.str)))))))))))))]⟩ (.lp ⟨[0, 1, 2, 6], [], [.s 7, .s 8, .o 1], [.v (.int .i64) [], .v (.int .i64) [], .r 4 (.st (.pair (.int .i64) (.pair (.st (.pair (.int .i64) (.int .i64))) (.pair (.str) (.pair (.u8) (.pair (.str) (.slice (.st (.slice (.st (.pair (.str) (.pair (.st (.pair (.u8) (.pair (.bool) (.bool)))) (.str)))))))))))))]⟩ .lf) .lf))))))))
theorem x_slices_stableCmpFunc_api_Event (N : Nat) : execF E [⟨110, ps_document_Sort_1, rs_document_Sort_1, document_Sort_1 N⟩, ⟨195, ps_slices_insertionSortCmpFunc_api_Event, rs_slices_insertionSortCmpFunc_api_Event, slices_insertionSortCmpFunc_api_Event N⟩, ⟨196, ps_slices_symMergeCmpFunc_api_Event, rs_slices_symMergeCmpFunc_api_Event, slices_symMergeCmpFunc_api_Event N⟩] N Tryz.f157 a_slices_stableCmpFunc_api_Event ps_slices_stableCmpFunc_api_Event rs_slices_stableCmpFunc_api_Event = slices_stableCmpFunc_api_Event N := by kernel_rfl
def a_slices_SortStableFunc_Lapi_Event_api_Event : Ann := .lf
theorem x_slices_SortStableFunc_Lapi_Event_api_Event (N : Nat) : execF E [⟨110, ps_document_Sort_1, rs_document_Sort_1, document_Sort_1 N⟩, ⟨157, ps_slices_stableCmpFunc_api_Event, rs_slices_stableCmpFunc_api_Event, slices_stableCmpFunc_api_Event N⟩] N Tryz.f109 a_slices_SortStableFunc_Lapi_Event_api_Event ps_slices_SortStableFunc_Lapi_Event_api_Event rs_slices_SortStableFunc_Lapi_Event_api_Event = slices_SortStableFunc_Lapi_Event_api_Event N := by kernel_rfl
def a_document_Sort : Ann := (.sq .lf (.sq .lf (.jn ⟨[], [], [.s 3], [.v (.slice (.st (.pair (.int .i64) (.pair (.st (.pair (.int .i64) (.int .i64))) (.pair (.str) (.pair (.u8) (.pair (.str) (.slice (.st (.slice (.st (.pair (.str) (.pair (.st (.pair (.u8) (.pair (.bool) (.bool)))) (.str)))))))))))))) [0]]⟩ (.sq .lf (.lp ⟨[6, 7], [], [.s 3, .s 8], [.v (.slice (.st (.pair (.int .i64) (.pair (.st (.pair (.int .i64) (.int .i64))) (.pair (.str) (.pair (.u8) (.pair (.str) (.slice (.st (.slice (.st (.pair (.str) (.pair (.st (.pair (.u8) (.pair (.bool) (.bool)))) (.str)))))))))))))) [0], .v (.int .i64) []]⟩ .lf)) .lf)))
theorem x_document_Sort (N : Nat) : execF E [⟨108, ps_event_Clone, rs_event_Clone, event_Clone N⟩, ⟨109, ps_slices_SortStableFunc_Lapi_Event_api_Event, rs_slices_SortStableFunc_Lapi_Event_api_Event, slices_SortStableFunc_Lapi_Event_api_Event N⟩, ⟨110, ps_document_Sort_1, rs_document_Sort_1, document_Sort_1 N⟩] N Tryz.f65 a_document_Sort ps_document_Sort rs_document_Sort = document_Sort N := by kernel_rfl
def a_subrip_Decode : Ann := (.sq .lf (.jn ⟨[0, 1, 2, 6], [2], [], []⟩ .lf (.sq .lf (.sq .lf (.sq .lf (.jn ⟨[6, 8], [2], [.o 11], [.b 98 (.st (.pair (.u8) (.pair (.st (.pair (.str) (.pair (.str) (.pair (.u8) (.pair (.bool) (.pair (.int .i64) (.pair (.slice (.st (.pair (.str) (.pair (.int .i64) (.pair (.int .i64) (.pair (.int .i64) (.pair (.int .i64) (.pair (.u8) (.bool))))))))) (.pair (.slice (.st (.pair (.int .i64) (.pair (.st (.pair (.int .i64) (.int .i64))) (.pair (.str) (.pair (.u8) (.pair (.str) (.slice (.st (.slice (.st (.pair (.str) (.pair (.st (.pair (.u8) (.pair (.bool) (.bool)))) (.str)))))))))))))) (.slice (.st (.pair (.int .i64) (.pair (.int .i64) (.pair (.int .i64) (.pair (.int .i64) (.pair (.str) (.pair (.str) (.pair (.bool) (.bool)))))))))))))))))) (.slice (.st (.pair (.int .i64) (.pair (.int .i64) (.int .i64)))))))) [6, 7, 8, 9]]⟩ (.sq .lf (.lp ⟨[6, 8, 45, 46], [16, 2], [.s 9, .s 47, .o 11], [.v (.slice (.str)) [0], .v (.int .i64) [], .b 98 (.st (.pair (.u8) (.pair (.st (.pair (.str) (.pair (.str) (.pair (.u8) (.pair (.bool) (.pair (.int .i64) (.pair (.slice (.st (.pair (.str) (.pair (.int .i64) (.pair (.int .i64) (.pair (.int .i64) (.pair (.int .i64) (.pair (.u8) (.bool))))))))) (.pair (.slice (.st (.pair (.int .i64) (.pair (.st (.pair (.int .i64) (.int .i64))) (.pair (.str) (.pair (.u8) (.pair (.str) (.slice (.st (.slice (.st (.pair (.str) (.pair (.st (.pair (.u8) (.pair (.bool) (.bool)))) (.str)))))))))))))) (.slice (.st (.pair (.int .i64) (.pair (.int .i64) (.pair (.int .i64) (.pair (.int .i64) (.pair (.str) (.pair (.str) (.pair (.bool) (.bool)))))))))))))))))) (.slice (.st (.pair (.int .i64) (.pair (.int .i64) (.int .i64)))))))) [6, 7, 8, 9]]⟩ .lf)) .lf))))))
theorem x_subrip_Decode (N : Nat) : execF E [⟨61, ps_timebase_Valid, rs_timebase_Valid, timebase_Valid N⟩, ⟨62, ps_timebase_CanDrop, rs_timebase_CanDrop, timebase_CanDrop N⟩, ⟨37, ps_strings_Split, rs_strings_Split, strings_Split N⟩, ⟨63, ps_strings_TrimSuffix, rs_strings_TrimSuffix, strings_TrimSuffix N⟩, ⟨64, ps_subrip_reader_block, rs_subrip_reader_block, subrip_reader_block N⟩, ⟨65, ps_document_Sort, rs_document_Sort, document_Sort N⟩] N Tryz.f28 a_subrip_Decode ps_subrip_Decode rs_subrip_Decode = subrip_Decode N := by kernel_rfl
def a_slices_Equal_Lapi_Run_api_Run : Ann := (.sq .lf (.sq .lf (.jn ⟨[], [], [], []⟩ (.sq .lf (.lp ⟨[0, 1, 12], [], [.s 13], [.v (.int .i64) []]⟩ .lf)) .lf)))
theorem x_slices_Equal_Lapi_Run_api_Run (N : Nat) : execF E [] N Tryz.f53 a_slices_Equal_Lapi_Run_api_Run ps_slices_Equal_Lapi_Run_api_Run rs_slices_Equal_Lapi_Run_api_Run = slices_Equal_Lapi_Run_api_Run N := by kernel_rfl
def a_style_Same : Ann := .lf
theorem x_style_Same (N : Nat) : execF E [⟨53, ps_slices_Equal_Lapi_Run_api_Run, rs_slices_Equal_Lapi_Run_api_Run, slices_Equal_Lapi_Run_api_Run N⟩] N Tryz.f20 a_style_Same ps_style_Same rs_style_Same = style_Same N := by kernel_rfl
def a_l19_awake : Ann := .lf
theorem x_l19_awake (N : Nat) : execF E [⟨25, ps_subrip_Encode, rs_subrip_Encode, subrip_Encode N⟩, ⟨14, ps_subrip_Clock, rs_subrip_Clock, subrip_Clock N⟩, ⟨28, ps_subrip_Decode, rs_subrip_Decode, subrip_Decode N⟩, ⟨40, ps_style_Plain, rs_style_Plain, style_Plain N⟩, ⟨21, ps_subrip_ParseMarkup, rs_subrip_ParseMarkup, subrip_ParseMarkup N⟩, ⟨20, ps_style_Same, rs_style_Same, style_Same N⟩] N Tryz.f13 a_l19_awake ps_l19_awake rs_l19_awake = l19_awake N := by kernel_rfl
def a_l19_SubripReturns : Ann := (.sq .lf (.sq .lf (.sq .lf (.sq .lf (.sq .lf (.sq .lf (.jn ⟨[3, 5], [], [.o 25], [.b 31 (.st (.slice (.st (.pair (.str) (.pair (.st (.pair (.u8) (.pair (.bool) (.bool)))) (.str)))))) [0]]⟩ (.sq .lf (.lp ⟨[3, 5, 28, 29], [], [.s 30, .o 25], [.v (.int .i64) [], .b 31 (.st (.slice (.st (.pair (.str) (.pair (.st (.pair (.u8) (.pair (.bool) (.bool)))) (.str)))))) [0]]⟩ .lf)) .lf)))))))
theorem x_l19_SubripReturns (N : Nat) : execF E [⟨13, ps_l19_awake, rs_l19_awake, l19_awake N⟩, ⟨18, ps_subrip_Markup, rs_subrip_Markup, subrip_Markup N⟩, ⟨21, ps_subrip_ParseMarkup, rs_subrip_ParseMarkup, subrip_ParseMarkup N⟩, ⟨23, ps_style_Norm, rs_style_Norm, style_Norm N⟩, ⟨20, ps_style_Same, rs_style_Same, style_Same N⟩] N Tryz.f5 a_l19_SubripReturns ps_l19_SubripReturns rs_l19_SubripReturns = l19_SubripReturns N := by kernel_rfl
end
end Go.Mo
end

section
/-
  The functions do what their models say. Printed by a program.
-/
namespace Go.Mo
open Go Go.W Go.Proofs
noncomputable section
set_option maxRecDepth 100000
theorem k_utf8_word_string (N : Nat) : ConOk E ⟨182, ps_utf8_word_string, rs_utf8_word_string, utf8_word_string N⟩ := conOf envOk (x_utf8_word_string N) trivial (show E.P.funcs[182]? = some Tryz.f182 from by kernel_rfl) (by kernel_rfl)
theorem k_utf8_ValidString (N : Nat) : ConOk E ⟨143, ps_utf8_ValidString, rs_utf8_ValidString, utf8_ValidString N⟩ := kh_utf8_ValidString N
theorem k_charset_place (N : Nat) : ConOk E ⟨183, ps_charset_place, rs_charset_place, charset_place N⟩ := conOf envOk (x_charset_place N) trivial (show E.P.funcs[183]? = some Tryz.f183 from by kernel_rfl) (by kernel_rfl)
theorem k_charset_Index (N : Nat) : ConOk E ⟨144, ps_charset_Index, rs_charset_Index, charset_Index N⟩ := conOf envOk (x_charset_Index N) ⟨k_charset_place N, trivial⟩ (show E.P.funcs[144]? = some Tryz.f144 from by kernel_rfl) (by kernel_rfl)
theorem k_charset_Valid (N : Nat) : ConOk E ⟨89, ps_charset_Valid, rs_charset_Valid, charset_Valid N⟩ := conOf envOk (x_charset_Valid N) ⟨k_utf8_ValidString N, k_charset_Index N, trivial⟩ (show E.P.funcs[89]? = some Tryz.f89 from by kernel_rfl) (by kernel_rfl)
theorem k_lines_Name (N : Nat) : ConOk E ⟨119, ps_lines_Name, rs_lines_Name, lines_Name N⟩ := conOf envOk (x_lines_Name N) trivial (show E.P.funcs[119]? = some Tryz.f119 from by kernel_rfl) (by kernel_rfl)
theorem k_timebase_of (N : Nat) : ConOk E ⟨102, ps_timebase_of, rs_timebase_of, timebase_of N⟩ := conOf envOk (x_timebase_of N) trivial (show E.P.funcs[102]? = some Tryz.f102 from by kernel_rfl) (by kernel_rfl)
theorem k_timebase_Valid (N : Nat) : ConOk E ⟨61, ps_timebase_Valid, rs_timebase_Valid, timebase_Valid N⟩ := conOf envOk (x_timebase_Valid N) ⟨k_timebase_of N, trivial⟩ (show E.P.funcs[61]? = some Tryz.f61 from by kernel_rfl) (by kernel_rfl)
theorem k_timebase_CanDrop (N : Nat) : ConOk E ⟨62, ps_timebase_CanDrop, rs_timebase_CanDrop, timebase_CanDrop N⟩ := conOf envOk (x_timebase_CanDrop N) ⟨k_timebase_of N, trivial⟩ (show E.P.funcs[62]? = some Tryz.f62 from by kernel_rfl) (by kernel_rfl)
theorem k_document_rate (N : Nat) : ConOk E ⟨120, ps_document_rate, rs_document_rate, document_rate N⟩ := conOf envOk (x_document_rate N) ⟨k_timebase_Valid N, k_timebase_CanDrop N, trivial⟩ (show E.P.funcs[120]? = some Tryz.f120 from by kernel_rfl) (by kernel_rfl)
theorem k_document_header (N : Nat) : ConOk E ⟨76, ps_document_header, rs_document_header, document_header N⟩ := conOf envOk (x_document_header N) ⟨k_charset_Valid N, k_lines_Name N, k_document_rate N, trivial⟩ (show E.P.funcs[76]? = some Tryz.f76 from by kernel_rfl) (by kernel_rfl)
theorem k_region_from (N : Nat) : ConOk E ⟨169, ps_region_from, rs_region_from, region_from N⟩ := conOf envOk (x_region_from N) trivial (show E.P.funcs[169]? = some Tryz.f169 from by kernel_rfl) (by kernel_rfl)
theorem k_region_Check (N : Nat) : ConOk E ⟨121, ps_region_Check, rs_region_Check, region_Check N⟩ := conOf envOk (x_region_Check N) ⟨k_lines_Name N, k_region_from N, trivial⟩ (show E.P.funcs[121]? = some Tryz.f121 from by kernel_rfl) (by kernel_rfl)
theorem k_region_CheckList (N : Nat) : ConOk E ⟨77, ps_region_CheckList, rs_region_CheckList, region_CheckList N⟩ := conOf envOk (x_region_CheckList N) ⟨k_region_Check N, trivial⟩ (show E.P.funcs[77]? = some Tryz.f77 from by kernel_rfl) (by kernel_rfl)
theorem k_region_Default (N : Nat) : ConOk E ⟨170, ps_region_Default, rs_region_Default, region_Default N⟩ := conOf envOk (x_region_Default N) trivial (show E.P.funcs[170]? = some Tryz.f170 from by kernel_rfl) (by kernel_rfl)
theorem k_region_Find (N : Nat) : ConOk E ⟨122, ps_region_Find, rs_region_Find, region_Find N⟩ := conOf envOk (x_region_Find N) ⟨k_region_Default N, trivial⟩ (show E.P.funcs[122]? = some Tryz.f122 from by kernel_rfl) (by kernel_rfl)
theorem k_event_spans (N : Nat) : ConOk E ⟨123, ps_event_spans, rs_event_spans, event_spans N⟩ := conOf envOk (x_event_spans N) trivial (show E.P.funcs[123]? = some Tryz.f123 from by kernel_rfl) (by kernel_rfl)
theorem k_event_kinds (N : Nat) : ConOk E ⟨171, ps_event_kinds, rs_event_kinds, event_kinds N⟩ := conOf envOk (x_event_kinds N) trivial (show E.P.funcs[171]? = some Tryz.f171 from by kernel_rfl) (by kernel_rfl)
theorem k_event_KindName (N : Nat) : ConOk E ⟨124, ps_event_KindName, rs_event_KindName, event_KindName N⟩ := conOf envOk (x_event_KindName N) ⟨k_event_kinds N, trivial⟩ (show E.P.funcs[124]? = some Tryz.f124 from by kernel_rfl) (by kernel_rfl)
theorem k_style_Valid (N : Nat) : ConOk E ⟨90, ps_style_Valid, rs_style_Valid, style_Valid N⟩ := conOf envOk (x_style_Valid N) trivial (show E.P.funcs[90]? = some Tryz.f90 from by kernel_rfl) (by kernel_rfl)
theorem k_style_alike (N : Nat) : ConOk E ⟨91, ps_style_alike, rs_style_alike, style_alike N⟩ := conOf envOk (x_style_alike N) trivial (show E.P.funcs[91]? = some Tryz.f91 from by kernel_rfl) (by kernel_rfl)
theorem k_style_Check (N : Nat) : ConOk E ⟨46, ps_style_Check, rs_style_Check, style_Check N⟩ := conOf envOk (x_style_Check N) ⟨k_charset_Valid N, k_style_Valid N, k_style_alike N, trivial⟩ (show E.P.funcs[46]? = some Tryz.f46 from by kernel_rfl) (by kernel_rfl)
theorem k_strings_Builder_copyCheck (N : Nat) : ConOk E ⟨93, ps_strings_Builder_copyCheck, rs_strings_Builder_copyCheck, strings_Builder_copyCheck N⟩ := kh_strings_Builder_copyCheck N
theorem k_strings_Builder_WriteString (N : Nat) : ConOk E ⟨49, ps_strings_Builder_WriteString, rs_strings_Builder_WriteString, strings_Builder_WriteString N⟩ := conOf envOk (x_strings_Builder_WriteString N) ⟨k_strings_Builder_copyCheck N, trivial⟩ (show E.P.funcs[49]? = some Tryz.f49 from by kernel_rfl) (by kernel_rfl)
theorem k_style_Plain (N : Nat) : ConOk E ⟨40, ps_style_Plain, rs_style_Plain, style_Plain N⟩ := conOf envOk (x_style_Plain N) ⟨k_strings_Builder_WriteString N, trivial⟩ (show E.P.funcs[40]? = some Tryz.f40 from by kernel_rfl) (by kernel_rfl)
theorem k_bytealg_IndexByteString (N : Nat) : ConOk E ⟨178, ps_bytealg_IndexByteString, rs_bytealg_IndexByteString, bytealg_IndexByteString N⟩ := kh_bytealg_IndexByteString N
theorem k_stringslite_IndexByte (N : Nat) : ConOk E ⟨134, ps_stringslite_IndexByte, rs_stringslite_IndexByte, stringslite_IndexByte N⟩ := conOf envOk (x_stringslite_IndexByte N) ⟨k_bytealg_IndexByteString N, trivial⟩ (show E.P.funcs[134]? = some Tryz.f134 from by kernel_rfl) (by kernel_rfl)
theorem k_bytealg_Cutover (N : Nat) : ConOk E ⟨136, ps_bytealg_Cutover, rs_bytealg_Cutover, bytealg_Cutover N⟩ := conOf envOk (x_bytealg_Cutover N) trivial (show E.P.funcs[136]? = some Tryz.f136 from by kernel_rfl) (by kernel_rfl)
theorem k_bytealg_hashStr_string (N : Nat) : ConOk E ⟨179, ps_bytealg_hashStr_string, rs_bytealg_hashStr_string, bytealg_hashStr_string N⟩ := conOf envOk (x_bytealg_hashStr_string N) trivial (show E.P.funcs[179]? = some Tryz.f179 from by kernel_rfl) (by kernel_rfl)
theorem k_bytealg_IndexRabinKarp_string (N : Nat) : ConOk E ⟨137, ps_bytealg_IndexRabinKarp_string, rs_bytealg_IndexRabinKarp_string, bytealg_IndexRabinKarp_string N⟩ := conOf envOk (x_bytealg_IndexRabinKarp_string N) ⟨k_bytealg_hashStr_string N, trivial⟩ (show E.P.funcs[137]? = some Tryz.f137 from by kernel_rfl) (by kernel_rfl)
theorem k_stringslite_Index (N : Nat) : ConOk E ⟨84, ps_stringslite_Index, rs_stringslite_Index, stringslite_Index N⟩ := conOf envOk (x_stringslite_Index N) ⟨k_stringslite_IndexByte N, k_bytealg_Cutover N, k_bytealg_IndexRabinKarp_string N, trivial⟩ (show E.P.funcs[84]? = some Tryz.f84 from by kernel_rfl) (by kernel_rfl)
theorem k_strings_Index (N : Nat) : ConOk E ⟨38, ps_strings_Index, rs_strings_Index, strings_Index N⟩ := conOf envOk (x_strings_Index N) ⟨k_stringslite_Index N, trivial⟩ (show E.P.funcs[38]? = some Tryz.f38 from by kernel_rfl) (by kernel_rfl)
theorem k_strings_Contains (N : Nat) : ConOk E ⟨172, ps_strings_Contains, rs_strings_Contains, strings_Contains N⟩ := kh_strings_Contains N
theorem k_utf8_RuneCountInString (N : Nat) : ConOk E ⟨138, ps_utf8_RuneCountInString, rs_utf8_RuneCountInString, utf8_RuneCountInString N⟩ := conOf envOk (x_utf8_RuneCountInString N) trivial (show E.P.funcs[138]? = some Tryz.f138 from by kernel_rfl) (by kernel_rfl)
theorem k_charset_Len (N : Nat) : ConOk E ⟨201, ps_charset_Len, rs_charset_Len, charset_Len N⟩ := conOf envOk (x_charset_Len N) ⟨k_charset_Valid N, k_utf8_RuneCountInString N, trivial⟩ (show E.P.funcs[201]? = some Tryz.f201 from by kernel_rfl) (by kernel_rfl)
theorem k_style_Len (N : Nat) : ConOk E ⟨173, ps_style_Len, rs_style_Len, style_Len N⟩ := conOf envOk (x_style_Len N) ⟨k_charset_Len N, trivial⟩ (show E.P.funcs[173]? = some Tryz.f173 from by kernel_rfl) (by kernel_rfl)
theorem k_event_row (N : Nat) : ConOk E ⟨125, ps_event_row, rs_event_row, event_row N⟩ := conOf envOk (x_event_row N) ⟨k_style_Check N, k_style_Plain N, k_strings_Contains N, k_style_Len N, trivial⟩ (show E.P.funcs[125]? = some Tryz.f125 from by kernel_rfl) (by kernel_rfl)
theorem k_event_lens (N : Nat) : ConOk E ⟨127, ps_event_lens, rs_event_lens, event_lens N⟩ := conOf envOk (x_event_lens N) ⟨k_style_Len N, trivial⟩ (show E.P.funcs[127]? = some Tryz.f127 from by kernel_rfl) (by kernel_rfl)
theorem k_region_usable (N : Nat) : ConOk E ⟨174, ps_region_usable, rs_region_usable, region_usable N⟩ := conOf envOk (x_region_usable N) ⟨k_region_Default N, k_region_Check N, trivial⟩ (show E.P.funcs[174]? = some Tryz.f174 from by kernel_rfl) (by kernel_rfl)
theorem k_region_Place (N : Nat) : ConOk E ⟨126, ps_region_Place, rs_region_Place, region_Place N⟩ := conOf envOk (x_region_Place N) ⟨k_region_usable N, trivial⟩ (show E.P.funcs[126]? = some Tryz.f126 from by kernel_rfl) (by kernel_rfl)
theorem k_event_Check (N : Nat) : ConOk E ⟨78, ps_event_Check, rs_event_Check, event_Check N⟩ := conOf envOk (x_event_Check N) ⟨k_region_Find N, k_event_spans N, k_event_KindName N, k_lines_Name N, k_event_row N, k_event_lens N, k_region_Place N, trivial⟩ (show E.P.funcs[78]? = some Tryz.f78 from by kernel_rfl) (by kernel_rfl)
theorem k_cmp_isNaN_int64 (N : Nat) : ConOk E ⟨158, ps_cmp_isNaN_int64, rs_cmp_isNaN_int64, cmp_isNaN_int64 N⟩ := conOf envOk (x_cmp_isNaN_int64 N) trivial (show E.P.funcs[158]? = some Tryz.f158 from by kernel_rfl) (by kernel_rfl)
theorem k_cmp_Compare_int64 (N : Nat) : ConOk E ⟨112, ps_cmp_Compare_int64, rs_cmp_Compare_int64, cmp_Compare_int64 N⟩ := conOf envOk (x_cmp_Compare_int64 N) ⟨k_cmp_isNaN_int64 N, trivial⟩ (show E.P.funcs[112]? = some Tryz.f112 from by kernel_rfl) (by kernel_rfl)
theorem k_cmp_Or_int (N : Nat) : ConOk E ⟨111, ps_cmp_Or_int, rs_cmp_Or_int, cmp_Or_int N⟩ := conOf envOk (x_cmp_Or_int N) trivial (show E.P.funcs[111]? = some Tryz.f111 from by kernel_rfl) (by kernel_rfl)
theorem k_event_Less (N : Nat) : ConOk E ⟨79, ps_event_Less, rs_event_Less, event_Less N⟩ := conOf envOk (x_event_Less N) ⟨k_cmp_Compare_int64 N, k_cmp_Or_int N, trivial⟩ (show E.P.funcs[79]? = some Tryz.f79 from by kernel_rfl) (by kernel_rfl)
theorem k_event_Len (N : Nat) : ConOk E ⟨175, ps_event_Len, rs_event_Len, event_Len N⟩ := conOf envOk (x_event_Len N) ⟨k_event_lens N, trivial⟩ (show E.P.funcs[175]? = some Tryz.f175 from by kernel_rfl) (by kernel_rfl)
theorem k_document_anchored (N : Nat) : ConOk E ⟨128, ps_document_anchored, rs_document_anchored, document_anchored N⟩ := conOf envOk (x_document_anchored N) ⟨k_event_Len N, trivial⟩ (show E.P.funcs[128]? = some Tryz.f128 from by kernel_rfl) (by kernel_rfl)
theorem k_document_comments (N : Nat) : ConOk E ⟨80, ps_document_comments, rs_document_comments, document_comments N⟩ := conOf envOk (x_document_comments N) ⟨k_document_anchored N, k_lines_Name N, k_charset_Valid N, trivial⟩ (show E.P.funcs[80]? = some Tryz.f80 from by kernel_rfl) (by kernel_rfl)
theorem k_document_Check (N : Nat) : ConOk E ⟨32, ps_document_Check, rs_document_Check, document_Check N⟩ := conOf envOk (x_document_Check N) ⟨k_document_header N, k_region_CheckList N, k_event_Check N, k_event_Less N, k_document_comments N, trivial⟩ (show E.P.funcs[32]? = some Tryz.f32 from by kernel_rfl) (by kernel_rfl)
theorem k_timebase_Ticks (N : Nat) : ConOk E ⟨192, ps_timebase_Ticks, rs_timebase_Ticks, timebase_Ticks N⟩ := conOf envOk (x_timebase_Ticks N) ⟨k_timebase_of N, trivial⟩ (show E.P.funcs[192]? = some Tryz.f192 from by kernel_rfl) (by kernel_rfl)
theorem k_timebase_Time (N : Nat) : ConOk E ⟨187, ps_timebase_Time, rs_timebase_Time, timebase_Time N⟩ := conOf envOk (x_timebase_Time N) ⟨k_timebase_Valid N, k_timebase_Ticks N, trivial⟩ (show E.P.funcs[187]? = some Tryz.f187 from by kernel_rfl) (by kernel_rfl)
theorem k_ratio_known (N : Nat) : ConOk E ⟨206, ps_ratio_known, rs_ratio_known, ratio_known N⟩ := conOf envOk (x_ratio_known N) trivial (show E.P.funcs[206]? = some Tryz.f206 from by kernel_rfl) (by kernel_rfl)
theorem k_ratio_size (N : Nat) : ConOk E ⟨207, ps_ratio_size, rs_ratio_size, ratio_size N⟩ := conOf envOk (x_ratio_size N) trivial (show E.P.funcs[207]? = some Tryz.f207 from by kernel_rfl) (by kernel_rfl)
theorem k_ratio_away (N : Nat) : ConOk E ⟨208, ps_ratio_away, rs_ratio_away, ratio_away N⟩ := conOf envOk (x_ratio_away N) trivial (show E.P.funcs[208]? = some Tryz.f208 from by kernel_rfl) (by kernel_rfl)
theorem k_ratio_Quotient (N : Nat) : ConOk E ⟨188, ps_ratio_Quotient, rs_ratio_Quotient, ratio_Quotient N⟩ := conOf envOk (x_ratio_Quotient N) ⟨k_ratio_known N, k_ratio_size N, k_ratio_away N, trivial⟩ (show E.P.funcs[188]? = some Tryz.f188 from by kernel_rfl) (by kernel_rfl)
theorem k_timebase_Millis (N : Nat) : ConOk E ⟨151, ps_timebase_Millis, rs_timebase_Millis, timebase_Millis N⟩ := conOf envOk (x_timebase_Millis N) ⟨k_timebase_Time N, k_ratio_Quotient N, trivial⟩ (show E.P.funcs[151]? = some Tryz.f151 from by kernel_rfl) (by kernel_rfl)
theorem k_istrconv_small (N : Nat) : ConOk E ⟨202, ps_istrconv_small, rs_istrconv_small, istrconv_small N⟩ := conOf envOk (x_istrconv_small N) trivial (show E.P.funcs[202]? = some Tryz.f202 from by kernel_rfl) (by kernel_rfl)
theorem k_bits_Len64 (N : Nat) : ConOk E ⟨212, ps_bits_Len64, rs_bits_Len64, bits_Len64 N⟩ := conOf envOk (x_bits_Len64 N) trivial (show E.P.funcs[212]? = some Tryz.f212 from by kernel_rfl) (by kernel_rfl)
theorem k_istrconv_log10Pow2 (N : Nat) : ConOk E ⟨211, ps_istrconv_log10Pow2, rs_istrconv_log10Pow2, istrconv_log10Pow2 N⟩ := conOf envOk (x_istrconv_log10Pow2 N) trivial (show E.P.funcs[211]? = some Tryz.f211 from by kernel_rfl) (by kernel_rfl)
theorem k_istrconv_bool2_int (N : Nat) : ConOk E ⟨213, ps_istrconv_bool2_int, rs_istrconv_bool2_int, istrconv_bool2_int N⟩ := conOf envOk (x_istrconv_bool2_int N) trivial (show E.P.funcs[213]? = some Tryz.f213 from by kernel_rfl) (by kernel_rfl)
theorem k_istrconv_numDigits (N : Nat) : ConOk E ⟨203, ps_istrconv_numDigits, rs_istrconv_numDigits, istrconv_numDigits N⟩ := conOf envOk (x_istrconv_numDigits N) ⟨k_bits_Len64 N, k_istrconv_log10Pow2 N, k_istrconv_bool2_int N, trivial⟩ (show E.P.funcs[203]? = some Tryz.f203 from by kernel_rfl) (by kernel_rfl)
theorem k_istrconv_isPowerOfTwo (N : Nat) : ConOk E ⟨214, ps_istrconv_isPowerOfTwo, rs_istrconv_isPowerOfTwo, istrconv_isPowerOfTwo N⟩ := conOf envOk (x_istrconv_isPowerOfTwo N) trivial (show E.P.funcs[214]? = some Tryz.f214 from by kernel_rfl) (by kernel_rfl)
theorem k_bits_TrailingZeros32 (N : Nat) : ConOk E ⟨217, ps_bits_TrailingZeros32, rs_bits_TrailingZeros32, bits_TrailingZeros32 N⟩ := conOf envOk (x_bits_TrailingZeros32 N) trivial (show E.P.funcs[217]? = some Tryz.f217 from by kernel_rfl) (by kernel_rfl)
theorem k_bits_TrailingZeros64 (N : Nat) : ConOk E ⟨218, ps_bits_TrailingZeros64, rs_bits_TrailingZeros64, bits_TrailingZeros64 N⟩ := conOf envOk (x_bits_TrailingZeros64 N) trivial (show E.P.funcs[218]? = some Tryz.f218 from by kernel_rfl) (by kernel_rfl)
theorem k_bits_TrailingZeros (N : Nat) : ConOk E ⟨215, ps_bits_TrailingZeros, rs_bits_TrailingZeros, bits_TrailingZeros N⟩ := conOf envOk (x_bits_TrailingZeros N) ⟨k_bits_TrailingZeros32 N, k_bits_TrailingZeros64 N, trivial⟩ (show E.P.funcs[215]? = some Tryz.f215 from by kernel_rfl) (by kernel_rfl)
theorem k_istrconv_FormatInt (N : Nat) : ConOk E ⟨181, ps_istrconv_FormatInt, rs_istrconv_FormatInt, istrconv_FormatInt N⟩ := kh_istrconv_FormatInt N
theorem k_strconv_FormatInt (N : Nat) : ConOk E ⟨142, ps_strconv_FormatInt, rs_strconv_FormatInt, strconv_FormatInt N⟩ := conOf envOk (x_strconv_FormatInt N) ⟨k_istrconv_FormatInt N, trivial⟩ (show E.P.funcs[142]? = some Tryz.f142 from by kernel_rfl) (by kernel_rfl)
theorem k_lines_Decimal (N : Nat) : ConOk E ⟨88, ps_lines_Decimal, rs_lines_Decimal, lines_Decimal N⟩ := conOf envOk (x_lines_Decimal N) ⟨k_strconv_FormatInt N, trivial⟩ (show E.P.funcs[88]? = some Tryz.f88 from by kernel_rfl) (by kernel_rfl)
theorem k_subrip_digits (N : Nat) : ConOk E ⟨41, ps_subrip_digits, rs_subrip_digits, subrip_digits N⟩ := conOf envOk (x_subrip_digits N) ⟨k_lines_Decimal N, trivial⟩ (show E.P.funcs[41]? = some Tryz.f41 from by kernel_rfl) (by kernel_rfl)
theorem k_subrip_Clock (N : Nat) : ConOk E ⟨14, ps_subrip_Clock, rs_subrip_Clock, subrip_Clock N⟩ := conOf envOk (x_subrip_Clock N) ⟨k_subrip_digits N, trivial⟩ (show E.P.funcs[14]? = some Tryz.f14 from by kernel_rfl) (by kernel_rfl)
theorem k_strings_IndexByte (N : Nat) : ConOk E ⟨184, ps_strings_IndexByte, rs_strings_IndexByte, strings_IndexByte N⟩ := conOf envOk (x_strings_IndexByte N) ⟨k_stringslite_IndexByte N, trivial⟩ (show E.P.funcs[184]? = some Tryz.f184 from by kernel_rfl) (by kernel_rfl)
theorem k_utf8_ValidRune (N : Nat) : ConOk E ⟨185, ps_utf8_ValidRune, rs_utf8_ValidRune, utf8_ValidRune N⟩ := conOf envOk (x_utf8_ValidRune N) trivial (show E.P.funcs[185]? = some Tryz.f185 from by kernel_rfl) (by kernel_rfl)
theorem k_strings_IndexRune (N : Nat) : ConOk E ⟨145, ps_strings_IndexRune, rs_strings_IndexRune, strings_IndexRune N⟩ := conOf envOk (x_strings_IndexRune N) ⟨k_strings_IndexByte N, k_utf8_ValidRune N, k_bytealg_Cutover N, trivial⟩ (show E.P.funcs[145]? = some Tryz.f145 from by kernel_rfl) (by kernel_rfl)
theorem k_strings_shouldUseASCIISet (N : Nat) : ConOk E ⟨146, ps_strings_shouldUseASCIISet, rs_strings_shouldUseASCIISet, strings_shouldUseASCIISet N⟩ := conOf envOk (x_strings_shouldUseASCIISet N) trivial (show E.P.funcs[146]? = some Tryz.f146 from by kernel_rfl) (by kernel_rfl)
theorem k_strings_IndexAny_s (N : Nat) : ConOk E ⟨92, ps_strings_IndexAny, rs_strings_IndexAny, strings_IndexAny_s N⟩ := conOf envOk (x_strings_IndexAny N) ⟨k_strings_IndexRune N, k_strings_shouldUseASCIISet N, trivial⟩ (show E.P.funcs[92]? = some Tryz.f92 from by kernel_rfl) (by kernel_rfl)
theorem k_strings_IndexAny (N : Nat) : ConOk E ⟨92, ps_strings_IndexAny, rs_strings_IndexAny, strings_IndexAny N⟩ := con_or (ps := ps_strings_IndexAny) (rs := rs_strings_IndexAny) (b := longAny) (g1 := fun x : List UInt8 × List UInt8 => some (Lib.indexAny x.1 x.2)) (g2 := strings_IndexAny_s N) khl_IndexAny (k_strings_IndexAny_s N)
theorem k_strings_ContainsAny (N : Nat) : ConOk E ⟨47, ps_strings_ContainsAny, rs_strings_ContainsAny, strings_ContainsAny N⟩ := conOf envOk (x_strings_ContainsAny N) ⟨k_strings_IndexAny N, trivial⟩ (show E.P.funcs[47]? = some Tryz.f47 from by kernel_rfl) (by kernel_rfl)
theorem k_style_norm (N : Nat) : ConOk E ⟨58, ps_style_norm, rs_style_norm, style_norm N⟩ := conOf envOk (x_style_norm N) ⟨k_style_alike N, trivial⟩ (show E.P.funcs[58]? = some Tryz.f58 from by kernel_rfl) (by kernel_rfl)
theorem k_style_Norm (N : Nat) : ConOk E ⟨23, ps_style_Norm, rs_style_Norm, style_Norm N⟩ := conOf envOk (x_style_Norm N) ⟨k_style_norm N, trivial⟩ (show E.P.funcs[23]? = some Tryz.f23 from by kernel_rfl) (by kernel_rfl)
theorem k_subrip_carried (N : Nat) : ConOk E ⟨48, ps_subrip_carried, rs_subrip_carried, subrip_carried N⟩ := conOf envOk (x_subrip_carried N) ⟨k_style_Norm N, trivial⟩ (show E.P.funcs[48]? = some Tryz.f48 from by kernel_rfl) (by kernel_rfl)
theorem k_subrip_Markup (N : Nat) : ConOk E ⟨18, ps_subrip_Markup, rs_subrip_Markup, subrip_Markup N⟩ := conOf envOk (x_subrip_Markup N) ⟨k_style_Check N, k_style_Plain N, k_strings_ContainsAny N, k_subrip_carried N, k_strings_Builder_WriteString N, trivial⟩ (show E.P.funcs[18]? = some Tryz.f18 from by kernel_rfl) (by kernel_rfl)
theorem k_subrip_block (N : Nat) : ConOk E ⟨98, ps_subrip_block, rs_subrip_block, subrip_block N⟩ := conOf envOk (x_subrip_block N) ⟨k_timebase_Millis N, k_subrip_Clock N, k_lines_Decimal N, k_subrip_Markup N, trivial⟩ (show E.P.funcs[98]? = some Tryz.f98 from by kernel_rfl) (by kernel_rfl)
theorem k_strings_Builder_Len (N : Nat) : ConOk E ⟨99, ps_strings_Builder_Len, rs_strings_Builder_Len, strings_Builder_Len N⟩ := conOf envOk (x_strings_Builder_Len N) trivial (show E.P.funcs[99]? = some Tryz.f99 from by kernel_rfl) (by kernel_rfl)
theorem k_subrip_encode (N : Nat) : ConOk E ⟨59, ps_subrip_encode, rs_subrip_encode, subrip_encode N⟩ := conOf envOk (x_subrip_encode N) ⟨k_document_Check N, k_subrip_block N, k_strings_Builder_WriteString N, k_strings_Builder_Len N, trivial⟩ (show E.P.funcs[59]? = some Tryz.f59 from by kernel_rfl) (by kernel_rfl)
theorem k_subrip_Encode (N : Nat) : ConOk E ⟨25, ps_subrip_Encode, rs_subrip_Encode, subrip_Encode N⟩ := conOf envOk (x_subrip_Encode N) ⟨k_subrip_encode N, trivial⟩ (show E.P.funcs[25]? = some Tryz.f25 from by kernel_rfl) (by kernel_rfl)
theorem k_utf8_decodeRuneInStringSlow (N : Nat) : ConOk E ⟨141, ps_utf8_decodeRuneInStringSlow, rs_utf8_decodeRuneInStringSlow, utf8_decodeRuneInStringSlow N⟩ := conOf envOk (x_utf8_decodeRuneInStringSlow N) trivial (show E.P.funcs[141]? = some Tryz.f141 from by kernel_rfl) (by kernel_rfl)
theorem k_utf8_DecodeRuneInString (N : Nat) : ConOk E ⟨87, ps_utf8_DecodeRuneInString, rs_utf8_DecodeRuneInString, utf8_DecodeRuneInString N⟩ := conOf envOk (x_utf8_DecodeRuneInString N) ⟨k_utf8_decodeRuneInStringSlow N, trivial⟩ (show E.P.funcs[87]? = some Tryz.f87 from by kernel_rfl) (by kernel_rfl)
theorem k_strings_explode (N : Nat) : ConOk E ⟨133, ps_strings_explode, rs_strings_explode, strings_explode N⟩ := conOf envOk (x_strings_explode N) ⟨k_utf8_RuneCountInString N, k_utf8_DecodeRuneInString N, trivial⟩ (show E.P.funcs[133]? = some Tryz.f133 from by kernel_rfl) (by kernel_rfl)
theorem k_bytealg_CountString (N : Nat) : ConOk E ⟨139, ps_bytealg_CountString, rs_bytealg_CountString, bytealg_CountString N⟩ := kh_bytealg_CountString N
theorem k_strings_Count (N : Nat) : ConOk E ⟨85, ps_strings_Count, rs_strings_Count, strings_Count N⟩ := conOf envOk (x_strings_Count N) ⟨k_utf8_RuneCountInString N, k_bytealg_CountString N, k_strings_Index N, trivial⟩ (show E.P.funcs[85]? = some Tryz.f85 from by kernel_rfl) (by kernel_rfl)
theorem k_strings_genSplit (N : Nat) : ConOk E ⟨83, ps_strings_genSplit, rs_strings_genSplit, strings_genSplit N⟩ := conOf envOk (x_strings_genSplit N) ⟨k_strings_explode N, k_strings_Count N, k_strings_Index N, trivial⟩ (show E.P.funcs[83]? = some Tryz.f83 from by kernel_rfl) (by kernel_rfl)
theorem k_strings_Split (N : Nat) : ConOk E ⟨37, ps_strings_Split, rs_strings_Split, strings_Split N⟩ := conOf envOk (x_strings_Split N) ⟨k_strings_genSplit N, trivial⟩ (show E.P.funcs[37]? = some Tryz.f37 from by kernel_rfl) (by kernel_rfl)
theorem k_stringslite_HasSuffix (N : Nat) : ConOk E ⟨154, ps_stringslite_HasSuffix, rs_stringslite_HasSuffix, stringslite_HasSuffix N⟩ := conOf envOk (x_stringslite_HasSuffix N) trivial (show E.P.funcs[154]? = some Tryz.f154 from by kernel_rfl) (by kernel_rfl)
theorem k_stringslite_TrimSuffix (N : Nat) : ConOk E ⟨103, ps_stringslite_TrimSuffix, rs_stringslite_TrimSuffix, stringslite_TrimSuffix N⟩ := conOf envOk (x_stringslite_TrimSuffix N) ⟨k_stringslite_HasSuffix N, trivial⟩ (show E.P.funcs[103]? = some Tryz.f103 from by kernel_rfl) (by kernel_rfl)
theorem k_strings_TrimSuffix (N : Nat) : ConOk E ⟨63, ps_strings_TrimSuffix, rs_strings_TrimSuffix, strings_TrimSuffix N⟩ := conOf envOk (x_strings_TrimSuffix N) ⟨k_stringslite_TrimSuffix N, trivial⟩ (show E.P.funcs[63]? = some Tryz.f63 from by kernel_rfl) (by kernel_rfl)
theorem k_subrip_field (N : Nat) : ConOk E ⟨43, ps_subrip_field, rs_subrip_field, subrip_field N⟩ := conOf envOk (x_subrip_field N) trivial (show E.P.funcs[43]? = some Tryz.f43 from by kernel_rfl) (by kernel_rfl)
theorem k_subrip_number (N : Nat) : ConOk E ⟨104, ps_subrip_number, rs_subrip_number, subrip_number N⟩ := conOf envOk (x_subrip_number N) ⟨k_subrip_field N, trivial⟩ (show E.P.funcs[104]? = some Tryz.f104 from by kernel_rfl) (by kernel_rfl)
theorem k_subrip_reader_fail (N : Nat) : ConOk E ⟨105, ps_subrip_reader_fail, rs_subrip_reader_fail, subrip_reader_fail N⟩ := conOf envOk (x_subrip_reader_fail N) trivial (show E.P.funcs[105]? = some Tryz.f105 from by kernel_rfl) (by kernel_rfl)
theorem k_subrip_ParseClock (N : Nat) : ConOk E ⟨16, ps_subrip_ParseClock, rs_subrip_ParseClock, subrip_ParseClock N⟩ := conOf envOk (x_subrip_ParseClock N) ⟨k_subrip_field N, trivial⟩ (show E.P.funcs[16]? = some Tryz.f16 from by kernel_rfl) (by kernel_rfl)
theorem k_subrip_times (N : Nat) : ConOk E ⟨106, ps_subrip_times, rs_subrip_times, subrip_times N⟩ := conOf envOk (x_subrip_times N) ⟨k_subrip_ParseClock N, trivial⟩ (show E.P.funcs[106]? = some Tryz.f106 from by kernel_rfl) (by kernel_rfl)
theorem k_timebase_Frame (N : Nat) : ConOk E ⟨155, ps_timebase_Frame, rs_timebase_Frame, timebase_Frame N⟩ := conOf envOk (x_timebase_Frame N) ⟨k_timebase_Valid N, k_timebase_Ticks N, k_ratio_Quotient N, trivial⟩ (show E.P.funcs[155]? = some Tryz.f155 from by kernel_rfl) (by kernel_rfl)
theorem k_timebase_FromMillis (N : Nat) : ConOk E ⟨107, ps_timebase_FromMillis, rs_timebase_FromMillis, timebase_FromMillis N⟩ := conOf envOk (x_timebase_FromMillis N) ⟨k_timebase_Valid N, k_timebase_Frame N, trivial⟩ (show E.P.funcs[107]? = some Tryz.f107 from by kernel_rfl) (by kernel_rfl)
theorem k_subrip_ParseMarkup_1 (N : Nat) : ConOk E ⟨54, ps_subrip_ParseMarkup_1, rs_subrip_ParseMarkup_1, subrip_ParseMarkup_1 N⟩ := conOf envOk (x_subrip_ParseMarkup_1 N) trivial (show E.P.funcs[54]? = some Tryz.f54 from by kernel_rfl) (by kernel_rfl)
theorem k_stringslite_HasPrefix (N : Nat) : ConOk E ⟨96, ps_stringslite_HasPrefix, rs_stringslite_HasPrefix, stringslite_HasPrefix N⟩ := conOf envOk (x_stringslite_HasPrefix N) trivial (show E.P.funcs[96]? = some Tryz.f96 from by kernel_rfl) (by kernel_rfl)
theorem k_strings_HasPrefix (N : Nat) : ConOk E ⟨55, ps_strings_HasPrefix, rs_strings_HasPrefix, strings_HasPrefix N⟩ := conOf envOk (x_strings_HasPrefix N) ⟨k_stringslite_HasPrefix N, trivial⟩ (show E.P.funcs[55]? = some Tryz.f55 from by kernel_rfl) (by kernel_rfl)
theorem k_subrip_ParseMarkup (N : Nat) : ConOk E ⟨21, ps_subrip_ParseMarkup, rs_subrip_ParseMarkup, subrip_ParseMarkup N⟩ := conOf envOk (x_subrip_ParseMarkup N) ⟨k_subrip_ParseMarkup_1 N, k_strings_HasPrefix N, k_style_Norm N, trivial⟩ (show E.P.funcs[21]? = some Tryz.f21 from by kernel_rfl) (by kernel_rfl)
theorem k_subrip_reader_block (N : Nat) : ConOk E ⟨64, ps_subrip_reader_block, rs_subrip_reader_block, subrip_reader_block N⟩ := conOf envOk (x_subrip_reader_block N) ⟨k_subrip_number N, k_subrip_reader_fail N, k_subrip_times N, k_timebase_FromMillis N, k_subrip_ParseMarkup N, k_event_Check N, trivial⟩ (show E.P.funcs[64]? = some Tryz.f64 from by kernel_rfl) (by kernel_rfl)
theorem k_slices_Clone_Lapi_Row_api_Row (N : Nat) : ConOk E ⟨193, ps_slices_Clone_Lapi_Row_api_Row, rs_slices_Clone_Lapi_Row_api_Row, slices_Clone_Lapi_Row_api_Row N⟩ := conOf envOk (x_slices_Clone_Lapi_Row_api_Row N) trivial (show E.P.funcs[193]? = some Tryz.f193 from by kernel_rfl) (by kernel_rfl)
theorem k_slices_Clone_Lapi_Run_api_Run (N : Nat) : ConOk E ⟨194, ps_slices_Clone_Lapi_Run_api_Run, rs_slices_Clone_Lapi_Run_api_Run, slices_Clone_Lapi_Run_api_Run N⟩ := conOf envOk (x_slices_Clone_Lapi_Run_api_Run N) trivial (show E.P.funcs[194]? = some Tryz.f194 from by kernel_rfl) (by kernel_rfl)
theorem k_style_Clone (N : Nat) : ConOk E ⟨156, ps_style_Clone, rs_style_Clone, style_Clone N⟩ := conOf envOk (x_style_Clone N) ⟨k_slices_Clone_Lapi_Row_api_Row N, k_slices_Clone_Lapi_Run_api_Run N, trivial⟩ (show E.P.funcs[156]? = some Tryz.f156 from by kernel_rfl) (by kernel_rfl)
theorem k_event_Clone (N : Nat) : ConOk E ⟨108, ps_event_Clone, rs_event_Clone, event_Clone N⟩ := conOf envOk (x_event_Clone N) ⟨k_style_Clone N, trivial⟩ (show E.P.funcs[108]? = some Tryz.f108 from by kernel_rfl) (by kernel_rfl)
theorem k_document_Sort_1 (N : Nat) : ConOk E ⟨110, ps_document_Sort_1, rs_document_Sort_1, document_Sort_1 N⟩ := conOf envOk (x_document_Sort_1 N) ⟨k_cmp_Compare_int64 N, k_cmp_Or_int N, trivial⟩ (show E.P.funcs[110]? = some Tryz.f110 from by kernel_rfl) (by kernel_rfl)
theorem k_slices_insertionSortCmpFunc_api_Event (N : Nat) : ConOk E ⟨195, ps_slices_insertionSortCmpFunc_api_Event, rs_slices_insertionSortCmpFunc_api_Event, slices_insertionSortCmpFunc_api_Event N⟩ := conOf envOk (x_slices_insertionSortCmpFunc_api_Event N) ⟨k_document_Sort_1 N, trivial⟩ (show E.P.funcs[195]? = some Tryz.f195 from by kernel_rfl) (by kernel_rfl)
theorem k_slices_swapRangeCmpFunc_api_Event (N : Nat) : ConOk E ⟨216, ps_slices_swapRangeCmpFunc_api_Event, rs_slices_swapRangeCmpFunc_api_Event, slices_swapRangeCmpFunc_api_Event N⟩ := conOf envOk (x_slices_swapRangeCmpFunc_api_Event N) ⟨k_document_Sort_1 N, trivial⟩ (show E.P.funcs[216]? = some Tryz.f216 from by kernel_rfl) (by kernel_rfl)
theorem k_slices_rotateCmpFunc_api_Event (N : Nat) : ConOk E ⟨209, ps_slices_rotateCmpFunc_api_Event, rs_slices_rotateCmpFunc_api_Event, slices_rotateCmpFunc_api_Event N⟩ := conOf envOk (x_slices_rotateCmpFunc_api_Event N) ⟨k_document_Sort_1 N, k_slices_swapRangeCmpFunc_api_Event N, trivial⟩ (show E.P.funcs[209]? = some Tryz.f209 from by kernel_rfl) (by kernel_rfl)
theorem kr_slices_symMergeCmpFunc_api_Event (N : Nat) : ∀ D, ConOk E ⟨196, ps_slices_symMergeCmpFunc_api_Event, rs_slices_symMergeCmpFunc_api_Event, slices_symMergeCmpFunc_api_Event_r N D⟩
  | 0 => fun _ _ h => by cases h
  | D + 1 => by
    have hc : CallsOk E [⟨110, ps_document_Sort_1, rs_document_Sort_1, document_Sort_1 N⟩, ⟨209, ps_slices_rotateCmpFunc_api_Event, rs_slices_rotateCmpFunc_api_Event, slices_rotateCmpFunc_api_Event N⟩, ⟨196, ps_slices_symMergeCmpFunc_api_Event, rs_slices_symMergeCmpFunc_api_Event, slices_symMergeCmpFunc_api_Event_r N D⟩] := callsOk_all ⟨k_document_Sort_1 N, k_slices_rotateCmpFunc_api_Event N, kr_slices_symMergeCmpFunc_api_Event N D, trivial⟩
    rw [← x_slices_symMergeCmpFunc_api_Event N D]
    exact execF_ok envOk hc (drawn_ok envOk hc) (show E.P.funcs[196]? = some Tryz.f196 from by kernel_rfl) (by kernel_rfl) _ _ _
theorem k_slices_symMergeCmpFunc_api_Event (N : Nat) : ConOk E ⟨196, ps_slices_symMergeCmpFunc_api_Event, rs_slices_symMergeCmpFunc_api_Event, slices_symMergeCmpFunc_api_Event N⟩ := kr_slices_symMergeCmpFunc_api_Event N N
theorem k_slices_stableCmpFunc_api_Event (N : Nat) : ConOk E ⟨157, ps_slices_stableCmpFunc_api_Event, rs_slices_stableCmpFunc_api_Event, slices_stableCmpFunc_api_Event N⟩ := conOf envOk (x_slices_stableCmpFunc_api_Event N) ⟨k_document_Sort_1 N, k_slices_insertionSortCmpFunc_api_Event N, k_slices_symMergeCmpFunc_api_Event N, trivial⟩ (show E.P.funcs[157]? = some Tryz.f157 from by kernel_rfl) (by kernel_rfl)
theorem k_slices_SortStableFunc_Lapi_Event_api_Event (N : Nat) : ConOk E ⟨109, ps_slices_SortStableFunc_Lapi_Event_api_Event, rs_slices_SortStableFunc_Lapi_Event_api_Event, slices_SortStableFunc_Lapi_Event_api_Event N⟩ := conOf envOk (x_slices_SortStableFunc_Lapi_Event_api_Event N) ⟨k_document_Sort_1 N, k_slices_stableCmpFunc_api_Event N, trivial⟩ (show E.P.funcs[109]? = some Tryz.f109 from by kernel_rfl) (by kernel_rfl)
theorem k_document_Sort (N : Nat) : ConOk E ⟨65, ps_document_Sort, rs_document_Sort, document_Sort N⟩ := conOf envOk (x_document_Sort N) ⟨k_event_Clone N, k_slices_SortStableFunc_Lapi_Event_api_Event N, k_document_Sort_1 N, trivial⟩ (show E.P.funcs[65]? = some Tryz.f65 from by kernel_rfl) (by kernel_rfl)
theorem k_subrip_Decode (N : Nat) : ConOk E ⟨28, ps_subrip_Decode, rs_subrip_Decode, subrip_Decode N⟩ := conOf envOk (x_subrip_Decode N) ⟨k_timebase_Valid N, k_timebase_CanDrop N, k_strings_Split N, k_strings_TrimSuffix N, k_subrip_reader_block N, k_document_Sort N, trivial⟩ (show E.P.funcs[28]? = some Tryz.f28 from by kernel_rfl) (by kernel_rfl)
theorem k_slices_Equal_Lapi_Run_api_Run (N : Nat) : ConOk E ⟨53, ps_slices_Equal_Lapi_Run_api_Run, rs_slices_Equal_Lapi_Run_api_Run, slices_Equal_Lapi_Run_api_Run N⟩ := conOf envOk (x_slices_Equal_Lapi_Run_api_Run N) trivial (show E.P.funcs[53]? = some Tryz.f53 from by kernel_rfl) (by kernel_rfl)
theorem k_style_Same (N : Nat) : ConOk E ⟨20, ps_style_Same, rs_style_Same, style_Same N⟩ := conOf envOk (x_style_Same N) ⟨k_slices_Equal_Lapi_Run_api_Run N, trivial⟩ (show E.P.funcs[20]? = some Tryz.f20 from by kernel_rfl) (by kernel_rfl)
theorem k_l19_awake (N : Nat) : ConOk E ⟨13, ps_l19_awake, rs_l19_awake, l19_awake N⟩ := conOf envOk (x_l19_awake N) ⟨k_subrip_Encode N, k_subrip_Clock N, k_subrip_Decode N, k_style_Plain N, k_subrip_ParseMarkup N, k_style_Same N, trivial⟩ (show E.P.funcs[13]? = some Tryz.f13 from by kernel_rfl) (by kernel_rfl)
theorem k_l19_SubripReturns (N : Nat) : ConOk E ⟨5, ps_l19_SubripReturns, rs_l19_SubripReturns, l19_SubripReturns N⟩ := conOf envOk (x_l19_SubripReturns N) ⟨k_l19_awake N, k_subrip_Markup N, k_subrip_ParseMarkup N, k_style_Norm N, k_style_Same N, trivial⟩ (show E.P.funcs[5]? = some Tryz.f5 from by kernel_rfl) (by kernel_rfl)
end
end Go.Mo
end
