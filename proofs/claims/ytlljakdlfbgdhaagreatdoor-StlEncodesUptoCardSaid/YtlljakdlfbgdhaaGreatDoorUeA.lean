/-
  Texts put together, in build order: WE WM WB WV WS WH WXa.
-/
import Derived.Test.YtlljakdlfbgdhaaGreatDoorZC
import Derived.Test.YtlljakdlfbgdhaaGreatDoorProg
import Derived.KernelRfl
import GoSem.PinnedTables
import Derived.Test.YtlljakdlfbgdhaaGreatDoorChecked
import Derived.Lib.UnsafeStr
import Derived.Lib.Builder
import Derived.Lib.Walk
import Derived.WalkKit
import Derived.Laws.Externs
import Derived.OrdersHeld
import Derived.Shelf.Unicode.ValidAny
import Derived.Shelf.Strings.Search3
set_option linter.all false

section
/-
  The table of types of this program, as the machine on plain values sees them, and the package variables that are known.
-/
namespace Go.Mo
open Go Go.W Go.Proofs
noncomputable section
def tt : List (Option Ty) := [none,
  none,
  some (.int .i64),
  some (.int .i64),
  some (.bool),
  some (.u8),
  none,
  none,
  none,
  some (.str),
  none,
  none,
  some (.int .u64),
  none,
  none,
  some (.nptr),
  some (.nptr),
  some (.nptr),
  none,
  none,
  some (.nif),
  some (.int .i32),
  some (.u8),
  some (.slice (.st (.pair (.str) (.pair (.int .i64) (.pair (.int .i64) (.pair (.int .i64) (.pair (.int .i64) (.pair (.u8) (.bool))))))))),
  some (.slice (.st (.pair (.int .i64) (.pair (.st (.pair (.int .i64) (.int .i64))) (.pair (.str) (.pair (.u8) (.pair (.str) (.slice (.st (.slice (.st (.pair (.str) (.pair (.st (.pair (.u8) (.pair (.bool) (.bool)))) (.str)))))))))))))),
  some (.slice (.st (.pair (.int .i64) (.pair (.int .i64) (.pair (.int .i64) (.pair (.int .i64) (.pair (.str) (.pair (.str) (.pair (.bool) (.bool)))))))))),
  some (.st (.pair (.str) (.pair (.str) (.pair (.u8) (.pair (.bool) (.pair (.int .i64) (.pair (.slice (.st (.pair (.str) (.pair (.int .i64) (.pair (.int .i64) (.pair (.int .i64) (.pair (.int .i64) (.pair (.u8) (.bool))))))))) (.pair (.slice (.st (.pair (.int .i64) (.pair (.st (.pair (.int .i64) (.int .i64))) (.pair (.str) (.pair (.u8) (.pair (.str) (.slice (.st (.slice (.st (.pair (.str) (.pair (.st (.pair (.u8) (.pair (.bool) (.bool)))) (.str)))))))))))))) (.slice (.st (.pair (.int .i64) (.pair (.int .i64) (.pair (.int .i64) (.pair (.int .i64) (.pair (.str) (.pair (.str) (.pair (.bool) (.bool)))))))))))))))))),
  some (.st (.pair (.str) (.pair (.str) (.pair (.u8) (.pair (.bool) (.pair (.int .i64) (.pair (.slice (.st (.pair (.str) (.pair (.int .i64) (.pair (.int .i64) (.pair (.int .i64) (.pair (.int .i64) (.pair (.u8) (.bool))))))))) (.pair (.slice (.st (.pair (.int .i64) (.pair (.st (.pair (.int .i64) (.int .i64))) (.pair (.str) (.pair (.u8) (.pair (.str) (.slice (.st (.slice (.st (.pair (.str) (.pair (.st (.pair (.u8) (.pair (.bool) (.bool)))) (.str)))))))))))))) (.slice (.st (.pair (.int .i64) (.pair (.int .i64) (.pair (.int .i64) (.pair (.int .i64) (.pair (.str) (.pair (.str) (.pair (.bool) (.bool)))))))))))))))))),
  none,
  none,
  some (.int .i64),
  none,
  none,
  none,
  none,
  none,
  some (.slice (.st (.slice (.st (.pair (.str) (.pair (.st (.pair (.u8) (.pair (.bool) (.bool)))) (.str))))))),
  some (.slice (.u8)),
  none,
  none,
  none,
  none,
  none,
  none,
  none,
  none,
  some (.slice (.st (.pair (.str) (.pair (.st (.pair (.u8) (.pair (.bool) (.bool)))) (.str))))),
  some (.st (.slice (.st (.pair (.str) (.pair (.st (.pair (.u8) (.pair (.bool) (.bool)))) (.str)))))),
  some (.st (.slice (.st (.pair (.str) (.pair (.st (.pair (.u8) (.pair (.bool) (.bool)))) (.str)))))),
  some (.u8),
  some (.st (.pair (.u8) (.pair (.bool) (.bool)))),
  some (.st (.pair (.u8) (.pair (.bool) (.bool)))),
  some (.st (.pair (.str) (.pair (.st (.pair (.u8) (.pair (.bool) (.bool)))) (.str)))),
  some (.st (.pair (.str) (.pair (.st (.pair (.u8) (.pair (.bool) (.bool)))) (.str)))),
  none,
  none,
  none,
  none,
  none,
  none,
  some (.st (.pair (.int .i64) (.int .i64))),
  some (.st (.pair (.int .i64) (.int .i64))),
  some (.u8),
  some (.st (.pair (.int .i64) (.pair (.st (.pair (.int .i64) (.int .i64))) (.pair (.str) (.pair (.u8) (.pair (.str) (.slice (.st (.slice (.st (.pair (.str) (.pair (.st (.pair (.u8) (.pair (.bool) (.bool)))) (.str))))))))))))),
  some (.st (.pair (.int .i64) (.pair (.st (.pair (.int .i64) (.int .i64))) (.pair (.str) (.pair (.u8) (.pair (.str) (.slice (.st (.slice (.st (.pair (.str) (.pair (.st (.pair (.u8) (.pair (.bool) (.bool)))) (.str))))))))))))),
  some (.u8),
  some (.st (.pair (.str) (.pair (.int .i64) (.pair (.int .i64) (.pair (.int .i64) (.pair (.int .i64) (.pair (.u8) (.bool)))))))),
  some (.st (.pair (.str) (.pair (.int .i64) (.pair (.int .i64) (.pair (.int .i64) (.pair (.int .i64) (.pair (.u8) (.bool)))))))),
  none,
  none,
  some (.st (.pair (.int .i64) (.u8))),
  some (.st (.pair (.int .i64) (.u8))),
  none,
  none,
  none,
  none,
  none,
  some (.st (.pair (.str) (.pair (.str) (.pair (.u8) (.pair (.bool) (.int .i64)))))),
  some (.st (.pair (.str) (.pair (.str) (.pair (.u8) (.pair (.bool) (.int .i64)))))),
  none,
  none,
  none,
  none,
  none,
  some (.st (.pair (.int .i64) (.pair (.int .i64) (.pair (.int .i64) (.pair (.int .i64) (.pair (.str) (.pair (.str) (.pair (.bool) (.bool))))))))),
  some (.st (.pair (.int .i64) (.pair (.int .i64) (.pair (.int .i64) (.pair (.int .i64) (.pair (.str) (.pair (.str) (.pair (.bool) (.bool))))))))),
  none,
  none,
  none,
  none,
  none,
  none,
  none,
  none,
  none,
  none,
  none,
  none,
  none,
  none,
  none,
  none,
  none,
  none,
  none,
  some (.st (.pair (.int .i64) (.pair (.int .i64) (.pair (.int .i64) (.pair (.int .i64) (.bool)))))),
  some (.st (.pair (.int .i64) (.pair (.int .i64) (.pair (.int .i64) (.pair (.int .i64) (.bool)))))),
  some (.st (.pair (.u8) (.pair (.str) (.pair (.str) (.pair (.int .i64) (.pair (.int .i64) (.pair (.st (.pair (.int .i64) (.pair (.int .i64) (.pair (.int .i64) (.pair (.int .i64) (.bool)))))) (.pair (.st (.pair (.int .i64) (.pair (.int .i64) (.pair (.int .i64) (.pair (.int .i64) (.bool)))))) (.pair (.int .i64) (.int .i64)))))))))),
  some (.st (.pair (.u8) (.pair (.str) (.pair (.str) (.pair (.int .i64) (.pair (.int .i64) (.pair (.st (.pair (.int .i64) (.pair (.int .i64) (.pair (.int .i64) (.pair (.int .i64) (.bool)))))) (.pair (.st (.pair (.int .i64) (.pair (.int .i64) (.pair (.int .i64) (.pair (.int .i64) (.bool)))))) (.pair (.int .i64) (.int .i64)))))))))),
  some (.slice (.st (.pair (.int .i64) (.pair (.int .i64) (.pair (.u8) (.pair (.u8) (.pair (.st (.pair (.int .i64) (.pair (.int .i64) (.pair (.int .i64) (.pair (.int .i64) (.bool)))))) (.pair (.st (.pair (.int .i64) (.pair (.int .i64) (.pair (.int .i64) (.pair (.int .i64) (.bool)))))) (.pair (.int .i64) (.pair (.u8) (.pair (.bool) (.slice (.u8))))))))))))),
  some (.st (.pair (.int .i64) (.pair (.int .i64) (.pair (.u8) (.pair (.u8) (.pair (.st (.pair (.int .i64) (.pair (.int .i64) (.pair (.int .i64) (.pair (.int .i64) (.bool)))))) (.pair (.st (.pair (.int .i64) (.pair (.int .i64) (.pair (.int .i64) (.pair (.int .i64) (.bool)))))) (.pair (.int .i64) (.pair (.u8) (.pair (.bool) (.slice (.u8)))))))))))),
  some (.st (.pair (.int .i64) (.pair (.int .i64) (.pair (.u8) (.pair (.u8) (.pair (.st (.pair (.int .i64) (.pair (.int .i64) (.pair (.int .i64) (.pair (.int .i64) (.bool)))))) (.pair (.st (.pair (.int .i64) (.pair (.int .i64) (.pair (.int .i64) (.pair (.int .i64) (.bool)))))) (.pair (.int .i64) (.pair (.u8) (.pair (.bool) (.slice (.u8)))))))))))),
  none,
  none,
  none,
  none,
  none,
  none,
  none,
  some (.nptr),
  some (.st (.pair (.st (.pair (.str) (.pair (.str) (.pair (.u8) (.pair (.bool) (.pair (.int .i64) (.pair (.slice (.st (.pair (.str) (.pair (.int .i64) (.pair (.int .i64) (.pair (.int .i64) (.pair (.int .i64) (.pair (.u8) (.bool))))))))) (.pair (.slice (.st (.pair (.int .i64) (.pair (.st (.pair (.int .i64) (.int .i64))) (.pair (.str) (.pair (.u8) (.pair (.str) (.slice (.st (.slice (.st (.pair (.str) (.pair (.st (.pair (.u8) (.pair (.bool) (.bool)))) (.str)))))))))))))) (.slice (.st (.pair (.int .i64) (.pair (.int .i64) (.pair (.int .i64) (.pair (.int .i64) (.pair (.str) (.pair (.str) (.pair (.bool) (.bool)))))))))))))))))) (.int .i64))),
  some (.st (.pair (.st (.pair (.str) (.pair (.str) (.pair (.u8) (.pair (.bool) (.pair (.int .i64) (.pair (.slice (.st (.pair (.str) (.pair (.int .i64) (.pair (.int .i64) (.pair (.int .i64) (.pair (.int .i64) (.pair (.u8) (.bool))))))))) (.pair (.slice (.st (.pair (.int .i64) (.pair (.st (.pair (.int .i64) (.int .i64))) (.pair (.str) (.pair (.u8) (.pair (.str) (.slice (.st (.slice (.st (.pair (.str) (.pair (.st (.pair (.u8) (.pair (.bool) (.bool)))) (.str)))))))))))))) (.slice (.st (.pair (.int .i64) (.pair (.int .i64) (.pair (.int .i64) (.pair (.int .i64) (.pair (.str) (.pair (.str) (.pair (.bool) (.bool)))))))))))))))))) (.int .i64))),
  none,
  none,
  none,
  some (.nptr),
  none,
  none,
  some (.slice (.st (.pair (.int .i64) (.pair (.int .i64) (.int .i64))))),
  none,
  none,
  none,
  none,
  some (.st (.pair (.int .i64) (.pair (.int .i64) (.int .i64)))),
  some (.st (.pair (.int .i64) (.pair (.int .i64) (.int .i64)))),
  none,
  none,
  none,
  none,
  none,
  none,
  none,
  none,
  none,
  none,
  none,
  some (.slice (.int .i64)),
  none,
  none,
  none,
  none,
  none,
  none,
  some (.arr 7 (.u8)),
  none,
  some (.slice (.u8)),
  none,
  none,
  none,
  none,
  some (.arr 2 (.int .i32)),
  none,
  none,
  none,
  none,
  none,
  none,
  none,
  none,
  none,
  none,
  none,
  none,
  none,
  none,
  none,
  none,
  none,
  none,
  none,
  some (.st (.pair (.str) (.pair (.int .i64) (.pair (.int .i64) (.bool))))),
  some (.st (.pair (.str) (.pair (.int .i64) (.pair (.int .i64) (.bool))))),
  none,
  none,
  none,
  none,
  none,
  none,
  none,
  some (.slice (.str)),
  none,
  none,
  none,
  none,
  none,
  none,
  some (.slice (.int .i32)),
  none,
  none,
  none,
  none,
  none,
  none,
  none,
  none,
  none,
  none,
  some (.int .u64),
  none,
  none,
  none,
  none,
  none,
  none,
  none,
  none,
  none,
  none,
  none,
  some (.arr 8 (.st (.pair (.str) (.pair (.int .i64) (.pair (.int .i64) (.bool)))))),
  none,
  none,
  none,
  some (.arr 256 (.u8)),
  some (.st (.pair (.u8) (.u8))),
  some (.st (.pair (.u8) (.u8))),
  some (.arr 16 (.st (.pair (.u8) (.u8)))),
  none,
  some (.nptr),
  some (.st (.pair (.nptr) (.slice (.u8)))),
  some (.st (.pair (.nptr) (.slice (.u8)))),
  some (.nif),
  some (.nif),
  none,
  none,
  none,
  some (.arr 2 (.st (.pair (.int .i64) (.pair (.int .i64) (.pair (.int .i64) (.pair (.int .i64) (.bool))))))),
  none,
  none,
  none,
  none,
  some (.arr 256 (.bool)),
  some (.arr 256 (.bool)),
  none,
  none,
  none,
  some (.nptr),
  none,
  none,
  none,
  none,
  none,
  none,
  some (.arr 24 (.u8)),
  some (.int .u64),
  none,
  none,
  none,
  none,
  some (.nptr),
  none,
  none,
  some (.int .u32),
  none,
  none,
  none,
  none,
  none,
  none,
  some (.arr 20 (.int .u64)),
  some (.arr 65 (.u8)),
  none,
  none,
  none,
  none,
  none,
  none,
  none,
  some (.arr 32 (.u8)),
  some (.arr 64 (.u8)),
  none,
  none,
  none,
  none,
  none,
  none,
  none,
  none,
  none,
  none,
  none,
  none,
  none]
def gl0 : List UInt8 := Go.Pinned.utf8FirstZ.map fun n => UInt8.ofNat n
def gl1 : List (UInt8 × UInt8) := [(128, 191), (160, 191), (128, 159), (144, 191), (128, 143), (0, 0), (0, 0), (0, 0), (0, 0), (0, 0), (0, 0), (0, 0), (0, 0), (0, 0), (0, 0), (0, 0)]
noncomputable def E : Env := ⟨Tryz.prog, tt, [(0, ⟨.arr 256 (.u8), gl0⟩), (1, ⟨.arr 16 (.st (.pair (.u8) (.u8))), gl1⟩)], some 225, some (217, 230), [2]⟩
set_option maxRecDepth 100000 in
theorem chk : chkAll E 0 E.ty = true := by kernel_rfl
theorem mixed : E.P.follows .mixedOrders = true := by kernel_rfl
end
end Go.Mo
end

section
/-
  What the functions of the program compute, on plain values. Printed by a program.
-/
namespace Go.Mo
open Go Go.W
noncomputable section
def ps_utf8_word_string : List PK := [.k (.v (.str) [])]
def rs_utf8_word_string : List Kd := [.v (.int .u64) []]
def utf8_word_string (N : Nat) (x : List UInt8) : Option (Int) :=
 grd (inb (0 : Int) (len x)) <|
 grd (inb (1 : Int) (len x)) <|
 grd (inb (2 : Int) (len x)) <|
 grd (inb (3 : Int) (len x)) <|
 grd (inb (4 : Int) (len x)) <|
 grd (inb (5 : Int) (len x)) <|
 grd (inb (6 : Int) (len x)) <|
 grd (inb (7 : Int) (len x)) <|
 some (bitb .or .u64 (bitb .or .u64 (bitb .or .u64 (bitb .or .u64 (bitb .or .u64 (bitb .or .u64 (bitb .or .u64 (wr .u64 (n8 (lget x (toN (0 : Int)) (0 : UInt8)))) (wr .u64 (shlk .u64 (wr .u64 (n8 (lget x (toN (1 : Int)) (0 : UInt8)))) (8 : Int)))) (wr .u64 (shlk .u64 (wr .u64 (n8 (lget x (toN (2 : Int)) (0 : UInt8)))) (16 : Int)))) (wr .u64 (shlk .u64 (wr .u64 (n8 (lget x (toN (3 : Int)) (0 : UInt8)))) (24 : Int)))) (wr .u64 (shlk .u64 (wr .u64 (n8 (lget x (toN (4 : Int)) (0 : UInt8)))) (32 : Int)))) (wr .u64 (shlk .u64 (wr .u64 (n8 (lget x (toN (5 : Int)) (0 : UInt8)))) (40 : Int)))) (wr .u64 (shlk .u64 (wr .u64 (n8 (lget x (toN (6 : Int)) (0 : UInt8)))) (48 : Int)))) (wr .u64 (shlk .u64 (wr .u64 (n8 (lget x (toN (7 : Int)) (0 : UInt8)))) (56 : Int))))
def ps_utf8_ValidString : List PK := [.k (.v (.str) [])]
def rs_utf8_ValidString : List Kd := [.v (.bool) []]
def utf8_ValidString (N : Nat) (x : List UInt8) : Option (Bool) := hand_utf8_ValidString N x
def ps_charset_place : List PK := [.k (.v (.str) []), .k (.v (.int .i32) [])]
def rs_charset_place : List Kd := [.v (.int .i64) []]
def charset_place (N : Nat) (x : List UInt8 × Int) : Option (Int) :=
 jn (fun (v0 : Unit) =>
  some (-1 : Int))
 fun v1 =>
 fixN (fun v2 (v3 : Int × (List UInt8) × Int) =>
  cnd (nlt (toN v3.2.2) (nlen v3.2.1))
   (cnd (ieq (decR v3.2.1 (toN v3.2.2)) x.2)
    (some v3.1)
    (v2 (w64 (iadd v3.1 (1 : Int)), v3.2.1, ofN (nadd (toN v3.2.2) (decW v3.2.1 (toN v3.2.2))))))
   (v1 ())) N ((0 : Int), x.1, ofN 0)
def ps_charset_Index : List PK := [.k (.v (.int .i32) [])]
def rs_charset_Index : List Kd := [.v (.int .i64) []]
def charset_Index (N : Nat) (x : Int) : Option (Int) :=
 cnd (ile (32 : Int) x)
  (cnd (ile x (126 : Int))
   (some (w64 (wr .i32 (isub x (32 : Int)))))
   (bnd (charset_place N (([32, 33, 34, 35, 36, 37, 38, 39, 40, 41, 42, 43, 44, 45, 46, 47, 48, 49, 50, 51, 52, 53, 54, 55, 56, 57, 58, 59, 60, 61, 62, 63, 64, 65, 66, 67, 68, 69, 70, 71, 72, 73, 74, 75, 76, 77, 78, 79, 80, 81, 82, 83, 84, 85, 86, 87, 88, 89, 90, 91, 92, 93, 94, 95, 96, 97, 98, 99, 100, 101, 102, 103, 104, 105, 106, 107, 108, 109, 110, 111, 112, 113, 114, 115, 116, 117, 118, 119, 120, 121, 122, 123, 124, 125, 126, 194, 161, 194, 162, 194, 163, 194, 164, 194, 165, 194, 166, 194, 167, 194, 169, 194, 171, 194, 174, 194, 176, 194, 183, 194, 187, 194, 189, 194, 191, 195, 128, 195, 129, 195, 130, 195, 131, 195, 132, 195, 133, 195, 134, 195, 135, 195, 136, 195, 137, 195, 138, 195, 139, 195, 140, 195, 141, 195, 142, 195, 143, 195, 145, 195, 146, 195, 147, 195, 148, 195, 149, 195, 150, 195, 152, 195, 153, 195, 154, 195, 155, 195, 156, 195, 159, 195, 160, 195, 161, 195, 162, 195, 163, 195, 164, 195, 165, 195, 166, 195, 167, 195, 168, 195, 169, 195, 170, 195, 171, 195, 172, 195, 173, 195, 174, 195, 175, 195, 177, 195, 178, 195, 179, 195, 180, 195, 181, 195, 182, 195, 184, 195, 185, 195, 186, 195, 187, 195, 188, 197, 146, 197, 147, 226, 128, 148, 226, 128, 152, 226, 128, 153, 226, 128, 156, 226, 128, 157, 226, 128, 162, 226, 128, 166, 226, 132, 162, 226, 153, 170] : List UInt8), x)) fun v0 =>
   some v0))
  (bnd (charset_place N (([32, 33, 34, 35, 36, 37, 38, 39, 40, 41, 42, 43, 44, 45, 46, 47, 48, 49, 50, 51, 52, 53, 54, 55, 56, 57, 58, 59, 60, 61, 62, 63, 64, 65, 66, 67, 68, 69, 70, 71, 72, 73, 74, 75, 76, 77, 78, 79, 80, 81, 82, 83, 84, 85, 86, 87, 88, 89, 90, 91, 92, 93, 94, 95, 96, 97, 98, 99, 100, 101, 102, 103, 104, 105, 106, 107, 108, 109, 110, 111, 112, 113, 114, 115, 116, 117, 118, 119, 120, 121, 122, 123, 124, 125, 126, 194, 161, 194, 162, 194, 163, 194, 164, 194, 165, 194, 166, 194, 167, 194, 169, 194, 171, 194, 174, 194, 176, 194, 183, 194, 187, 194, 189, 194, 191, 195, 128, 195, 129, 195, 130, 195, 131, 195, 132, 195, 133, 195, 134, 195, 135, 195, 136, 195, 137, 195, 138, 195, 139, 195, 140, 195, 141, 195, 142, 195, 143, 195, 145, 195, 146, 195, 147, 195, 148, 195, 149, 195, 150, 195, 152, 195, 153, 195, 154, 195, 155, 195, 156, 195, 159, 195, 160, 195, 161, 195, 162, 195, 163, 195, 164, 195, 165, 195, 166, 195, 167, 195, 168, 195, 169, 195, 170, 195, 171, 195, 172, 195, 173, 195, 174, 195, 175, 195, 177, 195, 178, 195, 179, 195, 180, 195, 181, 195, 182, 195, 184, 195, 185, 195, 186, 195, 187, 195, 188, 197, 146, 197, 147, 226, 128, 148, 226, 128, 152, 226, 128, 153, 226, 128, 156, 226, 128, 157, 226, 128, 162, 226, 128, 166, 226, 132, 162, 226, 153, 170] : List UInt8), x)) fun v1 =>
  some v1)
def ps_charset_Valid : List PK := [.k (.v (.str) [])]
def rs_charset_Valid : List Kd := [.v (.bool) []]
def charset_Valid (N : Nat) (x : List UInt8) : Option (Bool) :=
 bnd (utf8_ValidString N x) fun v0 =>
 cnd (bnot v0)
  (some false)
  (jn (fun (v1 : Unit) =>
   some true)
  fun v2 =>
  fixN (fun v3 (v4 : (List UInt8) × Int) =>
   cnd (nlt (toN v4.2) (nlen v4.1))
    (bnd (charset_Index N (decR v4.1 (toN v4.2))) fun v5 =>
    cnd (ilt v5 (0 : Int))
     (some false)
     (v3 (v4.1, ofN (nadd (toN v4.2) (decW v4.1 (toN v4.2))))))
    (v2 ())) N (x, ofN 0))
def ps_style_Valid : List PK := [.k (.v (.st (.pair (.u8) (.pair (.bool) (.bool)))) [])]
def rs_style_Valid : List Kd := [.v (.bool) []]
def style_Valid (N : Nat) (x : UInt8 × Bool × Bool) : Option (Bool) :=
 some (ile (n8 x.1) (n8 (6 : UInt8)))
def ps_style_alike : List PK := [.k (.v (.st (.pair (.str) (.pair (.st (.pair (.u8) (.pair (.bool) (.bool)))) (.str)))) []), .k (.v (.st (.pair (.str) (.pair (.st (.pair (.u8) (.pair (.bool) (.bool)))) (.str)))) [])]
def rs_style_alike : List Kd := [.v (.bool) []]
def style_alike (N : Nat) (x : ((List UInt8) × (UInt8 × Bool × Bool) × List UInt8) × (List UInt8) × (UInt8 × Bool × Bool) × List UInt8) : Option (Bool) :=
 cnd (band (ieq (n8 x.1.2.1.1) (n8 x.2.2.1.1)) (band (beqb x.1.2.1.2.1 x.2.2.1.2.1) (beqb x.1.2.1.2.2 x.2.2.1.2.2)))
  (cnd (seq x.1.2.2 ([] : List UInt8))
   (some (seq x.2.2.2 ([] : List UInt8)))
   (some false))
  (some false)
def ps_style_Check : List PK := [.k (.v (.st (.slice (.st (.pair (.str) (.pair (.st (.pair (.u8) (.pair (.bool) (.bool)))) (.str)))))) [])]
def rs_style_Check : List Kd := [.v (.int .i64) []]
def style_Check (N : Nat) (x : List ((List UInt8) × (UInt8 × Bool × Bool) × List UInt8)) : Option (Int) :=
 cnd (ilt (16 : Int) (len x))
  (some (9 : Int))
  (jn (fun (v0 : Unit) =>
   some (0 : Int))
  fun v1 =>
  fixN (fun v2 (v3 : Int) =>
   cnd (ilt v3 (len x))
    (grd (inb v3 (len x))
     (bnd (charset_Valid N (lget x (toN v3) ([], (((0 : UInt8), (false, false)), []))).1) fun v4 =>
     cnd (bnot v4)
      (some (10 : Int))
      (cnd (seq (lget x (toN v3) ([], (((0 : UInt8), (false, false)), []))).1 ([] : List UInt8))
       (some (4 : Int))
       (bnd (style_Valid N (lget x (toN v3) ([], (((0 : UInt8), (false, false)), []))).2.1) fun v5 =>
       cnd (bnot v5)
        (some (12 : Int))
        (bnd (charset_Valid N (lget x (toN v3) ([], (((0 : UInt8), (false, false)), []))).2.2) fun v6 =>
        cnd (bnot v6)
         (some (10 : Int))
         (cnd (ilt (0 : Int) v3)
          (grd (inb (w64 (isub v3 (1 : Int))) (len x))
           (bnd (style_alike N (lget x (toN (w64 (isub v3 (1 : Int)))) ([], (((0 : UInt8), (false, false)), [])), lget x (toN v3) ([], (((0 : UInt8), (false, false)), [])))) fun v7 =>
           cnd v7
            (some (8 : Int))
            (v2 (w64 (iadd v3 (1 : Int))))))
          (v2 (w64 (iadd v3 (1 : Int))))))))))
    (v1 ())) N (0 : Int))
def ps_stl_colorByte : List PK := [.k (.v (.u8) [])]
def rs_stl_colorByte : List Kd := [.v (.u8) []]
def stl_colorByte (N : Nat) (x : UInt8) : Option (UInt8) :=
 grd (inb (n8 x) (ofN 7)) <|
 some (lget ([7, 2, 4, 6, 1, 3, 5] : List UInt8) (toN (n8 x)) (0 : UInt8))
def ps_stl_on : List PK := [.k (.v (.bool) []), .k (.v (.u8) []), .k (.v (.u8) [])]
def rs_stl_on : List Kd := [.v (.u8) []]
def stl_on (N : Nat) (x : Bool × UInt8 × UInt8) : Option (UInt8) :=
 cnd x.1
  (some x.2.1)
  (some x.2.2)
def ps_latin_Carries : List PK := [.k (.v (.int .i32) [])]
def rs_latin_Carries : List Kd := [.v (.bool) []]
def latin_Carries (N : Nat) (x : Int) : Option (Bool) :=
 bnd (charset_Index N x) fun v0 =>
 some (ile (0 : Int) v0)
def ps_latin_accented : List PK := [.k (.v (.u8) [])]
def rs_latin_accented : List Kd := [.v (.str) []]
def latin_accented (N : Nat) (x : UInt8) : Option (List UInt8) :=
 cnd (ieq (n8 x) (n8 (193 : UInt8)))
  (some ([195, 128, 195, 136, 195, 140, 195, 146, 195, 153] : List UInt8))
  (cnd (ieq (n8 x) (n8 (194 : UInt8)))
   (some ([195, 129, 195, 137, 195, 141, 195, 147, 195, 154] : List UInt8))
   (cnd (ieq (n8 x) (n8 (195 : UInt8)))
    (some ([195, 130, 195, 138, 195, 142, 195, 148, 195, 155] : List UInt8))
    (cnd (ieq (n8 x) (n8 (196 : UInt8)))
     (some ([195, 131, 195, 145, 195, 149] : List UInt8))
     (cnd (ieq (n8 x) (n8 (200 : UInt8)))
      (some ([195, 132, 195, 139, 195, 143, 195, 150, 195, 156] : List UInt8))
      (cnd (ieq (n8 x) (n8 (202 : UInt8)))
       (some ([195, 133] : List UInt8))
       (cnd (ieq (n8 x) (n8 (203 : UInt8)))
        (some ([195, 135] : List UInt8))
        (some ([] : List UInt8))))))))
def ps_charset_Upper : List PK := [.k (.v (.int .i32) [])]
def rs_charset_Upper : List Kd := [.v (.int .i32) []]
def charset_Upper (N : Nat) (x : Int) : Option (Int) :=
 bnd (charset_Index N x) fun v0 =>
 cnd (ilt v0 (0 : Int))
  (some (0 : Int))
  (jn (fun (v1 : Bool) =>
   cnd v1
    (some (wr .i32 (isub x (32 : Int))))
    (cnd (ieq x (339 : Int))
     (some (338 : Int))
     (some x)))
  fun v2 =>
  cnd (ile (97 : Int) x)
   (cnd (ile x (122 : Int))
    (v2 (ile x (122 : Int)))
    (cnd (ile (224 : Int) x)
     (v2 (ile x (255 : Int)))
     (v2 false)))
   (cnd (ile (224 : Int) x)
    (v2 (ile x (255 : Int)))
    (v2 false)))
def ps_bytealg_IndexByteString : List PK := [.k (.v (.str) []), .k (.v (.u8) [])]
def rs_bytealg_IndexByteString : List Kd := [.v (.int .i64) []]
def bytealg_IndexByteString (N : Nat) (x : List UInt8 × UInt8) : Option (Int) := hand_bytealg_IndexByteString N x
def ps_stringslite_IndexByte : List PK := [.k (.v (.str) []), .k (.v (.u8) [])]
def rs_stringslite_IndexByte : List Kd := [.v (.int .i64) []]
def stringslite_IndexByte (N : Nat) (x : List UInt8 × UInt8) : Option (Int) :=
 bnd (bytealg_IndexByteString N x) fun v0 =>
 some v0
def ps_strings_IndexByte : List PK := [.k (.v (.str) []), .k (.v (.u8) [])]
def rs_strings_IndexByte : List Kd := [.v (.int .i64) []]
def strings_IndexByte (N : Nat) (x : List UInt8 × UInt8) : Option (Int) :=
 bnd (stringslite_IndexByte N x) fun v0 =>
 some v0
def ps_utf8_ValidRune : List PK := [.k (.v (.int .i32) [])]
def rs_utf8_ValidRune : List Kd := [.v (.bool) []]
def utf8_ValidRune (N : Nat) (x : Int) : Option (Bool) :=
 cnd (ile (0 : Int) x)
  (cnd (ilt x (55296 : Int))
   (some true)
   (cnd (ilt (57343 : Int) x)
    (cnd (ile x (1114111 : Int))
     (some true)
     (some false))
    (some false)))
  (cnd (ilt (57343 : Int) x)
   (cnd (ile x (1114111 : Int))
    (some true)
    (some false))
   (some false))
def ps_bytealg_Cutover : List PK := [.k (.v (.int .i64) [])]
def rs_bytealg_Cutover : List Kd := [.v (.int .i64) []]
def bytealg_Cutover (N : Nat) (x : Int) : Option (Int) :=
 some (w64 (idiv (w64 (iadd x (16 : Int))) (8 : Int)))
def ps_strings_IndexRune : List PK := [.k (.v (.str) []), .k (.v (.int .i32) [])]
def rs_strings_IndexRune : List Kd := [.v (.int .i64) []]
def strings_IndexRune (N : Nat) (x : List UInt8 × Int) : Option (Int) :=
 jn (fun (v0 : Bool) =>
  cnd v0
   (bnd (strings_IndexByte N (x.1, b8 x.2)) fun v1 =>
   some v1)
   (cnd (ieq x.2 (65533 : Int))
    (jn (fun (v2 : Unit) =>
     some (-1 : Int))
    fun v3 =>
    fixN (fun v4 (v5 : (List UInt8) × Int) =>
     cnd (nlt (toN v5.2) (nlen v5.1))
      (cnd (ieq (decR v5.1 (toN v5.2)) (65533 : Int))
       (some (ofN (toN v5.2)))
       (v4 (v5.1, ofN (nadd (toN v5.2) (decW v5.1 (toN v5.2))))))
      (v3 ())) N (x.1, ofN 0))
    (bnd (utf8_ValidRune N x.2) fun v6 =>
    cnd (bnot v6)
     (some (-1 : Int))
     (jn (fun (v7 : Unit) =>
      some (-1 : Int))
     fun v8 =>
     fixN (fun v9 (v10 : Int × Int) =>
      cnd (ilt v10.1 (len x.1))
       (jn (fun (v11 : Int) =>
        jn (fun (v12 : Unit) =>
         some (w64 (isub v11 (w64 (isub (len (enc x.2)) (1 : Int))))))
        fun v13 =>
        fixN (fun v14 (v15 : Int) =>
         cnd (ilt v15 (len (enc x.2)))
          (grd (inb (w64 (isub v11 v15)) (len x.1))
           (grd (inb (w64 (isub (w64 (isub (len (enc x.2)) (1 : Int))) v15)) (len (enc x.2)))
            (cnd (ine (n8 (lget x.1 (toN (w64 (isub v11 v15))) (0 : UInt8))) (n8 (lget (enc x.2) (toN (w64 (isub (w64 (isub (len (enc x.2)) (1 : Int))) v15))) (0 : UInt8))))
             (bnd (bytealg_Cutover N (w64 (iadd v11 (1 : Int)))) fun v16 =>
             cnd (ilt v16 (w64 (iadd v10.2 (1 : Int))))
              (cnd (ilt (w64 (iadd v11 (1 : Int))) (len x.1))
               (grd (in2 (w64 (isub (w64 (iadd v11 (1 : Int))) (w64 (isub (len (enc x.2)) (1 : Int))))) (len x.1))
                none)
               (v9 (w64 (iadd v11 (1 : Int)), w64 (iadd v10.2 (1 : Int)))))
              (v9 (w64 (iadd v11 (1 : Int)), w64 (iadd v10.2 (1 : Int)))))
             (v14 (w64 (iadd v15 (1 : Int)))))))
          (v13 ())) N (1 : Int))
       fun v17 =>
       grd (inb v10.1 (len x.1)) <|
       grd (inb (w64 (isub (len (enc x.2)) (1 : Int))) (len (enc x.2))) <|
       cnd (ine (n8 (lget x.1 (toN v10.1) (0 : UInt8))) (n8 (lget (enc x.2) (toN (w64 (isub (len (enc x.2)) (1 : Int)))) (0 : UInt8))))
        (grd (in2 (w64 (iadd v10.1 (1 : Int))) (len x.1))
         (grd (inb (w64 (isub (len (enc x.2)) (1 : Int))) (len (enc x.2)))
          (bnd (strings_IndexByte N (ldrop (toN (w64 (iadd v10.1 (1 : Int)))) x.1, lget (enc x.2) (toN (w64 (isub (len (enc x.2)) (1 : Int)))) (0 : UInt8))) fun v18 =>
          cnd (ilt v18 (0 : Int))
           (some (-1 : Int))
           (v17 (w64 (iadd v10.1 (w64 (iadd v18 (1 : Int)))))))))
        (v17 v10.1))
       (v8 ())) N (w64 (isub (len (enc x.2)) (1 : Int)), (0 : Int))))))
 fun v19 =>
 cnd (ile (0 : Int) x.2)
  (v19 (ilt x.2 (128 : Int)))
  (v19 false)
def ps_strings_ContainsRune : List PK := [.k (.v (.str) []), .k (.v (.int .i32) [])]
def rs_strings_ContainsRune : List Kd := [.v (.bool) []]
def strings_ContainsRune (N : Nat) (x : List UInt8 × Int) : Option (Bool) :=
 bnd (strings_IndexRune N x) fun v0 =>
 some (ile (0 : Int) v0)
def ps_charset_Base : List PK := [.k (.v (.int .i32) [])]
def rs_charset_Base : List Kd := [.v (.int .i32) []]
def charset_Base (N : Nat) (x : Int) : Option (Int) :=
 bnd (charset_Index N x) fun v0 =>
 cnd (ilt v0 (0 : Int))
  (some (0 : Int))
  (cnd (ilt v0 (95 : Int))
   (some x)
   (grd (inb (w64 (isub v0 (95 : Int))) (len ([33, 99, 76, 36, 89, 124, 83, 67, 34, 82, 111, 46, 34, 50, 63, 65, 65, 65, 65, 65, 65, 65, 67, 69, 69, 69, 69, 73, 73, 73, 73, 78, 79, 79, 79, 79, 79, 79, 85, 85, 85, 85, 115, 97, 97, 97, 97, 97, 97, 97, 99, 101, 101, 101, 101, 105, 105, 105, 105, 110, 111, 111, 111, 111, 111, 111, 117, 117, 117, 117, 79, 111, 45, 39, 39, 34, 34, 46, 46, 84, 35] : List UInt8)))
    (some (wr .i32 (n8 (lget ([33, 99, 76, 36, 89, 124, 83, 67, 34, 82, 111, 46, 34, 50, 63, 65, 65, 65, 65, 65, 65, 65, 67, 69, 69, 69, 69, 73, 73, 73, 73, 78, 79, 79, 79, 79, 79, 79, 85, 85, 85, 85, 115, 97, 97, 97, 97, 97, 97, 97, 99, 101, 101, 101, 101, 105, 105, 105, 105, 110, 111, 111, 111, 111, 111, 111, 117, 117, 117, 117, 79, 111, 45, 39, 39, 34, 34, 46, 46, 84, 35] : List UInt8) (toN (w64 (isub v0 (95 : Int)))) (0 : UInt8)))))))
def ps_latin_Put : List PK := [.k (.v (.int .i32) [])]
def rs_latin_Put : List Kd := [.v (.slice (.u8)) [0]]
def latin_Put (N : Nat) (x : Int) : Option (List UInt8) :=
 bnd (latin_Carries N x) fun v0 =>
 cnd (bnot v0)
  (some ([] : List UInt8))
  (cnd (ilt x (127 : Int))
   (some ([b8 x] : List UInt8))
   (jn (fun (v1 : Unit) =>
    jn (fun (v2 : Unit) =>
     some ([] : List UInt8))
    fun v3 =>
    fixN (fun v4 (v5 : UInt8) =>
     cnd (ile (n8 v5) (n8 (203 : UInt8)))
      (bnd (latin_accented N v5) fun v6 =>
      bnd (charset_Upper N x) fun v7 =>
      bnd (strings_ContainsRune N (v6, v7)) fun v8 =>
      cnd v8
       (bnd (charset_Base N x) fun v9 =>
       some ([v5, b8 v9] : List UInt8))
       (v4 (b8 (iadd (n8 v5) (n8 (1 : UInt8))))))
      (v3 ())) N (193 : UInt8))
   fun v10 =>
   fixN (fun v11 (v12 : Int × (List UInt8) × Int) =>
    cnd (nlt (toN v12.2.2) (nlen v12.2.1))
     (cnd (ieq (decR v12.2.1 (toN v12.2.2)) x)
      (grd (inb v12.1 (len ([161, 162, 163, 164, 165, 166, 167, 168, 169, 170, 171, 172, 173, 174, 175, 176, 180, 183, 185, 186, 187, 189, 191, 213, 225, 233, 234, 241, 249, 250, 251] : List UInt8)))
       (some ([lget ([161, 162, 163, 164, 165, 166, 167, 168, 169, 170, 171, 172, 173, 174, 175, 176, 180, 183, 185, 186, 187, 189, 191, 213, 225, 233, 234, 241, 249, 250, 251] : List UInt8) (toN v12.1) (0 : UInt8)] : List UInt8)))
      (v11 (w64 (iadd v12.1 (1 : Int)), v12.2.1, ofN (nadd (toN v12.2.2) (decW v12.2.1 (toN v12.2.2))))))
     (v10 ())) N ((0 : Int), ([194, 161, 194, 162, 194, 163, 194, 164, 194, 165, 194, 166, 194, 167, 194, 169, 226, 128, 152, 226, 128, 156, 194, 171, 194, 174, 226, 128, 148, 226, 128, 162, 226, 128, 166, 194, 176, 226, 132, 162, 194, 183, 226, 128, 153, 226, 128, 157, 194, 187, 194, 189, 194, 191, 226, 153, 170, 195, 134, 195, 152, 197, 146, 195, 166, 195, 184, 197, 147, 195, 159] : List UInt8), ofN 0)))
def ps_latin_Encode : List PK := [.k (.v (.str) [])]
def rs_latin_Encode : List Kd := [.v (.slice (.u8)) [0], .v (.int .i64) []]
def latin_Encode (N : Nat) (x : List UInt8) : Option (List UInt8 × Int) :=
 bnd (charset_Valid N x) fun v0 =>
 cnd (bnot v0)
  (some (([] : List UInt8), (10 : Int)))
  (jn (fun (v1 : List UInt8) =>
   some (v1, (0 : Int)))
  fun v2 =>
  fixN (fun v3 (v4 : (List UInt8) × (List UInt8) × Int) =>
   cnd (nlt (toN v4.2.2) (nlen v4.2.1))
    (bnd (latin_Put N (decR v4.2.1 (toN v4.2.2))) fun v5 =>
    grd (room (iadd (len v4.1) (len v5)) 1) <|
    v3 (lapp v4.1 v5, v4.2.1, ofN (nadd (toN v4.2.2) (decW v4.2.1 (toN v4.2.2)))))
    (v2 v4.1)) N (([] : List UInt8), x, ofN 0))
def ps_stl_Text : List PK := [.k (.v (.slice (.st (.slice (.st (.pair (.str) (.pair (.st (.pair (.u8) (.pair (.bool) (.bool)))) (.str))))))) [])]
def rs_stl_Text : List Kd := [.v (.slice (.u8)) [0], .v (.int .i64) []]
def stl_Text (N : Nat) (x : List (List ((List UInt8) × (UInt8 × Bool × Bool) × List UInt8))) : Option (List UInt8 × Int) :=
 jn (fun (v0 : List UInt8) =>
  some (v0, (0 : Int)))
 fun v1 =>
 fixN (fun v2 (v3 : (List UInt8) × Int) =>
  cnd (ilt v3.2 (len x))
   (jn (fun (v4 : List UInt8) =>
    v2 (v4, w64 (iadd v3.2 (1 : Int))))
   fun v5 =>
   grd (inb v3.2 (len x)) <|
   bnd (style_Check N (lget x (toN v3.2) [])) fun v6 =>
   cnd (ine v6 (0 : Int))
    (some (([] : List UInt8), v6))
    (jn (fun (v7 : List UInt8) =>
     fixN (fun v8 (v9 : (List UInt8) × Int × UInt8 × Bool × Bool) =>
      cnd (ilt v9.2.1 (len (lget x (toN v3.2) [])))
       (grd (inb v9.2.1 (len (lget x (toN v3.2) [])))
        (jn (fun (v10 : List UInt8) =>
         jn (fun (v11 : List UInt8) =>
          jn (fun (v12 : List UInt8) =>
           bnd (latin_Encode N (lget (lget x (toN v3.2) []) (toN v9.2.1) ([], (((0 : UInt8), (false, false)), []))).1) fun v13 =>
           grd (room (iadd (len v12) (len v13.1)) 1) <|
           v8 (lapp v12 v13.1, w64 (iadd v9.2.1 (1 : Int)), (lget (lget x (toN v3.2) []) (toN v9.2.1) ([], (((0 : UInt8), (false, false)), []))).2.1))
          fun v14 =>
          cnd (bneb (lget (lget x (toN v3.2) []) (toN v9.2.1) ([], (((0 : UInt8), (false, false)), []))).2.1.2.2 v9.2.2.2.2)
           (bnd (stl_on N ((lget (lget x (toN v3.2) []) (toN v9.2.1) ([], (((0 : UInt8), (false, false)), []))).2.1.2.2, (130 : UInt8), (131 : UInt8))) fun v15 =>
           grd (room (iadd (len v11) (len ([v15] : List UInt8))) 1) <|
           v14 (lapp v11 ([v15] : List UInt8)))
           (v14 v11))
         fun v16 =>
         cnd (bneb (lget (lget x (toN v3.2) []) (toN v9.2.1) ([], (((0 : UInt8), (false, false)), []))).2.1.2.1 v9.2.2.2.1)
          (bnd (stl_on N ((lget (lget x (toN v3.2) []) (toN v9.2.1) ([], (((0 : UInt8), (false, false)), []))).2.1.2.1, (128 : UInt8), (129 : UInt8))) fun v17 =>
          grd (room (iadd (len v10) (len ([v17] : List UInt8))) 1) <|
          v16 (lapp v10 ([v17] : List UInt8)))
          (v16 v10))
        fun v18 =>
        cnd (ine (n8 (lget (lget x (toN v3.2) []) (toN v9.2.1) ([], (((0 : UInt8), (false, false)), []))).2.1.1) (n8 v9.2.2.1))
         (bnd (stl_colorByte N (lget (lget x (toN v3.2) []) (toN v9.2.1) ([], (((0 : UInt8), (false, false)), []))).2.1.1) fun v19 =>
         grd (room (iadd (len v9.1) (len ([v19] : List UInt8))) 1) <|
         v18 (lapp v9.1 ([v19] : List UInt8)))
         (v18 v9.1)))
       (v5 v9.1)) N (v7, (0 : Int), (0 : UInt8), false, false))
    fun v20 =>
    cnd (ilt (0 : Int) v3.2)
     (grd (room (iadd (len v3.1) (len ([138] : List UInt8))) 1)
      (v20 (lapp v3.1 ([138] : List UInt8))))
     (v20 v3.1)))
   (v1 v3.1)) N (([] : List UInt8), (0 : Int))
def ps_slices_Equal_Lbyte_byte : List PK := [.k (.v (.slice (.u8)) []), .k (.v (.slice (.u8)) [])]
def rs_slices_Equal_Lbyte_byte : List Kd := [.v (.bool) []]
def slices_Equal_Lbyte_byte (N : Nat) (x : List UInt8 × List UInt8) : Option (Bool) :=
 cnd (ine (len x.1) (len x.2))
  (some false)
  (jn (fun (v0 : Unit) =>
   some true)
  fun v1 =>
  fixN (fun v2 (v3 : Int) =>
   cnd (ilt v3 (len x.1))
    (grd (inb v3 (len x.1))
     (grd (inb v3 (len x.2))
      (cnd (ine (n8 (lget x.1 (toN v3) (0 : UInt8))) (n8 (lget x.2 (toN v3) (0 : UInt8))))
       (some false)
       (v2 (w64 (iadd v3 (1 : Int)))))))
    (v1 ())) N (0 : Int))
def ps_lines_Name : List PK := [.k (.v (.str) [])]
def rs_lines_Name : List Kd := [.v (.bool) []]
def lines_Name (N : Nat) (x : List UInt8) : Option (Bool) :=
 cnd (ilt (len x) (1 : Int))
  (some false)
  (cnd (ilt (16 : Int) (len x))
   (some false)
   (grd (inb (0 : Int) (len x))
    (cnd (ilt (n8 (lget x (toN (0 : Int)) (0 : UInt8))) (n8 (65 : UInt8)))
     (some false)
     (grd (inb (0 : Int) (len x))
      (cnd (ilt (n8 (90 : UInt8)) (n8 (lget x (toN (0 : Int)) (0 : UInt8))))
       (some false)
       (jn (fun (v0 : Unit) =>
        some true)
       fun v1 =>
       fixN (fun v2 (v3 : Int) =>
        cnd (ilt v3 (len x))
         (jn (fun (v4 : Unit) =>
          v2 (w64 (iadd v3 (1 : Int))))
         fun v5 =>
         grd (inb v3 (len x)) <|
         cnd (ilt (n8 (lget x (toN v3) (0 : UInt8))) (n8 (65 : UInt8)))
          (cnd (ilt (n8 (lget x (toN v3) (0 : UInt8))) (n8 (48 : UInt8)))
           (cnd (ine (n8 (lget x (toN v3) (0 : UInt8))) (n8 (95 : UInt8)))
            (cnd (ine (n8 (lget x (toN v3) (0 : UInt8))) (n8 (45 : UInt8)))
             (some false)
             (v5 ()))
            (v5 ()))
           (cnd (ilt (n8 (57 : UInt8)) (n8 (lget x (toN v3) (0 : UInt8))))
            (cnd (ine (n8 (lget x (toN v3) (0 : UInt8))) (n8 (95 : UInt8)))
             (cnd (ine (n8 (lget x (toN v3) (0 : UInt8))) (n8 (45 : UInt8)))
              (some false)
              (v5 ()))
             (v5 ()))
            (v5 ())))
          (cnd (ilt (n8 (90 : UInt8)) (n8 (lget x (toN v3) (0 : UInt8))))
           (cnd (ilt (n8 (lget x (toN v3) (0 : UInt8))) (n8 (48 : UInt8)))
            (cnd (ine (n8 (lget x (toN v3) (0 : UInt8))) (n8 (95 : UInt8)))
             (cnd (ine (n8 (lget x (toN v3) (0 : UInt8))) (n8 (45 : UInt8)))
              (some false)
              (v5 ()))
             (v5 ()))
            (cnd (ilt (n8 (57 : UInt8)) (n8 (lget x (toN v3) (0 : UInt8))))
             (cnd (ine (n8 (lget x (toN v3) (0 : UInt8))) (n8 (95 : UInt8)))
              (cnd (ine (n8 (lget x (toN v3) (0 : UInt8))) (n8 (45 : UInt8)))
               (some false)
               (v5 ()))
              (v5 ()))
             (v5 ())))
           (v5 ())))
         (v1 ())) N (0 : Int)))))))
def ps_timebase_of : List PK := [.k (.v (.u8) [])]
def rs_timebase_of : List Kd := [.v (.st (.pair (.str) (.pair (.int .i64) (.pair (.int .i64) (.bool))))) []]
def timebase_of (N : Nat) (x : UInt8) : Option ((List UInt8) × Int × Int × Bool) :=
 grd (ieq (len (lrep 8 (([] : List UInt8), (0 : Int), (0 : Int), false))) (ofN 8)) <|
 cnd (ile (8 : Int) (w64 (n8 x)))
  (some (([] : List UInt8), (0 : Int), (0 : Int), false))
  (grd (inb (n8 x) (ofN 8))
   (grd (ilt (n8 x) (len ([(([] : List UInt8), (0 : Int), (0 : Int), false), (([50, 51, 46, 57, 55, 54] : List UInt8), (5005 : Int), (24 : Int), false), (([50, 52] : List UInt8), (5000 : Int), (24 : Int), false), (([50, 53] : List UInt8), (4800 : Int), (25 : Int), false), (([50, 57, 46, 57, 55] : List UInt8), (4004 : Int), (30 : Int), true), (([51, 48] : List UInt8), (4000 : Int), (30 : Int), false), (([53, 48] : List UInt8), (2400 : Int), (50 : Int), false), (([53, 57, 46, 57, 52] : List UInt8), (2002 : Int), (60 : Int), true)] : List ((List UInt8) × Int × Int × Bool))))
    (some (lget ([(([] : List UInt8), (0 : Int), (0 : Int), false), (([50, 51, 46, 57, 55, 54] : List UInt8), (5005 : Int), (24 : Int), false), (([50, 52] : List UInt8), (5000 : Int), (24 : Int), false), (([50, 53] : List UInt8), (4800 : Int), (25 : Int), false), (([50, 57, 46, 57, 55] : List UInt8), (4004 : Int), (30 : Int), true), (([51, 48] : List UInt8), (4000 : Int), (30 : Int), false), (([53, 48] : List UInt8), (2400 : Int), (50 : Int), false), (([53, 57, 46, 57, 52] : List UInt8), (2002 : Int), (60 : Int), true)] : List ((List UInt8) × Int × Int × Bool)) (toN (n8 x)) ([], ((0 : Int), ((0 : Int), false)))))))
def ps_timebase_Valid : List PK := [.k (.v (.u8) [])]
def rs_timebase_Valid : List Kd := [.v (.bool) []]
def timebase_Valid (N : Nat) (x : UInt8) : Option (Bool) :=
 bnd (timebase_of N x) fun v0 =>
 some (ilt (0 : Int) v0.2.1)
def ps_timebase_CanDrop : List PK := [.k (.v (.u8) [])]
def rs_timebase_CanDrop : List Kd := [.v (.bool) []]
def timebase_CanDrop (N : Nat) (x : UInt8) : Option (Bool) :=
 bnd (timebase_of N x) fun v0 =>
 some v0.2.2.2
def ps_document_rate : List PK := [.k (.v (.u8) []), .k (.v (.bool) [])]
def rs_document_rate : List Kd := [.v (.int .i64) []]
def document_rate (N : Nat) (x : UInt8 × Bool) : Option (Int) :=
 bnd (timebase_Valid N x.1) fun v0 =>
 cnd (bnot v0)
  (some (13 : Int))
  (cnd x.2
   (bnd (timebase_CanDrop N x.1) fun v1 =>
   cnd (bnot v1)
    (some (13 : Int))
    (some (0 : Int)))
   (some (0 : Int)))
def ps_document_header : List PK := [.k (.v (.st (.pair (.str) (.pair (.str) (.pair (.u8) (.pair (.bool) (.pair (.int .i64) (.pair (.slice (.st (.pair (.str) (.pair (.int .i64) (.pair (.int .i64) (.pair (.int .i64) (.pair (.int .i64) (.pair (.u8) (.bool))))))))) (.pair (.slice (.st (.pair (.int .i64) (.pair (.st (.pair (.int .i64) (.int .i64))) (.pair (.str) (.pair (.u8) (.pair (.str) (.slice (.st (.slice (.st (.pair (.str) (.pair (.st (.pair (.u8) (.pair (.bool) (.bool)))) (.str)))))))))))))) (.slice (.st (.pair (.int .i64) (.pair (.int .i64) (.pair (.int .i64) (.pair (.int .i64) (.pair (.str) (.pair (.str) (.pair (.bool) (.bool)))))))))))))))))) [])]
def rs_document_header : List Kd := [.v (.int .i64) []]
def document_header (N : Nat) (x : (List UInt8) × (List UInt8) × UInt8 × Bool × Int × (List ((List UInt8) × Int × Int × Int × Int × UInt8 × Bool)) × (List (Int × (Int × Int) × (List UInt8) × UInt8 × (List UInt8) × List (List ((List UInt8) × (UInt8 × Bool × Bool) × List UInt8)))) × List (Int × Int × Int × Int × (List UInt8) × (List UInt8) × Bool × Bool)) : Option (Int) :=
 jn (fun (v0 : Unit) =>
  bnd (document_rate N (x.2.2.1, x.2.2.2.1)) fun v1 =>
  cnd (ine v1 (0 : Int))
   (some v1)
   (cnd (ilt x.2.2.2.2.1 (0 : Int))
    (some (2 : Int))
    (cnd (ilt (1099511627776 : Int) x.2.2.2.2.1)
     (some (2 : Int))
     (some (0 : Int)))))
 fun v2 =>
 bnd (charset_Valid N x.1) fun v3 =>
 cnd (bnot v3)
  (some (10 : Int))
  (cnd (ilt (400 : Int) (len x.1))
   (some (9 : Int))
   (cnd (sne x.2.1 ([] : List UInt8))
    (bnd (lines_Name N x.2.1) fun v4 =>
    cnd (bnot v4)
     (some (5 : Int))
     (v2 ()))
    (v2 ())))
def ps_region_from : List PK := [.k (.v (.int .i64) []), .k (.v (.int .i64) []), .k (.v (.int .i64) [])]
def rs_region_from : List Kd := [.v (.bool) []]
def region_from (N : Nat) (x : Int × Int × Int) : Option (Bool) :=
 cnd (ile x.2.1 x.1)
  (some (ile x.1 x.2.2))
  (some false)
def ps_region_Check : List PK := [.k (.v (.st (.pair (.str) (.pair (.int .i64) (.pair (.int .i64) (.pair (.int .i64) (.pair (.int .i64) (.pair (.u8) (.bool)))))))) [])]
def rs_region_Check : List Kd := [.v (.int .i64) []]
def region_Check (N : Nat) (x : (List UInt8) × Int × Int × Int × Int × UInt8 × Bool) : Option (Int) :=
 bnd (lines_Name N x.1) fun v0 =>
 cnd (bnot v0)
  (some (5 : Int))
  (bnd (region_from N (x.2.1, (0 : Int), (14 : Int))) fun v1 =>
  cnd (bnot v1)
   (some (2 : Int))
   (bnd (region_from N (x.2.2.1, (1 : Int), w64 (isub (15 : Int) x.2.1))) fun v2 =>
   cnd (bnot v2)
    (some (2 : Int))
    (bnd (region_from N (x.2.2.2.1, (0 : Int), (31 : Int))) fun v3 =>
    cnd (bnot v3)
     (some (2 : Int))
     (bnd (region_from N (x.2.2.2.2.1, (1 : Int), w64 (isub (32 : Int) x.2.2.2.1))) fun v4 =>
     cnd (bnot v4)
      (some (2 : Int))
      (cnd (ilt (n8 x.2.2.2.2.2.1) (n8 (1 : UInt8)))
       (some (3 : Int))
       (cnd (ilt (n8 (3 : UInt8)) (n8 x.2.2.2.2.2.1))
        (some (3 : Int))
        (some (0 : Int))))))))
def ps_region_CheckList : List PK := [.k (.v (.slice (.st (.pair (.str) (.pair (.int .i64) (.pair (.int .i64) (.pair (.int .i64) (.pair (.int .i64) (.pair (.u8) (.bool))))))))) [])]
def rs_region_CheckList : List Kd := [.v (.int .i64) []]
def region_CheckList (N : Nat) (x : List ((List UInt8) × Int × Int × Int × Int × UInt8 × Bool)) : Option (Int) :=
 cnd (ilt (16 : Int) (len x))
  (some (9 : Int))
  (jn (fun (v0 : Unit) =>
   some (0 : Int))
  fun v1 =>
  fixN (fun v2 (v3 : Int) =>
   cnd (ilt v3 (len x))
    (grd (inb v3 (len x))
     (bnd (region_Check N (lget x (toN v3) ([], ((0 : Int), ((0 : Int), ((0 : Int), ((0 : Int), ((0 : UInt8), false)))))))) fun v4 =>
     cnd (ine v4 (0 : Int))
      (some v4)
      (jn (fun (v5 : Unit) =>
       cnd (ilt (0 : Int) v3)
        (grd (inb (w64 (isub v3 (1 : Int))) (len x))
         (cnd (slt (lget x (toN v3) ([], ((0 : Int), ((0 : Int), ((0 : Int), ((0 : Int), ((0 : UInt8), false))))))).1 (lget x (toN (w64 (isub v3 (1 : Int)))) ([], ((0 : Int), ((0 : Int), ((0 : Int), ((0 : Int), ((0 : UInt8), false))))))).1)
          (some (8 : Int))
          (v2 (w64 (iadd v3 (1 : Int))))))
        (v2 (w64 (iadd v3 (1 : Int)))))
      fun v6 =>
      cnd (ilt (0 : Int) v3)
       (grd (inb (w64 (isub v3 (1 : Int))) (len x))
        (cnd (seq (lget x (toN v3) ([], ((0 : Int), ((0 : Int), ((0 : Int), ((0 : Int), ((0 : UInt8), false))))))).1 (lget x (toN (w64 (isub v3 (1 : Int)))) ([], ((0 : Int), ((0 : Int), ((0 : Int), ((0 : Int), ((0 : UInt8), false))))))).1)
         (some (7 : Int))
         (v6 ())))
       (v6 ()))))
    (v1 ())) N (0 : Int))
def ps_region_Default : List PK := []
def rs_region_Default : List Kd := [.v (.st (.pair (.str) (.pair (.int .i64) (.pair (.int .i64) (.pair (.int .i64) (.pair (.int .i64) (.pair (.u8) (.bool)))))))) []]
def region_Default (N : Nat) (x : Unit) : Option ((List UInt8) × Int × Int × Int × Int × UInt8 × Bool) :=
 some (([] : List UInt8), (11 : Int), (4 : Int), (0 : Int), (32 : Int), (2 : UInt8), true)
def ps_region_Find : List PK := [.k (.v (.slice (.st (.pair (.str) (.pair (.int .i64) (.pair (.int .i64) (.pair (.int .i64) (.pair (.int .i64) (.pair (.u8) (.bool))))))))) []), .k (.v (.str) [])]
def rs_region_Find : List Kd := [.v (.st (.pair (.str) (.pair (.int .i64) (.pair (.int .i64) (.pair (.int .i64) (.pair (.int .i64) (.pair (.u8) (.bool)))))))) [], .v (.bool) []]
def region_Find (N : Nat) (x : (List ((List UInt8) × Int × Int × Int × Int × UInt8 × Bool)) × List UInt8) : Option (((List UInt8) × Int × Int × Int × Int × UInt8 × Bool) × Bool) :=
 cnd (seq x.2 ([] : List UInt8))
  (bnd (region_Default N ()) fun v0 =>
  some (v0, true))
  (jn (fun (v1 : Unit) =>
   some ((([] : List UInt8), (0 : Int), (0 : Int), (0 : Int), (0 : Int), (0 : UInt8), false), false))
  fun v2 =>
  fixN (fun v3 (v4 : Int) =>
   cnd (ilt v4 (len x.1))
    (grd (inb v4 (len x.1))
     (cnd (seq (lget x.1 (toN v4) ([], ((0 : Int), ((0 : Int), ((0 : Int), ((0 : Int), ((0 : UInt8), false))))))).1 x.2)
      (some (lget x.1 (toN v4) ([], ((0 : Int), ((0 : Int), ((0 : Int), ((0 : Int), ((0 : UInt8), false)))))), true))
      (v3 (w64 (iadd v4 (1 : Int))))))
    (v2 ())) N (0 : Int))
def ps_event_spans : List PK := [.k (.v (.st (.pair (.int .i64) (.int .i64))) [])]
def rs_event_spans : List Kd := [.v (.bool) []]
def event_spans (N : Nat) (x : Int × Int) : Option (Bool) :=
 cnd (ile (0 : Int) x.1)
  (cnd (ilt x.1 x.2)
   (some (ile x.2 (5184000 : Int)))
   (some false))
  (some false)
def ps_event_kinds : List PK := []
def rs_event_kinds : List Kd := [.v (.slice (.str)) [0]]
def event_kinds (N : Nat) (x : Unit) : Option (List (List UInt8)) :=
 some ([([68, 73, 65, 76, 79, 71, 85, 69] : List UInt8), ([83, 79, 85, 78, 68] : List UInt8), ([84, 73, 84, 76, 69] : List UInt8), ([77, 85, 83, 73, 67] : List UInt8)] : List (List UInt8))
def ps_event_KindName : List PK := [.k (.v (.u8) [])]
def rs_event_KindName : List Kd := [.v (.str) []]
def event_KindName (N : Nat) (x : UInt8) : Option (List UInt8) :=
 cnd (ilt (n8 x) (n8 (1 : UInt8)))
  (some ([] : List UInt8))
  (cnd (ilt (n8 (4 : UInt8)) (n8 x))
   (some ([] : List UInt8))
   (bnd (event_kinds N ()) fun v0 =>
   grd (inb (n8 (b8 (isub (n8 x) (n8 (1 : UInt8))))) (len v0)) <|
   some (lget v0 (toN (n8 (b8 (isub (n8 x) (n8 (1 : UInt8)))))) [])))
def ps_strings_Builder_copyCheck : List PK := [.k (.b 230 (.st (.pair (.nptr) (.slice (.u8)))) [1])]
def rs_strings_Builder_copyCheck : List Kd := []
def strings_Builder_copyCheck (N : Nat) (x : Unit × List UInt8) : Option (Unit × List UInt8) := hand_strings_Builder_copyCheck N x
def ps_strings_Builder_WriteString : List PK := [.k (.b 230 (.st (.pair (.nptr) (.slice (.u8)))) [1]), .k (.v (.str) [])]
def rs_strings_Builder_WriteString : List Kd := [.v (.int .i64) [], .v (.nif) []]
def strings_Builder_WriteString (N : Nat) (x : (Unit × List UInt8) × List UInt8) : Option (Int × Unit × Unit × List UInt8) :=
 bnd (strings_Builder_copyCheck N ((), x.1.2)) fun v0 =>
 grd (room (iadd (len v0.2) (len x.2)) 1) <|
 some (len x.2, (), (), lapp v0.2 x.2)
def ps_style_Plain : List PK := [.k (.v (.st (.slice (.st (.pair (.str) (.pair (.st (.pair (.u8) (.pair (.bool) (.bool)))) (.str)))))) [])]
def rs_style_Plain : List Kd := [.v (.str) []]
def style_Plain (N : Nat) (x : List ((List UInt8) × (UInt8 × Bool × Bool) × List UInt8)) : Option (List UInt8) :=
 jn (fun (v0 : Unit × List UInt8) =>
  some v0.2)
 fun v1 =>
 fixN (fun v2 (v3 : Int × Unit × List UInt8) =>
  cnd (ilt v3.1 (len x))
   (grd (inb v3.1 (len x))
    (bnd (strings_Builder_WriteString N (((), v3.2.2), (lget x (toN v3.1) ([], (((0 : UInt8), (false, false)), []))).1)) fun v4 =>
    v2 (w64 (iadd v3.1 (1 : Int)), (), v4.2.2.2)))
   (v1 ((), v3.2.2))) N ((0 : Int), (), ([] : List UInt8))
def ps_bytealg_hashStr_string : List PK := [.k (.v (.str) [])]
def rs_bytealg_hashStr_string : List Kd := [.v (.int .u32) [], .v (.int .u32) []]
def bytealg_hashStr_string (N : Nat) (x : List UInt8) : Option (Int × Int) :=
 jn (fun (v0 : Int) =>
  jn (fun (v1 : Int) =>
   some (v0, v1))
  fun v2 =>
  fixN (fun v3 (v4 : Int × Int × Int) =>
   cnd (ilt (0 : Int) v4.2.2)
    (cnd (ine (bitb .and .i64 v4.2.2 (1 : Int)) (0 : Int))
     (v3 (wr .u32 (imul v4.1 v4.2.1), wr .u32 (imul v4.2.1 v4.2.1), shrk .i64 v4.2.2 (1 : Int)))
     (v3 (v4.1, wr .u32 (imul v4.2.1 v4.2.1), shrk .i64 v4.2.2 (1 : Int))))
    (v2 v4.1)) N ((1 : Int), (16777619 : Int), len x))
 fun v5 =>
 fixN (fun v6 (v7 : Int × Int) =>
  cnd (ilt v7.2 (len x))
   (grd (inb v7.2 (len x))
    (v6 (wr .u32 (iadd (wr .u32 (imul v7.1 (16777619 : Int))) (wr .u32 (n8 (lget x (toN v7.2) (0 : UInt8))))), w64 (iadd v7.2 (1 : Int)))))
   (v5 v7.1)) N ((0 : Int), (0 : Int))
def ps_bytealg_IndexRabinKarp_string : List PK := [.k (.v (.str) []), .k (.v (.str) [])]
def rs_bytealg_IndexRabinKarp_string : List Kd := [.v (.int .i64) []]
def bytealg_IndexRabinKarp_string (N : Nat) (x : List UInt8 × List UInt8) : Option (Int) :=
 bnd (bytealg_hashStr_string N x.2) fun v0 =>
 jn (fun (v1 : Int) =>
  jn (fun (v2 : Unit) =>
   jn (fun (v3 : Unit) =>
    some (-1 : Int))
   fun v4 =>
   fixN (fun v5 (v6 : Int × Int) =>
    cnd (ilt v6.2 (len x.1))
     (grd (inb v6.2 (len x.1))
      (grd (inb (w64 (isub v6.2 (len x.2))) (len x.1))
       (cnd (ieq (wr .u32 (isub (wr .u32 (iadd (wr .u32 (imul v6.1 (16777619 : Int))) (wr .u32 (n8 (lget x.1 (toN v6.2) (0 : UInt8)))))) (wr .u32 (imul v0.2 (wr .u32 (n8 (lget x.1 (toN (w64 (isub v6.2 (len x.2)))) (0 : UInt8)))))))) v0.1)
        (grd (in3 (w64 (isub (w64 (iadd v6.2 (1 : Int))) (len x.2))) (w64 (iadd v6.2 (1 : Int))) (len x.1))
         (cnd (seq (ldrop (toN (w64 (isub (w64 (iadd v6.2 (1 : Int))) (len x.2)))) (ltake (toN (w64 (iadd v6.2 (1 : Int)))) x.1)) x.2)
          (some (w64 (isub (w64 (iadd v6.2 (1 : Int))) (len x.2))))
          (v5 (wr .u32 (isub (wr .u32 (iadd (wr .u32 (imul v6.1 (16777619 : Int))) (wr .u32 (n8 (lget x.1 (toN v6.2) (0 : UInt8)))))) (wr .u32 (imul v0.2 (wr .u32 (n8 (lget x.1 (toN (w64 (isub v6.2 (len x.2)))) (0 : UInt8))))))), w64 (iadd v6.2 (1 : Int))))))
        (v5 (wr .u32 (isub (wr .u32 (iadd (wr .u32 (imul v6.1 (16777619 : Int))) (wr .u32 (n8 (lget x.1 (toN v6.2) (0 : UInt8)))))) (wr .u32 (imul v0.2 (wr .u32 (n8 (lget x.1 (toN (w64 (isub v6.2 (len x.2)))) (0 : UInt8))))))), w64 (iadd v6.2 (1 : Int)))))))
     (v4 ())) N (v1, len x.2))
  fun v7 =>
  cnd (ieq v1 v0.1)
   (grd (in2 (len x.2) (len x.1))
    (cnd (seq (ltake (toN (len x.2)) x.1) x.2)
     (some (0 : Int))
     (v7 ())))
   (v7 ()))
 fun v8 =>
 fixN (fun v9 (v10 : Int × Int) =>
  cnd (ilt v10.2 (len x.2))
   (grd (inb v10.2 (len x.1))
    (v9 (wr .u32 (iadd (wr .u32 (imul v10.1 (16777619 : Int))) (wr .u32 (n8 (lget x.1 (toN v10.2) (0 : UInt8))))), w64 (iadd v10.2 (1 : Int)))))
   (v8 v10.1)) N ((0 : Int), (0 : Int))
def ps_stringslite_Index : List PK := [.k (.v (.str) []), .k (.v (.str) [])]
def rs_stringslite_Index : List Kd := [.v (.int .i64) []]
def stringslite_Index (N : Nat) (x : List UInt8 × List UInt8) : Option (Int) :=
 cnd (ieq (len x.2) (0 : Int))
  (some (0 : Int))
  (cnd (seq x.2 x.1)
   (some (0 : Int))
   (cnd (ieq (len x.2) (1 : Int))
    (grd (inb (0 : Int) (len x.2))
     (bnd (stringslite_IndexByte N (x.1, lget x.2 (toN (0 : Int)) (0 : UInt8))) fun v0 =>
     some v0))
    (cnd (ile (len x.1) (len x.2))
     (some (-1 : Int))
     none)))
def ps_strings_Index : List PK := [.k (.v (.str) []), .k (.v (.str) [])]
def rs_strings_Index : List Kd := [.v (.int .i64) []]
def strings_Index (N : Nat) (x : List UInt8 × List UInt8) : Option (Int) :=
 bnd (stringslite_Index N x) fun v0 =>
 some v0
def ps_strings_Contains : List PK := [.k (.v (.str) []), .k (.v (.str) [])]
def rs_strings_Contains : List Kd := [.v (.bool) []]
def strings_Contains (N : Nat) (x : List UInt8 × List UInt8) : Option (Bool) := hand_strings_Contains N x
def ps_utf8_RuneCountInString : List PK := [.k (.v (.str) [])]
def rs_utf8_RuneCountInString : List Kd := [.v (.int .i64) []]
def utf8_RuneCountInString (N : Nat) (x : List UInt8) : Option (Int) :=
 jn (fun (v0 : Int) =>
  some v0)
 fun v1 =>
 fixN (fun v2 (v3 : Int × (List UInt8) × Int) =>
  cnd (nlt (toN v3.2.2) (nlen v3.2.1))
   (v2 (w64 (iadd v3.1 (1 : Int)), v3.2.1, ofN (nadd (toN v3.2.2) (decW v3.2.1 (toN v3.2.2)))))
   (v1 v3.1)) N ((0 : Int), x, ofN 0)
def ps_charset_Len : List PK := [.k (.v (.str) [])]
def rs_charset_Len : List Kd := [.v (.int .i64) []]
def charset_Len (N : Nat) (x : List UInt8) : Option (Int) :=
 bnd (charset_Valid N x) fun v0 =>
 cnd (bnot v0)
  (some (-1 : Int))
  (bnd (utf8_RuneCountInString N x) fun v1 =>
  some v1)
def ps_style_Len : List PK := [.k (.v (.st (.slice (.st (.pair (.str) (.pair (.st (.pair (.u8) (.pair (.bool) (.bool)))) (.str)))))) [])]
def rs_style_Len : List Kd := [.v (.int .i64) []]
def style_Len (N : Nat) (x : List ((List UInt8) × (UInt8 × Bool × Bool) × List UInt8)) : Option (Int) :=
 jn (fun (v0 : Int) =>
  some v0)
 fun v1 =>
 fixN (fun v2 (v3 : Int × Int) =>
  cnd (ilt v3.2 (len x))
   (grd (inb v3.2 (len x))
    (bnd (charset_Len N (lget x (toN v3.2) ([], (((0 : UInt8), (false, false)), []))).1) fun v4 =>
    cnd (ilt v4 (0 : Int))
     (some (-1 : Int))
     (v2 (w64 (iadd v3.1 v4), w64 (iadd v3.2 (1 : Int))))))
   (v1 v3.1)) N ((0 : Int), (0 : Int))
def ps_event_row : List PK := [.k (.v (.st (.slice (.st (.pair (.str) (.pair (.st (.pair (.u8) (.pair (.bool) (.bool)))) (.str)))))) [])]
def rs_event_row : List Kd := [.v (.int .i64) []]
def event_row (N : Nat) (x : List ((List UInt8) × (UInt8 × Bool × Bool) × List UInt8)) : Option (Int) :=
 bnd (style_Check N x) fun v0 =>
 cnd (ine v0 (0 : Int))
  (some v0)
  (bnd (style_Plain N x) fun v1 =>
  cnd (seq v1 ([] : List UInt8))
   (some (4 : Int))
   (grd (inb (0 : Int) (len v1))
    (cnd (ieq (n8 (lget v1 (toN (0 : Int)) (0 : UInt8))) (n8 (32 : UInt8)))
     (some (4 : Int))
     (grd (inb (w64 (isub (len v1) (1 : Int))) (len v1))
      (cnd (ieq (n8 (lget v1 (toN (w64 (isub (len v1) (1 : Int)))) (0 : UInt8))) (n8 (32 : UInt8)))
       (some (4 : Int))
       (bnd (strings_Contains N (v1, ([32, 32] : List UInt8))) fun v2 =>
       cnd v2
        (some (4 : Int))
        (bnd (style_Len N x) fun v3 =>
        cnd (ilt (32 : Int) v3)
         (some (11 : Int))
         (some (0 : Int)))))))))
def ps_event_lens : List PK := [.k (.v (.st (.pair (.int .i64) (.pair (.st (.pair (.int .i64) (.int .i64))) (.pair (.str) (.pair (.u8) (.pair (.str) (.slice (.st (.slice (.st (.pair (.str) (.pair (.st (.pair (.u8) (.pair (.bool) (.bool)))) (.str))))))))))))) [])]
def rs_event_lens : List Kd := [.v (.slice (.int .i64)) [0]]
def event_lens (N : Nat) (x : Int × (Int × Int) × (List UInt8) × UInt8 × (List UInt8) × List (List ((List UInt8) × (UInt8 × Bool × Bool) × List UInt8))) : Option (List Int) :=
 jn (fun (v0 : List Int) =>
  some v0)
 fun v1 =>
 fixN (fun v2 (v3 : (List Int) × Int) =>
  cnd (ilt v3.2 (len x.2.2.2.2.2))
   (grd (inb v3.2 (len x.2.2.2.2.2))
    (bnd (style_Len N (lget x.2.2.2.2.2 (toN v3.2) [])) fun v4 =>
    grd (room (iadd (len v3.1) (len ([v4] : List Int))) 8) <|
    v2 (lapp v3.1 ([v4] : List Int), w64 (iadd v3.2 (1 : Int)))))
   (v1 v3.1)) N (([] : List Int), (0 : Int))
def ps_region_usable : List PK := [.k (.v (.st (.pair (.str) (.pair (.int .i64) (.pair (.int .i64) (.pair (.int .i64) (.pair (.int .i64) (.pair (.u8) (.bool)))))))) [])]
def rs_region_usable : List Kd := [.v (.bool) []]
def region_usable (N : Nat) (x : (List UInt8) × Int × Int × Int × Int × UInt8 × Bool) : Option (Bool) :=
 bnd (region_Default N ()) fun v0 =>
 cnd (band (seq x.1 v0.1) (band (ieq x.2.1 v0.2.1) (band (ieq x.2.2.1 v0.2.2.1) (band (ieq x.2.2.2.1 v0.2.2.2.1) (band (ieq x.2.2.2.2.1 v0.2.2.2.2.1) (band (ieq (n8 x.2.2.2.2.2.1) (n8 v0.2.2.2.2.2.1)) (beqb x.2.2.2.2.2.2 v0.2.2.2.2.2.2)))))))
  (some true)
  (bnd (region_Check N x) fun v1 =>
  some (ieq v1 (0 : Int)))
def ps_region_Place : List PK := [.k (.v (.st (.pair (.str) (.pair (.int .i64) (.pair (.int .i64) (.pair (.int .i64) (.pair (.int .i64) (.pair (.u8) (.bool)))))))) []), .k (.v (.slice (.int .i64)) [])]
def rs_region_Place : List Kd := [.v (.slice (.st (.pair (.int .i64) (.pair (.int .i64) (.int .i64))))) [0], .v (.int .i64) []]
def region_Place (N : Nat) (x : ((List UInt8) × Int × Int × Int × Int × UInt8 × Bool) × List Int) : Option ((List (Int × Int × Int)) × Int) :=
 bnd (region_usable N x.1) fun v0 =>
 cnd (bnot v0)
  (some (([] : List (Int × Int × Int)), (1 : Int)))
  (cnd (ilt x.1.2.2.1 (len x.2))
   (some (([] : List (Int × Int × Int)), (9 : Int)))
   (jn (fun (v1 : Int) =>
    jn (fun (v2 : List (Int × Int × Int)) =>
     some (v2, (0 : Int)))
    fun v3 =>
    fixN (fun v4 (v5 : (List (Int × Int × Int)) × Int) =>
     cnd (ilt v5.2 (len x.2))
      (grd (inb v5.2 (len x.2))
       (cnd (ilt (lget x.2 (toN v5.2) (0 : Int)) (0 : Int))
        (some (([] : List (Int × Int × Int)), (2 : Int)))
        (cnd (ilt x.1.2.2.2.2.1 (lget x.2 (toN v5.2) (0 : Int)))
         (some (([] : List (Int × Int × Int)), (11 : Int)))
         (cnd (ieq (n8 x.1.2.2.2.2.2.1) (n8 (3 : UInt8)))
          (grd (room (iadd (len v5.1) (len ([(w64 (iadd v1 v5.2), w64 (iadd x.1.2.2.2.1 (w64 (isub x.1.2.2.2.2.1 (lget x.2 (toN v5.2) (0 : Int))))), lget x.2 (toN v5.2) (0 : Int))] : List (Int × Int × Int)))) 24)
           (v4 (lapp v5.1 ([(w64 (iadd v1 v5.2), w64 (iadd x.1.2.2.2.1 (w64 (isub x.1.2.2.2.2.1 (lget x.2 (toN v5.2) (0 : Int))))), lget x.2 (toN v5.2) (0 : Int))] : List (Int × Int × Int)), w64 (iadd v5.2 (1 : Int)))))
          (cnd (ieq (n8 x.1.2.2.2.2.2.1) (n8 (2 : UInt8)))
           (grd (room (iadd (len v5.1) (len ([(w64 (iadd v1 v5.2), w64 (iadd x.1.2.2.2.1 (w64 (idiv (w64 (isub x.1.2.2.2.2.1 (lget x.2 (toN v5.2) (0 : Int)))) (2 : Int)))), lget x.2 (toN v5.2) (0 : Int))] : List (Int × Int × Int)))) 24)
            (v4 (lapp v5.1 ([(w64 (iadd v1 v5.2), w64 (iadd x.1.2.2.2.1 (w64 (idiv (w64 (isub x.1.2.2.2.2.1 (lget x.2 (toN v5.2) (0 : Int)))) (2 : Int)))), lget x.2 (toN v5.2) (0 : Int))] : List (Int × Int × Int)), w64 (iadd v5.2 (1 : Int)))))
           (grd (room (iadd (len v5.1) (len ([(w64 (iadd v1 v5.2), x.1.2.2.2.1, lget x.2 (toN v5.2) (0 : Int))] : List (Int × Int × Int)))) 24)
            (v4 (lapp v5.1 ([(w64 (iadd v1 v5.2), x.1.2.2.2.1, lget x.2 (toN v5.2) (0 : Int))] : List (Int × Int × Int)), w64 (iadd v5.2 (1 : Int))))))))))
      (v3 v5.1)) N (([] : List (Int × Int × Int)), (0 : Int)))
   fun v6 =>
   cnd x.1.2.2.2.2.2.2
    (v6 (w64 (iadd x.1.2.1 (w64 (isub x.1.2.2.1 (len x.2))))))
    (v6 x.1.2.1)))
def ps_event_Check : List PK := [.k (.v (.st (.pair (.int .i64) (.pair (.st (.pair (.int .i64) (.int .i64))) (.pair (.str) (.pair (.u8) (.pair (.str) (.slice (.st (.slice (.st (.pair (.str) (.pair (.st (.pair (.u8) (.pair (.bool) (.bool)))) (.str))))))))))))) []), .k (.v (.slice (.st (.pair (.str) (.pair (.int .i64) (.pair (.int .i64) (.pair (.int .i64) (.pair (.int .i64) (.pair (.u8) (.bool))))))))) [])]
def rs_event_Check : List Kd := [.v (.int .i64) []]
def event_Check (N : Nat) (x : (Int × (Int × Int) × (List UInt8) × UInt8 × (List UInt8) × List (List ((List UInt8) × (UInt8 × Bool × Bool) × List UInt8))) × List ((List UInt8) × Int × Int × Int × Int × UInt8 × Bool)) : Option (Int) :=
 bnd (region_Find N (x.2, x.1.2.2.1)) fun v0 =>
 cnd (ilt x.1.1 (1 : Int))
  (some (2 : Int))
  (cnd (ilt (1099511627776 : Int) x.1.1)
   (some (2 : Int))
   (bnd (event_spans N x.1.2.1) fun v1 =>
   cnd (bnot v1)
    (some (2 : Int))
    (cnd (bnot v0.2)
     (some (6 : Int))
     (bnd (event_KindName N x.1.2.2.2.1) fun v2 =>
     cnd (seq v2 ([] : List UInt8))
      (some (3 : Int))
      (jn (fun (v3 : Bool) =>
       cnd v3
        (some (5 : Int))
        (cnd (ieq (len x.1.2.2.2.2.2) (0 : Int))
         (some (9 : Int))
         (cnd (ilt (4 : Int) (len x.1.2.2.2.2.2))
          (some (9 : Int))
          (jn (fun (v4 : Unit) =>
           bnd (event_lens N x.1) fun v5 =>
           bnd (region_Place N (v0.1, v5)) fun v6 =>
           some v6.2)
          fun v7 =>
          fixN (fun v8 (v9 : Int) =>
           cnd (ilt v9 (len x.1.2.2.2.2.2))
            (grd (inb v9 (len x.1.2.2.2.2.2))
             (bnd (event_row N (lget x.1.2.2.2.2.2 (toN v9) [])) fun v10 =>
             cnd (ine v10 (0 : Int))
              (some v10)
              (v8 (w64 (iadd v9 (1 : Int))))))
            (v7 ())) N (0 : Int)))))
      fun v11 =>
      cnd (sne x.1.2.2.2.2.1 ([] : List UInt8))
       (bnd (lines_Name N x.1.2.2.2.2.1) fun v12 =>
       v11 (bnot v12))
       (v11 false))))))
def ps_cmp_isNaN_int64 : List PK := [.k (.v (.int .i64) [])]
def rs_cmp_isNaN_int64 : List Kd := [.v (.bool) []]
def cmp_isNaN_int64 (N : Nat) (x : Int) : Option (Bool) :=
 some (ine x x)
def ps_cmp_Compare_int64 : List PK := [.k (.v (.int .i64) []), .k (.v (.int .i64) [])]
def rs_cmp_Compare_int64 : List Kd := [.v (.int .i64) []]
def cmp_Compare_int64 (N : Nat) (x : Int × Int) : Option (Int) :=
 bnd (cmp_isNaN_int64 N x.1) fun v0 =>
 bnd (cmp_isNaN_int64 N x.2) fun v1 =>
 cnd v0
  (cnd v1
   (some (0 : Int))
   (some (-1 : Int)))
  (cnd v1
   (some (1 : Int))
   (cnd (ilt x.1 x.2)
    (some (-1 : Int))
    (cnd (ilt x.2 x.1)
     (some (1 : Int))
     (some (0 : Int)))))
def ps_cmp_Or_int : List PK := [.k (.v (.slice (.int .i64)) [])]
def rs_cmp_Or_int : List Kd := [.v (.int .i64) []]
def cmp_Or_int (N : Nat) (x : List Int) : Option (Int) :=
 jn (fun (v0 : Unit) =>
  some (0 : Int))
 fun v1 =>
 fixN (fun v2 (v3 : Int) =>
  cnd (ilt v3 (len x))
   (grd (inb v3 (len x))
    (cnd (ine (lget x (toN v3) (0 : Int)) (0 : Int))
     (some (lget x (toN v3) (0 : Int)))
     (v2 (w64 (iadd v3 (1 : Int))))))
   (v1 ())) N (0 : Int)
def ps_event_Less : List PK := [.k (.v (.st (.pair (.int .i64) (.pair (.st (.pair (.int .i64) (.int .i64))) (.pair (.str) (.pair (.u8) (.pair (.str) (.slice (.st (.slice (.st (.pair (.str) (.pair (.st (.pair (.u8) (.pair (.bool) (.bool)))) (.str))))))))))))) []), .k (.v (.st (.pair (.int .i64) (.pair (.st (.pair (.int .i64) (.int .i64))) (.pair (.str) (.pair (.u8) (.pair (.str) (.slice (.st (.slice (.st (.pair (.str) (.pair (.st (.pair (.u8) (.pair (.bool) (.bool)))) (.str))))))))))))) [])]
def rs_event_Less : List Kd := [.v (.bool) []]
def event_Less (N : Nat) (x : (Int × (Int × Int) × (List UInt8) × UInt8 × (List UInt8) × List (List ((List UInt8) × (UInt8 × Bool × Bool) × List UInt8))) × Int × (Int × Int) × (List UInt8) × UInt8 × (List UInt8) × List (List ((List UInt8) × (UInt8 × Bool × Bool) × List UInt8))) : Option (Bool) :=
 bnd (cmp_Compare_int64 N (x.1.2.1.1, x.2.2.1.1)) fun v0 =>
 bnd (cmp_Compare_int64 N (x.1.1, x.2.1)) fun v1 =>
 bnd (cmp_Or_int N ([v0, v1] : List Int)) fun v2 =>
 some (ilt v2 (0 : Int))
def ps_event_Len : List PK := [.k (.v (.st (.pair (.int .i64) (.pair (.st (.pair (.int .i64) (.int .i64))) (.pair (.str) (.pair (.u8) (.pair (.str) (.slice (.st (.slice (.st (.pair (.str) (.pair (.st (.pair (.u8) (.pair (.bool) (.bool)))) (.str))))))))))))) [])]
def rs_event_Len : List Kd := [.v (.int .i64) []]
def event_Len (N : Nat) (x : Int × (Int × Int) × (List UInt8) × UInt8 × (List UInt8) × List (List ((List UInt8) × (UInt8 × Bool × Bool) × List UInt8))) : Option (Int) :=
 jn (fun (v0 : Int) =>
  some v0)
 fun v1 =>
 bnd (event_lens N x) fun v2 =>
 fixN (fun v3 (v4 : Int × Int) =>
  cnd (ilt v4.2 (len v2))
   (grd (inb v4.2 (len v2))
    (cnd (ilt (lget v2 (toN v4.2) (0 : Int)) (0 : Int))
     (some (-1 : Int))
     (v3 (w64 (iadd v4.1 (lget v2 (toN v4.2) (0 : Int))), w64 (iadd v4.2 (1 : Int))))))
   (v1 v4.1)) N (imax (w64 (isub (len x.2.2.2.2.2) (1 : Int))) (0 : Int), (0 : Int))
def ps_document_anchored : List PK := [.k (.v (.st (.pair (.str) (.pair (.str) (.pair (.u8) (.pair (.bool) (.pair (.int .i64) (.pair (.slice (.st (.pair (.str) (.pair (.int .i64) (.pair (.int .i64) (.pair (.int .i64) (.pair (.int .i64) (.pair (.u8) (.bool))))))))) (.pair (.slice (.st (.pair (.int .i64) (.pair (.st (.pair (.int .i64) (.int .i64))) (.pair (.str) (.pair (.u8) (.pair (.str) (.slice (.st (.slice (.st (.pair (.str) (.pair (.st (.pair (.u8) (.pair (.bool) (.bool)))) (.str)))))))))))))) (.slice (.st (.pair (.int .i64) (.pair (.int .i64) (.pair (.int .i64) (.pair (.int .i64) (.pair (.str) (.pair (.str) (.pair (.bool) (.bool)))))))))))))))))) []), .k (.v (.st (.pair (.int .i64) (.pair (.int .i64) (.pair (.int .i64) (.pair (.int .i64) (.pair (.str) (.pair (.str) (.pair (.bool) (.bool))))))))) []), .k (.m (.int .i64) (.int .i64))]
def rs_document_anchored : List Kd := [.v (.int .i64) []]
def document_anchored (N : Nat) (x : ((List UInt8) × (List UInt8) × UInt8 × Bool × Int × (List ((List UInt8) × Int × Int × Int × Int × UInt8 × Bool)) × (List (Int × (Int × Int) × (List UInt8) × UInt8 × (List UInt8) × List (List ((List UInt8) × (UInt8 × Bool × Bool) × List UInt8)))) × List (Int × Int × Int × Int × (List UInt8) × (List UInt8) × Bool × Bool)) × (Int × Int × Int × Int × (List UInt8) × (List UInt8) × Bool × Bool) × List (Int × Int)) : Option (Int × List (Int × Int)) :=
 cnd (ilt x.2.1.2.1 (1 : Int))
  (some ((2 : Int), x.2.2))
  (cnd (ilt x.1.2.2.2.2.1 x.2.1.2.1)
   (some ((2 : Int), x.2.2))
   (cnd x.2.1.2.2.2.2.2.2.2
    (cnd (ine x.2.1.2.2.1 (0 : Int))
     (some ((2 : Int), x.2.2))
     (cnd (ine x.2.1.2.2.2.1 (0 : Int))
      (some ((2 : Int), x.2.2))
      (some ((0 : Int), x.2.2))))
    (cnd (bnot (mhas ieq x.2.2 x.2.1.2.1))
     (some ((6 : Int), x.2.2))
     (cnd (ilt x.2.1.2.2.1 (0 : Int))
      (some ((2 : Int), x.2.2))
      (cnd (ile x.2.1.2.2.2.1 x.2.1.2.2.1)
       (some ((2 : Int), x.2.2))
       (grd (inb (mget ieq (0 : Int) x.2.2 x.2.1.2.1) (len x.1.2.2.2.2.2.2.1))
        (bnd (event_Len N (lget x.1.2.2.2.2.2.2.1 (toN (mget ieq (0 : Int) x.2.2 x.2.1.2.1)) ((0 : Int), (((0 : Int), (0 : Int)), ([], ((0 : UInt8), ([], []))))))) fun v0 =>
        cnd (ilt v0 x.2.1.2.2.2.1)
         (some ((2 : Int), x.2.2))
         (some ((0 : Int), x.2.2)))))))))
def ps_document_comments : List PK := [.k (.v (.st (.pair (.str) (.pair (.str) (.pair (.u8) (.pair (.bool) (.pair (.int .i64) (.pair (.slice (.st (.pair (.str) (.pair (.int .i64) (.pair (.int .i64) (.pair (.int .i64) (.pair (.int .i64) (.pair (.u8) (.bool))))))))) (.pair (.slice (.st (.pair (.int .i64) (.pair (.st (.pair (.int .i64) (.int .i64))) (.pair (.str) (.pair (.u8) (.pair (.str) (.slice (.st (.slice (.st (.pair (.str) (.pair (.st (.pair (.u8) (.pair (.bool) (.bool)))) (.str)))))))))))))) (.slice (.st (.pair (.int .i64) (.pair (.int .i64) (.pair (.int .i64) (.pair (.int .i64) (.pair (.str) (.pair (.str) (.pair (.bool) (.bool)))))))))))))))))) []), .k (.m (.int .i64) (.int .i64))]
def rs_document_comments : List Kd := [.v (.int .i64) []]
def document_comments (N : Nat) (x : ((List UInt8) × (List UInt8) × UInt8 × Bool × Int × (List ((List UInt8) × Int × Int × Int × Int × UInt8 × Bool)) × (List (Int × (Int × Int) × (List UInt8) × UInt8 × (List UInt8) × List (List ((List UInt8) × (UInt8 × Bool × Bool) × List UInt8)))) × List (Int × Int × Int × Int × (List UInt8) × (List UInt8) × Bool × Bool)) × List (Int × Int)) : Option (Int × List (Int × Int)) :=
 cnd (ilt (64 : Int) (len x.1.2.2.2.2.2.2.2))
  (some ((9 : Int), x.2))
  (jn (fun (v0 : List (Int × Int)) =>
   some ((0 : Int), v0))
  fun v1 =>
  fixN (fun v2 (v3 : Int × List (Int × Int)) =>
   cnd (ilt v3.1 (len x.1.2.2.2.2.2.2.2))
    (grd (inb v3.1 (len x.1.2.2.2.2.2.2.2))
     (jn (fun (v4 : Unit) =>
      bnd (document_anchored N (x.1, lget x.1.2.2.2.2.2.2.2 (toN v3.1) ((0 : Int), ((0 : Int), ((0 : Int), ((0 : Int), ([], ([], (false, false))))))), v3.2)) fun v5 =>
      cnd (ine v5.1 (0 : Int))
       (some v5)
       (bnd (lines_Name N (lget x.1.2.2.2.2.2.2.2 (toN v3.1) ((0 : Int), ((0 : Int), ((0 : Int), ((0 : Int), ([], ([], (false, false)))))))).2.2.2.2.1) fun v6 =>
       cnd (bnot v6)
        (some ((5 : Int), v5.2))
        (bnd (charset_Valid N (lget x.1.2.2.2.2.2.2.2 (toN v3.1) ((0 : Int), ((0 : Int), ((0 : Int), ((0 : Int), ([], ([], (false, false)))))))).2.2.2.2.2.1) fun v7 =>
        cnd (bnot v7)
         (some ((10 : Int), v5.2))
         (cnd (seq (lget x.1.2.2.2.2.2.2.2 (toN v3.1) ((0 : Int), ((0 : Int), ((0 : Int), ((0 : Int), ([], ([], (false, false)))))))).2.2.2.2.2.1 ([] : List UInt8))
          (some ((4 : Int), v5.2))
          (cnd (ilt (400 : Int) (len (lget x.1.2.2.2.2.2.2.2 (toN v3.1) ((0 : Int), ((0 : Int), ((0 : Int), ((0 : Int), ([], ([], (false, false)))))))).2.2.2.2.2.1))
           (some ((9 : Int), v5.2))
           (v2 (w64 (iadd v3.1 (1 : Int)), v5.2)))))))
     fun v8 =>
     cnd (ilt (lget x.1.2.2.2.2.2.2.2 (toN v3.1) ((0 : Int), ((0 : Int), ((0 : Int), ((0 : Int), ([], ([], (false, false)))))))).1 (1 : Int))
      (some ((2 : Int), v3.2))
      (cnd (ilt x.1.2.2.2.2.1 (lget x.1.2.2.2.2.2.2.2 (toN v3.1) ((0 : Int), ((0 : Int), ((0 : Int), ((0 : Int), ([], ([], (false, false)))))))).1)
       (some ((2 : Int), v3.2))
       (cnd (ilt (0 : Int) v3.1)
        (grd (inb (w64 (isub v3.1 (1 : Int))) (len x.1.2.2.2.2.2.2.2))
         (cnd (ile (lget x.1.2.2.2.2.2.2.2 (toN v3.1) ((0 : Int), ((0 : Int), ((0 : Int), ((0 : Int), ([], ([], (false, false)))))))).1 (lget x.1.2.2.2.2.2.2.2 (toN (w64 (isub v3.1 (1 : Int)))) ((0 : Int), ((0 : Int), ((0 : Int), ((0 : Int), ([], ([], (false, false)))))))).1)
          (some ((8 : Int), v3.2))
          (cnd (mhas ieq v3.2 (lget x.1.2.2.2.2.2.2.2 (toN v3.1) ((0 : Int), ((0 : Int), ((0 : Int), ((0 : Int), ([], ([], (false, false)))))))).1)
           (some ((7 : Int), v3.2))
           (v8 ()))))
        (cnd (mhas ieq v3.2 (lget x.1.2.2.2.2.2.2.2 (toN v3.1) ((0 : Int), ((0 : Int), ((0 : Int), ((0 : Int), ([], ([], (false, false)))))))).1)
         (some ((7 : Int), v3.2))
         (v8 ()))))))
    (v1 v3.2)) N ((0 : Int), x.2))
def ps_document_Check : List PK := [.k (.v (.st (.pair (.str) (.pair (.str) (.pair (.u8) (.pair (.bool) (.pair (.int .i64) (.pair (.slice (.st (.pair (.str) (.pair (.int .i64) (.pair (.int .i64) (.pair (.int .i64) (.pair (.int .i64) (.pair (.u8) (.bool))))))))) (.pair (.slice (.st (.pair (.int .i64) (.pair (.st (.pair (.int .i64) (.int .i64))) (.pair (.str) (.pair (.u8) (.pair (.str) (.slice (.st (.slice (.st (.pair (.str) (.pair (.st (.pair (.u8) (.pair (.bool) (.bool)))) (.str)))))))))))))) (.slice (.st (.pair (.int .i64) (.pair (.int .i64) (.pair (.int .i64) (.pair (.int .i64) (.pair (.str) (.pair (.str) (.pair (.bool) (.bool)))))))))))))))))) [])]
def rs_document_Check : List Kd := [.v (.int .i64) []]
def document_Check (N : Nat) (x : (List UInt8) × (List UInt8) × UInt8 × Bool × Int × (List ((List UInt8) × Int × Int × Int × Int × UInt8 × Bool)) × (List (Int × (Int × Int) × (List UInt8) × UInt8 × (List UInt8) × List (List ((List UInt8) × (UInt8 × Bool × Bool) × List UInt8)))) × List (Int × Int × Int × Int × (List UInt8) × (List UInt8) × Bool × Bool)) : Option (Int) :=
 bnd (document_header N x) fun v0 =>
 cnd (ine v0 (0 : Int))
  (some v0)
  (bnd (region_CheckList N x.2.2.2.2.2.1) fun v1 =>
  cnd (ine v1 (0 : Int))
   (some v1)
   (cnd (ilt (400 : Int) (len x.2.2.2.2.2.2.1))
    (some (9 : Int))
    (jn (fun (v2 : List (Int × Int)) =>
     bnd (document_comments N (x, v2)) fun v3 =>
     some v3.1)
    fun v4 =>
    fixN (fun v5 (v6 : Int × List (Int × Int)) =>
     cnd (ilt v6.1 (len x.2.2.2.2.2.2.1))
      (grd (inb v6.1 (len x.2.2.2.2.2.2.1))
       (bnd (event_Check N (lget x.2.2.2.2.2.2.1 (toN v6.1) ((0 : Int), (((0 : Int), (0 : Int)), ([], ((0 : UInt8), ([], []))))), x.2.2.2.2.2.1)) fun v7 =>
       cnd (ine v7 (0 : Int))
        (some v7)
        (cnd (ilt x.2.2.2.2.1 (lget x.2.2.2.2.2.2.1 (toN v6.1) ((0 : Int), (((0 : Int), (0 : Int)), ([], ((0 : UInt8), ([], [])))))).1)
         (some (2 : Int))
         (cnd (ilt (0 : Int) v6.1)
          (grd (inb (w64 (isub v6.1 (1 : Int))) (len x.2.2.2.2.2.2.1))
           (bnd (event_Less N (lget x.2.2.2.2.2.2.1 (toN (w64 (isub v6.1 (1 : Int)))) ((0 : Int), (((0 : Int), (0 : Int)), ([], ((0 : UInt8), ([], []))))), lget x.2.2.2.2.2.2.1 (toN v6.1) ((0 : Int), (((0 : Int), (0 : Int)), ([], ((0 : UInt8), ([], []))))))) fun v8 =>
           cnd (bnot v8)
            (some (8 : Int))
            (cnd (mhas ieq v6.2 (lget x.2.2.2.2.2.2.1 (toN v6.1) ((0 : Int), (((0 : Int), (0 : Int)), ([], ((0 : UInt8), ([], [])))))).1)
             (some (7 : Int))
             (v5 (w64 (iadd v6.1 (1 : Int)), mput ieq v6.2 (lget x.2.2.2.2.2.2.1 (toN v6.1) ((0 : Int), (((0 : Int), (0 : Int)), ([], ((0 : UInt8), ([], [])))))).1 v6.1)))))
          (cnd (mhas ieq v6.2 (lget x.2.2.2.2.2.2.1 (toN v6.1) ((0 : Int), (((0 : Int), (0 : Int)), ([], ((0 : UInt8), ([], [])))))).1)
           (some (7 : Int))
           (v5 (w64 (iadd v6.1 (1 : Int)), mput ieq v6.2 (lget x.2.2.2.2.2.2.1 (toN v6.1) ((0 : Int), (((0 : Int), (0 : Int)), ([], ((0 : UInt8), ([], [])))))).1 v6.1)))))))
      (v4 v6.2)) N ((0 : Int), ([] : List (Int × Int))))))
def ps_event_Spots : List PK := [.k (.v (.st (.pair (.int .i64) (.pair (.st (.pair (.int .i64) (.int .i64))) (.pair (.str) (.pair (.u8) (.pair (.str) (.slice (.st (.slice (.st (.pair (.str) (.pair (.st (.pair (.u8) (.pair (.bool) (.bool)))) (.str))))))))))))) []), .k (.v (.slice (.st (.pair (.str) (.pair (.int .i64) (.pair (.int .i64) (.pair (.int .i64) (.pair (.int .i64) (.pair (.u8) (.bool))))))))) [])]
def rs_event_Spots : List Kd := [.v (.slice (.st (.pair (.int .i64) (.pair (.int .i64) (.int .i64))))) [0], .v (.int .i64) []]
def event_Spots (N : Nat) (x : (Int × (Int × Int) × (List UInt8) × UInt8 × (List UInt8) × List (List ((List UInt8) × (UInt8 × Bool × Bool) × List UInt8))) × List ((List UInt8) × Int × Int × Int × Int × UInt8 × Bool)) : Option ((List (Int × Int × Int)) × Int) :=
 bnd (region_Find N (x.2, x.1.2.2.1)) fun v0 =>
 cnd (bnot v0.2)
  (some (([] : List (Int × Int × Int)), (6 : Int)))
  (bnd (event_lens N x.1) fun v1 =>
  jn (fun (v2 : Unit) =>
   bnd (region_Place N (v0.1, v1)) fun v3 =>
   some v3)
  fun v4 =>
  fixN (fun v5 (v6 : Int) =>
   cnd (ilt v6 (len v1))
    (grd (inb v6 (len v1))
     (cnd (ilt (lget v1 (toN v6) (0 : Int)) (0 : Int))
      (some (([] : List (Int × Int × Int)), (10 : Int)))
      (v5 (w64 (iadd v6 (1 : Int))))))
    (v4 ())) N (0 : Int))
def ps_stl_placed : List PK := [.k (.v (.st (.pair (.str) (.pair (.str) (.pair (.u8) (.pair (.bool) (.pair (.int .i64) (.pair (.slice (.st (.pair (.str) (.pair (.int .i64) (.pair (.int .i64) (.pair (.int .i64) (.pair (.int .i64) (.pair (.u8) (.bool))))))))) (.pair (.slice (.st (.pair (.int .i64) (.pair (.st (.pair (.int .i64) (.int .i64))) (.pair (.str) (.pair (.u8) (.pair (.str) (.slice (.st (.slice (.st (.pair (.str) (.pair (.st (.pair (.u8) (.pair (.bool) (.bool)))) (.str)))))))))))))) (.slice (.st (.pair (.int .i64) (.pair (.int .i64) (.pair (.int .i64) (.pair (.int .i64) (.pair (.str) (.pair (.str) (.pair (.bool) (.bool)))))))))))))))))) []), .k (.v (.st (.pair (.int .i64) (.pair (.st (.pair (.int .i64) (.int .i64))) (.pair (.str) (.pair (.u8) (.pair (.str) (.slice (.st (.slice (.st (.pair (.str) (.pair (.st (.pair (.u8) (.pair (.bool) (.bool)))) (.str))))))))))))) [])]
def rs_stl_placed : List Kd := [.v (.st (.pair (.int .i64) (.u8))) []]
def stl_placed (N : Nat) (x : ((List UInt8) × (List UInt8) × UInt8 × Bool × Int × (List ((List UInt8) × Int × Int × Int × Int × UInt8 × Bool)) × (List (Int × (Int × Int) × (List UInt8) × UInt8 × (List UInt8) × List (List ((List UInt8) × (UInt8 × Bool × Bool) × List UInt8)))) × List (Int × Int × Int × Int × (List UInt8) × (List UInt8) × Bool × Bool)) × Int × (Int × Int) × (List UInt8) × UInt8 × (List UInt8) × List (List ((List UInt8) × (UInt8 × Bool × Bool) × List UInt8))) : Option (Int × UInt8) :=
 bnd (event_Spots N (x.2, x.1.2.2.2.2.2.1)) fun v0 =>
 bnd (region_Find N (x.1.2.2.2.2.2.1, x.2.2.2.1)) fun v1 =>
 grd (inb (0 : Int) (len v0.1)) <|
 some ((lget v0.1 (toN (0 : Int)) ((0 : Int), ((0 : Int), (0 : Int)))).1, v1.1.2.2.2.2.2.1)
def ps_istrconv_small : List PK := [.k (.v (.int .i64) [])]
def rs_istrconv_small : List Kd := [.v (.str) []]
def istrconv_small (N : Nat) (x : Int) : Option (List UInt8) :=
 cnd (ilt x (10 : Int))
  (grd (in3 x (w64 (iadd x (1 : Int))) (len ([48, 49, 50, 51, 52, 53, 54, 55, 56, 57, 97, 98, 99, 100, 101, 102, 103, 104, 105, 106, 107, 108, 109, 110, 111, 112, 113, 114, 115, 116, 117, 118, 119, 120, 121, 122] : List UInt8)))
   (some (ldrop (toN x) (ltake (toN (w64 (iadd x (1 : Int)))) ([48, 49, 50, 51, 52, 53, 54, 55, 56, 57, 97, 98, 99, 100, 101, 102, 103, 104, 105, 106, 107, 108, 109, 110, 111, 112, 113, 114, 115, 116, 117, 118, 119, 120, 121, 122] : List UInt8)))))
  (grd (in3 (w64 (imul x (2 : Int))) (w64 (iadd (w64 (imul x (2 : Int))) (2 : Int))) (len ([48, 48, 48, 49, 48, 50, 48, 51, 48, 52, 48, 53, 48, 54, 48, 55, 48, 56, 48, 57, 49, 48, 49, 49, 49, 50, 49, 51, 49, 52, 49, 53, 49, 54, 49, 55, 49, 56, 49, 57, 50, 48, 50, 49, 50, 50, 50, 51, 50, 52, 50, 53, 50, 54, 50, 55, 50, 56, 50, 57, 51, 48, 51, 49, 51, 50, 51, 51, 51, 52, 51, 53, 51, 54, 51, 55, 51, 56, 51, 57, 52, 48, 52, 49, 52, 50, 52, 51, 52, 52, 52, 53, 52, 54, 52, 55, 52, 56, 52, 57, 53, 48, 53, 49, 53, 50, 53, 51, 53, 52, 53, 53, 53, 54, 53, 55, 53, 56, 53, 57, 54, 48, 54, 49, 54, 50, 54, 51, 54, 52, 54, 53, 54, 54, 54, 55, 54, 56, 54, 57, 55, 48, 55, 49, 55, 50, 55, 51, 55, 52, 55, 53, 55, 54, 55, 55, 55, 56, 55, 57, 56, 48, 56, 49, 56, 50, 56, 51, 56, 52, 56, 53, 56, 54, 56, 55, 56, 56, 56, 57, 57, 48, 57, 49, 57, 50, 57, 51, 57, 52, 57, 53, 57, 54, 57, 55, 57, 56, 57, 57] : List UInt8)))
   (some (ldrop (toN (w64 (imul x (2 : Int)))) (ltake (toN (w64 (iadd (w64 (imul x (2 : Int))) (2 : Int)))) ([48, 48, 48, 49, 48, 50, 48, 51, 48, 52, 48, 53, 48, 54, 48, 55, 48, 56, 48, 57, 49, 48, 49, 49, 49, 50, 49, 51, 49, 52, 49, 53, 49, 54, 49, 55, 49, 56, 49, 57, 50, 48, 50, 49, 50, 50, 50, 51, 50, 52, 50, 53, 50, 54, 50, 55, 50, 56, 50, 57, 51, 48, 51, 49, 51, 50, 51, 51, 51, 52, 51, 53, 51, 54, 51, 55, 51, 56, 51, 57, 52, 48, 52, 49, 52, 50, 52, 51, 52, 52, 52, 53, 52, 54, 52, 55, 52, 56, 52, 57, 53, 48, 53, 49, 53, 50, 53, 51, 53, 52, 53, 53, 53, 54, 53, 55, 53, 56, 53, 57, 54, 48, 54, 49, 54, 50, 54, 51, 54, 52, 54, 53, 54, 54, 54, 55, 54, 56, 54, 57, 55, 48, 55, 49, 55, 50, 55, 51, 55, 52, 55, 53, 55, 54, 55, 55, 55, 56, 55, 57, 56, 48, 56, 49, 56, 50, 56, 51, 56, 52, 56, 53, 56, 54, 56, 55, 56, 56, 56, 57, 57, 48, 57, 49, 57, 50, 57, 51, 57, 52, 57, 53, 57, 54, 57, 55, 57, 56, 57, 57] : List UInt8)))))
def ps_bits_Len64 : List PK := [.k (.v (.int .u64) [])]
def rs_bits_Len64 : List Kd := [.v (.int .i64) []]
def bits_Len64 (N : Nat) (x : Int) : Option (Int) :=
 jn (fun (v0 : Int × Int) =>
  jn (fun (v1 : Int × Int) =>
   cnd (ile (256 : Int) v1.1)
    (grd (inb (n8 (b8 (shrk .u64 v1.1 (8 : Int)))) (len ([0, 1, 2, 2, 3, 3, 3, 3, 4, 4, 4, 4, 4, 4, 4, 4, 5, 5, 5, 5, 5, 5, 5, 5, 5, 5, 5, 5, 5, 5, 5, 5, 6, 6, 6, 6, 6, 6, 6, 6, 6, 6, 6, 6, 6, 6, 6, 6, 6, 6, 6, 6, 6, 6, 6, 6, 6, 6, 6, 6, 6, 6, 6, 6, 7, 7, 7, 7, 7, 7, 7, 7, 7, 7, 7, 7, 7, 7, 7, 7, 7, 7, 7, 7, 7, 7, 7, 7, 7, 7, 7, 7, 7, 7, 7, 7, 7, 7, 7, 7, 7, 7, 7, 7, 7, 7, 7, 7, 7, 7, 7, 7, 7, 7, 7, 7, 7, 7, 7, 7, 7, 7, 7, 7, 7, 7, 7, 7, 8, 8, 8, 8, 8, 8, 8, 8, 8, 8, 8, 8, 8, 8, 8, 8, 8, 8, 8, 8, 8, 8, 8, 8, 8, 8, 8, 8, 8, 8, 8, 8, 8, 8, 8, 8, 8, 8, 8, 8, 8, 8, 8, 8, 8, 8, 8, 8, 8, 8, 8, 8, 8, 8, 8, 8, 8, 8, 8, 8, 8, 8, 8, 8, 8, 8, 8, 8, 8, 8, 8, 8, 8, 8, 8, 8, 8, 8, 8, 8, 8, 8, 8, 8, 8, 8, 8, 8, 8, 8, 8, 8, 8, 8, 8, 8, 8, 8, 8, 8, 8, 8, 8, 8, 8, 8, 8, 8, 8, 8, 8, 8, 8, 8, 8, 8, 8, 8, 8, 8, 8, 8, 8, 8, 8, 8, 8, 8] : List UInt8)))
     (some (w64 (iadd (w64 (iadd v1.2 (8 : Int))) (w64 (n8 (lget ([0, 1, 2, 2, 3, 3, 3, 3, 4, 4, 4, 4, 4, 4, 4, 4, 5, 5, 5, 5, 5, 5, 5, 5, 5, 5, 5, 5, 5, 5, 5, 5, 6, 6, 6, 6, 6, 6, 6, 6, 6, 6, 6, 6, 6, 6, 6, 6, 6, 6, 6, 6, 6, 6, 6, 6, 6, 6, 6, 6, 6, 6, 6, 6, 7, 7, 7, 7, 7, 7, 7, 7, 7, 7, 7, 7, 7, 7, 7, 7, 7, 7, 7, 7, 7, 7, 7, 7, 7, 7, 7, 7, 7, 7, 7, 7, 7, 7, 7, 7, 7, 7, 7, 7, 7, 7, 7, 7, 7, 7, 7, 7, 7, 7, 7, 7, 7, 7, 7, 7, 7, 7, 7, 7, 7, 7, 7, 7, 8, 8, 8, 8, 8, 8, 8, 8, 8, 8, 8, 8, 8, 8, 8, 8, 8, 8, 8, 8, 8, 8, 8, 8, 8, 8, 8, 8, 8, 8, 8, 8, 8, 8, 8, 8, 8, 8, 8, 8, 8, 8, 8, 8, 8, 8, 8, 8, 8, 8, 8, 8, 8, 8, 8, 8, 8, 8, 8, 8, 8, 8, 8, 8, 8, 8, 8, 8, 8, 8, 8, 8, 8, 8, 8, 8, 8, 8, 8, 8, 8, 8, 8, 8, 8, 8, 8, 8, 8, 8, 8, 8, 8, 8, 8, 8, 8, 8, 8, 8, 8, 8, 8, 8, 8, 8, 8, 8, 8, 8, 8, 8, 8, 8, 8, 8, 8, 8, 8, 8, 8, 8, 8, 8, 8, 8, 8, 8] : List UInt8) (toN (n8 (b8 (shrk .u64 v1.1 (8 : Int))))) (0 : UInt8))))))))
    (grd (inb (n8 (b8 v1.1)) (len ([0, 1, 2, 2, 3, 3, 3, 3, 4, 4, 4, 4, 4, 4, 4, 4, 5, 5, 5, 5, 5, 5, 5, 5, 5, 5, 5, 5, 5, 5, 5, 5, 6, 6, 6, 6, 6, 6, 6, 6, 6, 6, 6, 6, 6, 6, 6, 6, 6, 6, 6, 6, 6, 6, 6, 6, 6, 6, 6, 6, 6, 6, 6, 6, 7, 7, 7, 7, 7, 7, 7, 7, 7, 7, 7, 7, 7, 7, 7, 7, 7, 7, 7, 7, 7, 7, 7, 7, 7, 7, 7, 7, 7, 7, 7, 7, 7, 7, 7, 7, 7, 7, 7, 7, 7, 7, 7, 7, 7, 7, 7, 7, 7, 7, 7, 7, 7, 7, 7, 7, 7, 7, 7, 7, 7, 7, 7, 7, 8, 8, 8, 8, 8, 8, 8, 8, 8, 8, 8, 8, 8, 8, 8, 8, 8, 8, 8, 8, 8, 8, 8, 8, 8, 8, 8, 8, 8, 8, 8, 8, 8, 8, 8, 8, 8, 8, 8, 8, 8, 8, 8, 8, 8, 8, 8, 8, 8, 8, 8, 8, 8, 8, 8, 8, 8, 8, 8, 8, 8, 8, 8, 8, 8, 8, 8, 8, 8, 8, 8, 8, 8, 8, 8, 8, 8, 8, 8, 8, 8, 8, 8, 8, 8, 8, 8, 8, 8, 8, 8, 8, 8, 8, 8, 8, 8, 8, 8, 8, 8, 8, 8, 8, 8, 8, 8, 8, 8, 8, 8, 8, 8, 8, 8, 8, 8, 8, 8, 8, 8, 8, 8, 8, 8, 8, 8, 8] : List UInt8)))
     (some (w64 (iadd v1.2 (w64 (n8 (lget ([0, 1, 2, 2, 3, 3, 3, 3, 4, 4, 4, 4, 4, 4, 4, 4, 5, 5, 5, 5, 5, 5, 5, 5, 5, 5, 5, 5, 5, 5, 5, 5, 6, 6, 6, 6, 6, 6, 6, 6, 6, 6, 6, 6, 6, 6, 6, 6, 6, 6, 6, 6, 6, 6, 6, 6, 6, 6, 6, 6, 6, 6, 6, 6, 7, 7, 7, 7, 7, 7, 7, 7, 7, 7, 7, 7, 7, 7, 7, 7, 7, 7, 7, 7, 7, 7, 7, 7, 7, 7, 7, 7, 7, 7, 7, 7, 7, 7, 7, 7, 7, 7, 7, 7, 7, 7, 7, 7, 7, 7, 7, 7, 7, 7, 7, 7, 7, 7, 7, 7, 7, 7, 7, 7, 7, 7, 7, 7, 8, 8, 8, 8, 8, 8, 8, 8, 8, 8, 8, 8, 8, 8, 8, 8, 8, 8, 8, 8, 8, 8, 8, 8, 8, 8, 8, 8, 8, 8, 8, 8, 8, 8, 8, 8, 8, 8, 8, 8, 8, 8, 8, 8, 8, 8, 8, 8, 8, 8, 8, 8, 8, 8, 8, 8, 8, 8, 8, 8, 8, 8, 8, 8, 8, 8, 8, 8, 8, 8, 8, 8, 8, 8, 8, 8, 8, 8, 8, 8, 8, 8, 8, 8, 8, 8, 8, 8, 8, 8, 8, 8, 8, 8, 8, 8, 8, 8, 8, 8, 8, 8, 8, 8, 8, 8, 8, 8, 8, 8, 8, 8, 8, 8, 8, 8, 8, 8, 8, 8, 8, 8, 8, 8, 8, 8, 8, 8] : List UInt8) (toN (n8 (b8 v1.1))) (0 : UInt8)))))))))
  fun v2 =>
  cnd (ile (65536 : Int) v0.1)
   (v2 (shrk .u64 v0.1 (16 : Int), w64 (iadd v0.2 (16 : Int))))
   (v2 v0))
 fun v3 =>
 cnd (ile (4294967296 : Int) x)
  (v3 (shrk .u64 x (32 : Int), (32 : Int)))
  (v3 (x, (0 : Int)))
def ps_istrconv_log10Pow2 : List PK := [.k (.v (.int .i64) [])]
def rs_istrconv_log10Pow2 : List Kd := [.v (.int .i64) []]
def istrconv_log10Pow2 (N : Nat) (x : Int) : Option (Int) :=
 some (shrk .i64 (w64 (imul x (78913 : Int))) (18 : Int))
def ps_istrconv_bool2_int : List PK := [.k (.v (.bool) [])]
def rs_istrconv_bool2_int : List Kd := [.v (.int .i64) []]
def istrconv_bool2_int (N : Nat) (x : Bool) : Option (Int) :=
 cnd x
  (some (1 : Int))
  (some (0 : Int))
def ps_istrconv_isPowerOfTwo : List PK := [.k (.v (.int .i64) [])]
def rs_istrconv_isPowerOfTwo : List Kd := [.v (.bool) []]
def istrconv_isPowerOfTwo (N : Nat) (x : Int) : Option (Bool) :=
 some (ieq (bitb .and .i64 x (w64 (isub x (1 : Int)))) (0 : Int))
def ps_bits_TrailingZeros32 : List PK := [.k (.v (.int .u32) [])]
def rs_bits_TrailingZeros32 : List Kd := [.v (.int .i64) []]
def bits_TrailingZeros32 (N : Nat) (x : Int) : Option (Int) :=
 cnd (ieq x (0 : Int))
  (some (32 : Int))
  none
def ps_bits_TrailingZeros64 : List PK := [.k (.v (.int .u64) [])]
def rs_bits_TrailingZeros64 : List Kd := [.v (.int .i64) []]
def bits_TrailingZeros64 (N : Nat) (x : Int) : Option (Int) :=
 cnd (ieq x (0 : Int))
  (some (64 : Int))
  none
def ps_bits_TrailingZeros : List PK := [.k (.v (.int .u64) [])]
def rs_bits_TrailingZeros : List Kd := [.v (.int .i64) []]
def bits_TrailingZeros (N : Nat) (x : Int) : Option (Int) :=
 bnd (bits_TrailingZeros64 N x) fun v0 =>
 some v0
def ps_istrconv_FormatInt : List PK := [.k (.v (.int .i64) []), .k (.v (.int .i64) [])]
def rs_istrconv_FormatInt : List Kd := [.v (.str) []]
def istrconv_FormatInt (N : Nat) (x : Int × Int) : Option (List UInt8) :=
 cnd (ieq x.2 (10 : Int))
  (cnd (ile (0 : Int) x.1)
   (cnd (ilt x.1 (100 : Int))
    (bnd (istrconv_small N x.1) fun v0 =>
    some v0)
    none)
   none)
  none
def ps_strconv_FormatInt : List PK := [.k (.v (.int .i64) []), .k (.v (.int .i64) [])]
def rs_strconv_FormatInt : List Kd := [.v (.str) []]
def strconv_FormatInt (N : Nat) (x : Int × Int) : Option (List UInt8) :=
 bnd (istrconv_FormatInt N x) fun v0 =>
 some v0
def ps_lines_Decimal : List PK := [.k (.v (.int .i64) [])]
def rs_lines_Decimal : List Kd := [.v (.str) []]
def lines_Decimal (N : Nat) (x : Int) : Option (List UInt8) :=
 bnd (strconv_FormatInt N (x, (10 : Int))) fun v0 =>
 some v0
def ps_stl_place_region : List PK := [.k (.v (.st (.pair (.int .i64) (.u8))) [])]
def rs_stl_place_region : List Kd := [.v (.st (.pair (.str) (.pair (.int .i64) (.pair (.int .i64) (.pair (.int .i64) (.pair (.int .i64) (.pair (.u8) (.bool)))))))) []]
def stl_place_region (N : Nat) (x : Int × UInt8) : Option ((List UInt8) × Int × Int × Int × Int × UInt8 × Bool) :=
 bnd (lines_Decimal N x.1) fun v0 =>
 jn (fun (v1 : List UInt8) =>
  grd (catOk (iadd (len ([82] : List UInt8)) (len v1))) <|
  grd (in3 (n8 (b8 (isub (n8 x.2) (n8 (1 : UInt8))))) (n8 x.2) (len ([76, 67, 82] : List UInt8))) <|
  grd (catOk (iadd (len (lapp ([82] : List UInt8) v1)) (len (ldrop (toN (n8 (b8 (isub (n8 x.2) (n8 (1 : UInt8)))))) (ltake (toN (n8 x.2)) ([76, 67, 82] : List UInt8)))))) <|
  some (lapp (lapp ([82] : List UInt8) v1) (ldrop (toN (n8 (b8 (isub (n8 x.2) (n8 (1 : UInt8)))))) (ltake (toN (n8 x.2)) ([76, 67, 82] : List UInt8))), x.1, w64 (isub (15 : Int) x.1), (0 : Int), (32 : Int), x.2, false))
 fun v2 =>
 cnd (ilt x.1 (10 : Int))
  (grd (catOk (iadd (len ([48] : List UInt8)) (len v0)))
   (v2 (lapp ([48] : List UInt8) v0)))
  (v2 v0)
def ps_stl_add : List PK := [.k (.v (.slice (.st (.pair (.str) (.pair (.int .i64) (.pair (.int .i64) (.pair (.int .i64) (.pair (.int .i64) (.pair (.u8) (.bool))))))))) []), .k (.v (.st (.pair (.str) (.pair (.int .i64) (.pair (.int .i64) (.pair (.int .i64) (.pair (.int .i64) (.pair (.u8) (.bool)))))))) [])]
def rs_stl_add : List Kd := [.v (.slice (.st (.pair (.str) (.pair (.int .i64) (.pair (.int .i64) (.pair (.int .i64) (.pair (.int .i64) (.pair (.u8) (.bool))))))))) []]
def stl_add (N : Nat) (x : (List ((List UInt8) × Int × Int × Int × Int × UInt8 × Bool)) × (List UInt8) × Int × Int × Int × Int × UInt8 × Bool) : Option (List ((List UInt8) × Int × Int × Int × Int × UInt8 × Bool)) :=
 jn (fun (v0 : Int) =>
  jn (fun (v1 : Unit) =>
   grd (in2 v0 (len x.1)) <|
   grd (room (iadd (len ([] : List ((List UInt8) × Int × Int × Int × Int × UInt8 × Bool))) (len (ltake (toN v0) x.1))) 56) <|
   grd (room (iadd (len (lapp ([] : List ((List UInt8) × Int × Int × Int × Int × UInt8 × Bool)) (ltake (toN v0) x.1))) (len ([x.2] : List ((List UInt8) × Int × Int × Int × Int × UInt8 × Bool)))) 56) <|
   grd (in2 v0 (len x.1)) <|
   grd (room (iadd (len (lapp (lapp ([] : List ((List UInt8) × Int × Int × Int × Int × UInt8 × Bool)) (ltake (toN v0) x.1)) ([x.2] : List ((List UInt8) × Int × Int × Int × Int × UInt8 × Bool)))) (len (ldrop (toN v0) x.1))) 56) <|
   some (lapp (lapp (lapp ([] : List ((List UInt8) × Int × Int × Int × Int × UInt8 × Bool)) (ltake (toN v0) x.1)) ([x.2] : List ((List UInt8) × Int × Int × Int × Int × UInt8 × Bool))) (ldrop (toN v0) x.1)))
  fun v2 =>
  cnd (ilt v0 (len x.1))
   (grd (inb v0 (len x.1))
    (cnd (seq (lget x.1 (toN v0) ([], ((0 : Int), ((0 : Int), ((0 : Int), ((0 : Int), ((0 : UInt8), false))))))).1 x.2.1)
     (some x.1)
     (v2 ())))
   (v2 ()))
 fun v3 =>
 fixN (fun v4 (v5 : Int) =>
  cnd (ilt v5 (len x.1))
   (grd (inb v5 (len x.1))
    (cnd (slt (lget x.1 (toN v5) ([], ((0 : Int), ((0 : Int), ((0 : Int), ((0 : Int), ((0 : UInt8), false))))))).1 x.2.1)
     (v4 (w64 (iadd v5 (1 : Int))))
     (v3 v5)))
   (v3 v5)) N (0 : Int)
def ps_style_norm : List PK := [.k (.v (.slice (.st (.pair (.str) (.pair (.st (.pair (.u8) (.pair (.bool) (.bool)))) (.str))))) [])]
def rs_style_norm : List Kd := [.v (.st (.slice (.st (.pair (.str) (.pair (.st (.pair (.u8) (.pair (.bool) (.bool)))) (.str)))))) [0]]
def style_norm (N : Nat) (x : List ((List UInt8) × (UInt8 × Bool × Bool) × List UInt8)) : Option (List ((List UInt8) × (UInt8 × Bool × Bool) × List UInt8)) :=
 jn (fun (v0 : List ((List UInt8) × (UInt8 × Bool × Bool) × List UInt8)) =>
  some v0)
 fun v1 =>
 fixN (fun v2 (v3 : Int × List ((List UInt8) × (UInt8 × Bool × Bool) × List UInt8)) =>
  cnd (ilt v3.1 (len x))
   (grd (inb v3.1 (len x))
    (cnd (seq (lget x (toN v3.1) ([], (((0 : UInt8), (false, false)), []))).1 ([] : List UInt8))
     (v2 (w64 (iadd v3.1 (1 : Int)), v3.2))
     (cnd (ilt (0 : Int) (len v3.2))
      (grd (inb (w64 (isub (len v3.2) (1 : Int))) (len v3.2))
       (bnd (style_alike N (lget v3.2 (toN (w64 (isub (len v3.2) (1 : Int)))) ([], (((0 : UInt8), (false, false)), [])), lget x (toN v3.1) ([], (((0 : UInt8), (false, false)), [])))) fun v4 =>
       cnd v4
        (grd (inb (w64 (isub (len v3.2) (1 : Int))) (len v3.2))
         (grd (catOk (iadd (len (lget v3.2 (toN (w64 (isub (len v3.2) (1 : Int)))) ([], (((0 : UInt8), (false, false)), []))).1) (len (lget x (toN v3.1) ([], (((0 : UInt8), (false, false)), []))).1)))
          (grd (inb (w64 (isub (len v3.2) (1 : Int))) (len v3.2))
           (v2 (w64 (iadd v3.1 (1 : Int)), lset v3.2 (toN (w64 (isub (len v3.2) (1 : Int)))) (lapp (lget v3.2 (toN (w64 (isub (len v3.2) (1 : Int)))) ([], (((0 : UInt8), (false, false)), []))).1 (lget x (toN v3.1) ([], (((0 : UInt8), (false, false)), []))).1, (lget v3.2 (toN (w64 (isub (len v3.2) (1 : Int)))) ([], (((0 : UInt8), (false, false)), []))).2))))))
        (grd (room (iadd (len v3.2) (len ([lget x (toN v3.1) ([], (((0 : UInt8), (false, false)), []))] : List ((List UInt8) × (UInt8 × Bool × Bool) × List UInt8)))) 40)
         (v2 (w64 (iadd v3.1 (1 : Int)), lapp v3.2 ([lget x (toN v3.1) ([], (((0 : UInt8), (false, false)), []))] : List ((List UInt8) × (UInt8 × Bool × Bool) × List UInt8)))))))
      (grd (room (iadd (len v3.2) (len ([lget x (toN v3.1) ([], (((0 : UInt8), (false, false)), []))] : List ((List UInt8) × (UInt8 × Bool × Bool) × List UInt8)))) 40)
       (v2 (w64 (iadd v3.1 (1 : Int)), lapp v3.2 ([lget x (toN v3.1) ([], (((0 : UInt8), (false, false)), []))] : List ((List UInt8) × (UInt8 × Bool × Bool) × List UInt8))))))))
   (v1 v3.2)) N ((0 : Int), ([] : List ((List UInt8) × (UInt8 × Bool × Bool) × List UInt8)))
def ps_style_Norm : List PK := [.k (.v (.st (.slice (.st (.pair (.str) (.pair (.st (.pair (.u8) (.pair (.bool) (.bool)))) (.str)))))) [])]
def rs_style_Norm : List Kd := [.v (.st (.slice (.st (.pair (.str) (.pair (.st (.pair (.u8) (.pair (.bool) (.bool)))) (.str)))))) [0]]
def style_Norm (N : Nat) (x : List ((List UInt8) × (UInt8 × Bool × Bool) × List UInt8)) : Option (List ((List UInt8) × (UInt8 × Bool × Bool) × List UInt8)) :=
 bnd (style_norm N x) fun v0 =>
 some v0
def ps_stl_bare : List PK := [.k (.v (.slice (.st (.slice (.st (.pair (.str) (.pair (.st (.pair (.u8) (.pair (.bool) (.bool)))) (.str))))))) [])]
def rs_stl_bare : List Kd := [.v (.slice (.st (.slice (.st (.pair (.str) (.pair (.st (.pair (.u8) (.pair (.bool) (.bool)))) (.str))))))) [0]]
def stl_bare (N : Nat) (x : List (List ((List UInt8) × (UInt8 × Bool × Bool) × List UInt8))) : Option (List (List ((List UInt8) × (UInt8 × Bool × Bool) × List UInt8))) :=
 jn (fun (v0 : List (List ((List UInt8) × (UInt8 × Bool × Bool) × List UInt8))) =>
  some v0)
 fun v1 =>
 fixN (fun v2 (v3 : (List (List ((List UInt8) × (UInt8 × Bool × Bool) × List UInt8))) × Int) =>
  cnd (ilt v3.2 (len x))
   (jn (fun (v4 : List (List ((List UInt8) × (UInt8 × Bool × Bool) × List UInt8))) =>
    v2 (v4, w64 (iadd v3.2 (1 : Int))))
   fun v5 =>
   grd (inb v3.2 (len x)) <|
   jn (fun (v6 : List ((List UInt8) × (UInt8 × Bool × Bool) × List UInt8)) =>
    bnd (style_Norm N v6) fun v7 =>
    grd (room (iadd (len v3.1) (len ([v7] : List (List ((List UInt8) × (UInt8 × Bool × Bool) × List UInt8))))) 24) <|
    v5 (lapp v3.1 ([v7] : List (List ((List UInt8) × (UInt8 × Bool × Bool) × List UInt8)))))
   fun v8 =>
   fixN (fun v9 (v10 : Int × List ((List UInt8) × (UInt8 × Bool × Bool) × List UInt8)) =>
    cnd (ilt v10.1 (len (lget x (toN v3.2) [])))
     (grd (inb v10.1 (len (lget x (toN v3.2) [])))
      (grd (room (iadd (len v10.2) (len ([((lget (lget x (toN v3.2) []) (toN v10.1) ([], (((0 : UInt8), (false, false)), []))).1, (lget (lget x (toN v3.2) []) (toN v10.1) ([], (((0 : UInt8), (false, false)), []))).2.1, ([] : List UInt8))] : List ((List UInt8) × (UInt8 × Bool × Bool) × List UInt8)))) 40)
       (v9 (w64 (iadd v10.1 (1 : Int)), lapp v10.2 ([((lget (lget x (toN v3.2) []) (toN v10.1) ([], (((0 : UInt8), (false, false)), []))).1, (lget (lget x (toN v3.2) []) (toN v10.1) ([], (((0 : UInt8), (false, false)), []))).2.1, ([] : List UInt8))] : List ((List UInt8) × (UInt8 × Bool × Bool) × List UInt8))))))
     (v8 v10.2)) N ((0 : Int), ([] : List ((List UInt8) × (UInt8 × Bool × Bool) × List UInt8))))
   (v1 v3.1)) N (([] : List (List ((List UInt8) × (UInt8 × Bool × Bool) × List UInt8))), (0 : Int))
def ps_stl_Reduce : List PK := [.k (.v (.st (.pair (.str) (.pair (.str) (.pair (.u8) (.pair (.bool) (.pair (.int .i64) (.pair (.slice (.st (.pair (.str) (.pair (.int .i64) (.pair (.int .i64) (.pair (.int .i64) (.pair (.int .i64) (.pair (.u8) (.bool))))))))) (.pair (.slice (.st (.pair (.int .i64) (.pair (.st (.pair (.int .i64) (.int .i64))) (.pair (.str) (.pair (.u8) (.pair (.str) (.slice (.st (.slice (.st (.pair (.str) (.pair (.st (.pair (.u8) (.pair (.bool) (.bool)))) (.str)))))))))))))) (.slice (.st (.pair (.int .i64) (.pair (.int .i64) (.pair (.int .i64) (.pair (.int .i64) (.pair (.str) (.pair (.str) (.pair (.bool) (.bool)))))))))))))))))) [])]
def rs_stl_Reduce : List Kd := [.v (.st (.pair (.str) (.pair (.str) (.pair (.u8) (.pair (.bool) (.pair (.int .i64) (.pair (.slice (.st (.pair (.str) (.pair (.int .i64) (.pair (.int .i64) (.pair (.int .i64) (.pair (.int .i64) (.pair (.u8) (.bool))))))))) (.pair (.slice (.st (.pair (.int .i64) (.pair (.st (.pair (.int .i64) (.int .i64))) (.pair (.str) (.pair (.u8) (.pair (.str) (.slice (.st (.slice (.st (.pair (.str) (.pair (.st (.pair (.u8) (.pair (.bool) (.bool)))) (.str)))))))))))))) (.slice (.st (.pair (.int .i64) (.pair (.int .i64) (.pair (.int .i64) (.pair (.int .i64) (.pair (.str) (.pair (.str) (.pair (.bool) (.bool)))))))))))))))))) [6, 7]]
def stl_Reduce (N : Nat) (x : (List UInt8) × (List UInt8) × UInt8 × Bool × Int × (List ((List UInt8) × Int × Int × Int × Int × UInt8 × Bool)) × (List (Int × (Int × Int) × (List UInt8) × UInt8 × (List UInt8) × List (List ((List UInt8) × (UInt8 × Bool × Bool) × List UInt8)))) × List (Int × Int × Int × Int × (List UInt8) × (List UInt8) × Bool × Bool)) : Option ((List UInt8) × (List UInt8) × UInt8 × Bool × Int × (List ((List UInt8) × Int × Int × Int × Int × UInt8 × Bool)) × (List (Int × (Int × Int) × (List UInt8) × UInt8 × (List UInt8) × List (List ((List UInt8) × (UInt8 × Bool × Bool) × List UInt8)))) × List (Int × Int × Int × Int × (List UInt8) × (List UInt8) × Bool × Bool)) :=
 bnd (document_Check N x) fun v0 =>
 cnd (ine v0 (0 : Int))
  (some (([] : List UInt8), ([] : List UInt8), (0 : UInt8), false, (0 : Int), ([] : List ((List UInt8) × Int × Int × Int × Int × UInt8 × Bool)), ([] : List (Int × (Int × Int) × (List UInt8) × UInt8 × (List UInt8) × List (List ((List UInt8) × (UInt8 × Bool × Bool) × List UInt8)))), ([] : List (Int × Int × Int × Int × (List UInt8) × (List UInt8) × Bool × Bool))))
  (jn (fun (v1 : (List UInt8) × (List UInt8) × UInt8 × Bool × Int × (List ((List UInt8) × Int × Int × Int × Int × UInt8 × Bool)) × (List (Int × (Int × Int) × (List UInt8) × UInt8 × (List UInt8) × List (List ((List UInt8) × (UInt8 × Bool × Bool) × List UInt8)))) × List (Int × Int × Int × Int × (List UInt8) × (List UInt8) × Bool × Bool)) =>
   some v1)
  fun v2 =>
  fixN (fun v3 (v4 : Int × (List UInt8) × (List UInt8) × UInt8 × Bool × Int × (List ((List UInt8) × Int × Int × Int × Int × UInt8 × Bool)) × (List (Int × (Int × Int) × (List UInt8) × UInt8 × (List UInt8) × List (List ((List UInt8) × (UInt8 × Bool × Bool) × List UInt8)))) × List (Int × Int × Int × Int × (List UInt8) × (List UInt8) × Bool × Bool)) =>
   cnd (ilt v4.1 (len x.2.2.2.2.2.2.1))
    (grd (inb v4.1 (len x.2.2.2.2.2.2.1))
     (bnd (stl_placed N (x, lget x.2.2.2.2.2.2.1 (toN v4.1) ((0 : Int), (((0 : Int), (0 : Int)), ([], ((0 : UInt8), ([], []))))))) fun v5 =>
     bnd (stl_place_region N v5) fun v6 =>
     bnd (stl_add N (v4.2.2.2.2.2.2.1, v6)) fun v7 =>
     bnd (stl_bare N (lget x.2.2.2.2.2.2.1 (toN v4.1) ((0 : Int), (((0 : Int), (0 : Int)), ([], ((0 : UInt8), ([], [])))))).2.2.2.2.2) fun v8 =>
     grd (room (iadd (len v4.2.2.2.2.2.2.2.1) (len ([(w64 (iadd v4.1 (1 : Int)), (lget x.2.2.2.2.2.2.1 (toN v4.1) ((0 : Int), (((0 : Int), (0 : Int)), ([], ((0 : UInt8), ([], [])))))).2.1, v6.1, (1 : UInt8), ([] : List UInt8), v8)] : List (Int × (Int × Int) × (List UInt8) × UInt8 × (List UInt8) × List (List ((List UInt8) × (UInt8 × Bool × Bool) × List UInt8)))))) 88) <|
     v3 (w64 (iadd v4.1 (1 : Int)), v4.2.1, v4.2.2.1, v4.2.2.2.1, v4.2.2.2.2.1, v4.2.2.2.2.2.1, v7, lapp v4.2.2.2.2.2.2.2.1 ([(w64 (iadd v4.1 (1 : Int)), (lget x.2.2.2.2.2.2.1 (toN v4.1) ((0 : Int), (((0 : Int), (0 : Int)), ([], ((0 : UInt8), ([], [])))))).2.1, v6.1, (1 : UInt8), ([] : List UInt8), v8)] : List (Int × (Int × Int) × (List UInt8) × UInt8 × (List UInt8) × List (List ((List UInt8) × (UInt8 × Bool × Bool) × List UInt8)))), v4.2.2.2.2.2.2.2.2)))
    (v2 v4.2)) N ((0 : Int), x.1, x.2.1, x.2.2.1, x.2.2.2.1, len x.2.2.2.2.2.2.1, ([] : List ((List UInt8) × Int × Int × Int × Int × UInt8 × Bool)), ([] : List (Int × (Int × Int) × (List UInt8) × UInt8 × (List UInt8) × List (List ((List UInt8) × (UInt8 × Bool × Bool) × List UInt8)))), ([] : List (Int × Int × Int × Int × (List UInt8) × (List UInt8) × Bool × Bool))))
def ps_l24_awake : List PK := []
def rs_l24_awake : List Kd := [.v (.bool) []]
def l24_awake (N : Nat) (x : Unit) : Option (Bool) :=
 bnd (stl_Text N ([([(([97] : List UInt8), ((4 : UInt8), true, false), ([] : List UInt8)), (([32, 98] : List UInt8), ((0 : UInt8), false, false), ([] : List UInt8))] : List ((List UInt8) × (UInt8 × Bool × Bool) × List UInt8))] : List (List ((List UInt8) × (UInt8 × Bool × Bool) × List UInt8)))) fun v0 =>
 cnd (ine v0.2 (0 : Int))
  (some false)
  (bnd (slices_Equal_Lbyte_byte N (v0.1, ([1, 128, 97, 7, 129, 32, 98] : List UInt8))) fun v1 =>
  cnd (bnot v1)
   (some false)
   (grd (inb (0 : Int) (len ([([(([97] : List UInt8), ((4 : UInt8), true, false), ([] : List UInt8)), (([32, 98] : List UInt8), ((0 : UInt8), false, false), ([] : List UInt8))] : List ((List UInt8) × (UInt8 × Bool × Bool) × List UInt8))] : List (List ((List UInt8) × (UInt8 × Bool × Bool) × List UInt8)))))
    (grd (inb (0 : Int) (len ([([(([97] : List UInt8), ((4 : UInt8), true, false), ([] : List UInt8)), (([32, 98] : List UInt8), ((0 : UInt8), false, false), ([] : List UInt8))] : List ((List UInt8) × (UInt8 × Bool × Bool) × List UInt8))] : List (List ((List UInt8) × (UInt8 × Bool × Bool) × List UInt8)))))
     (bnd (stl_Reduce N (([] : List UInt8), ([] : List UInt8), (3 : UInt8), false, (4 : Int), ([] : List ((List UInt8) × Int × Int × Int × Int × UInt8 × Bool)), ([((4 : Int), ((0 : Int), (50 : Int)), ([] : List UInt8), (1 : UInt8), ([] : List UInt8), ([lget ([([(([97] : List UInt8), ((4 : UInt8), true, false), ([] : List UInt8)), (([32, 98] : List UInt8), ((0 : UInt8), false, false), ([] : List UInt8))] : List ((List UInt8) × (UInt8 × Bool × Bool) × List UInt8))] : List (List ((List UInt8) × (UInt8 × Bool × Bool) × List UInt8))) (toN (0 : Int)) [], lget ([([(([97] : List UInt8), ((4 : UInt8), true, false), ([] : List UInt8)), (([32, 98] : List UInt8), ((0 : UInt8), false, false), ([] : List UInt8))] : List ((List UInt8) × (UInt8 × Bool × Bool) × List UInt8))] : List (List ((List UInt8) × (UInt8 × Bool × Bool) × List UInt8))) (toN (0 : Int)) []] : List (List ((List UInt8) × (UInt8 × Bool × Bool) × List UInt8))))] : List (Int × (Int × Int) × (List UInt8) × UInt8 × (List UInt8) × List (List ((List UInt8) × (UInt8 × Bool × Bool) × List UInt8)))), ([] : List (Int × Int × Int × Int × (List UInt8) × (List UInt8) × Bool × Bool)))) fun v2 =>
     cnd (ieq (len v2.2.2.2.2.2.1) (1 : Int))
      (grd (inb (0 : Int) (len v2.2.2.2.2.2.1))
       (some (band (seq (lget v2.2.2.2.2.2.1 (toN (0 : Int)) ([], ((0 : Int), ((0 : Int), ((0 : Int), ((0 : Int), ((0 : UInt8), false))))))).1 ([82, 49, 51, 67] : List UInt8)) (band (ieq (lget v2.2.2.2.2.2.1 (toN (0 : Int)) ([], ((0 : Int), ((0 : Int), ((0 : Int), ((0 : Int), ((0 : UInt8), false))))))).2.1 (13 : Int)) (band (ieq (lget v2.2.2.2.2.2.1 (toN (0 : Int)) ([], ((0 : Int), ((0 : Int), ((0 : Int), ((0 : Int), ((0 : UInt8), false))))))).2.2.1 (2 : Int)) (band (ieq (lget v2.2.2.2.2.2.1 (toN (0 : Int)) ([], ((0 : Int), ((0 : Int), ((0 : Int), ((0 : Int), ((0 : UInt8), false))))))).2.2.2.1 (0 : Int)) (band (ieq (lget v2.2.2.2.2.2.1 (toN (0 : Int)) ([], ((0 : Int), ((0 : Int), ((0 : Int), ((0 : Int), ((0 : UInt8), false))))))).2.2.2.2.1 (32 : Int)) (band (ieq (n8 (lget v2.2.2.2.2.2.1 (toN (0 : Int)) ([], ((0 : Int), ((0 : Int), ((0 : Int), ((0 : Int), ((0 : UInt8), false))))))).2.2.2.2.2.1) (n8 (2 : UInt8))) (beqb (lget v2.2.2.2.2.2.1 (toN (0 : Int)) ([], ((0 : Int), ((0 : Int), ((0 : Int), ((0 : Int), ((0 : UInt8), false))))))).2.2.2.2.2.2 false)))))))))
      (some false)))))
def ps_l24_few : List PK := [.k (.v (.st (.pair (.str) (.pair (.str) (.pair (.u8) (.pair (.bool) (.pair (.int .i64) (.pair (.slice (.st (.pair (.str) (.pair (.int .i64) (.pair (.int .i64) (.pair (.int .i64) (.pair (.int .i64) (.pair (.u8) (.bool))))))))) (.pair (.slice (.st (.pair (.int .i64) (.pair (.st (.pair (.int .i64) (.int .i64))) (.pair (.str) (.pair (.u8) (.pair (.str) (.slice (.st (.slice (.st (.pair (.str) (.pair (.st (.pair (.u8) (.pair (.bool) (.bool)))) (.str)))))))))))))) (.slice (.st (.pair (.int .i64) (.pair (.int .i64) (.pair (.int .i64) (.pair (.int .i64) (.pair (.str) (.pair (.str) (.pair (.bool) (.bool)))))))))))))))))) [])]
def rs_l24_few : List Kd := [.v (.st (.pair (.str) (.pair (.str) (.pair (.u8) (.pair (.bool) (.pair (.int .i64) (.pair (.slice (.st (.pair (.str) (.pair (.int .i64) (.pair (.int .i64) (.pair (.int .i64) (.pair (.int .i64) (.pair (.u8) (.bool))))))))) (.pair (.slice (.st (.pair (.int .i64) (.pair (.st (.pair (.int .i64) (.int .i64))) (.pair (.str) (.pair (.u8) (.pair (.str) (.slice (.st (.slice (.st (.pair (.str) (.pair (.st (.pair (.u8) (.pair (.bool) (.bool)))) (.str)))))))))))))) (.slice (.st (.pair (.int .i64) (.pair (.int .i64) (.pair (.int .i64) (.pair (.int .i64) (.pair (.str) (.pair (.str) (.pair (.bool) (.bool)))))))))))))))))) []]
def l24_few (N : Nat) (x : (List UInt8) × (List UInt8) × UInt8 × Bool × Int × (List ((List UInt8) × Int × Int × Int × Int × UInt8 × Bool)) × (List (Int × (Int × Int) × (List UInt8) × UInt8 × (List UInt8) × List (List ((List UInt8) × (UInt8 × Bool × Bool) × List UInt8)))) × List (Int × Int × Int × Int × (List UInt8) × (List UInt8) × Bool × Bool)) : Option ((List UInt8) × (List UInt8) × UInt8 × Bool × Int × (List ((List UInt8) × Int × Int × Int × Int × UInt8 × Bool)) × (List (Int × (Int × Int) × (List UInt8) × UInt8 × (List UInt8) × List (List ((List UInt8) × (UInt8 × Bool × Bool) × List UInt8)))) × List (Int × Int × Int × Int × (List UInt8) × (List UInt8) × Bool × Bool)) :=
 grd (in2 (imin (len x.2.2.2.2.2.2.1) (5 : Int)) (len x.2.2.2.2.2.2.1)) <|
 grd (in2 (imin (len x.2.2.2.2.2.2.2) (4 : Int)) (len x.2.2.2.2.2.2.2)) <|
 grd (in2 (imin (len x.2.2.2.2.2.1) (6 : Int)) (len x.2.2.2.2.2.1)) <|
 some (x.1, x.2.1, x.2.2.1, x.2.2.2.1, x.2.2.2.2.1, ltake (toN (imin (len x.2.2.2.2.2.1) (6 : Int))) x.2.2.2.2.2.1, ltake (toN (imin (len x.2.2.2.2.2.2.1) (5 : Int))) x.2.2.2.2.2.2.1, ltake (toN (imin (len x.2.2.2.2.2.2.2) (4 : Int))) x.2.2.2.2.2.2.2)
def ps_timecode_rateError : List PK := [.k (.v (.u8) []), .k (.v (.bool) [])]
def rs_timecode_rateError : List Kd := [.v (.int .i64) []]
def timecode_rateError (N : Nat) (x : UInt8 × Bool) : Option (Int) :=
 bnd (timebase_Valid N x.1) fun v0 =>
 cnd (bnot v0)
  (some (3 : Int))
  (cnd x.2
   (bnd (timebase_CanDrop N x.1) fun v1 =>
   cnd (bnot v1)
    (some (13 : Int))
    (some (0 : Int)))
   (some (0 : Int)))
def ps_timebase_Nominal : List PK := [.k (.v (.u8) [])]
def rs_timebase_Nominal : List Kd := [.v (.int .i64) []]
def timebase_Nominal (N : Nat) (x : UInt8) : Option (Int) :=
 bnd (timebase_of N x) fun v0 =>
 some v0.2.2.1
def ps_timecode_dropped : List PK := [.k (.v (.u8) []), .k (.v (.bool) [])]
def rs_timecode_dropped : List Kd := [.v (.int .i64) []]
def timecode_dropped (N : Nat) (x : UInt8 × Bool) : Option (Int) :=
 cnd (bnot x.2)
  (some (0 : Int))
  (cnd (ieq (n8 x.1) (n8 (7 : UInt8)))
   (some (4 : Int))
   (some (2 : Int)))
def ps_timecode_Day : List PK := [.k (.v (.u8) []), .k (.v (.bool) [])]
def rs_timecode_Day : List Kd := [.v (.int .i64) []]
def timecode_Day (N : Nat) (x : UInt8 × Bool) : Option (Int) :=
 bnd (timecode_rateError N x) fun v0 =>
 cnd (ine v0 (0 : Int))
  (some (0 : Int))
  (bnd (timebase_Nominal N x.1) fun v1 =>
  bnd (timecode_dropped N x) fun v2 =>
  some (w64 (isub (w64 (imul (86400 : Int) v1)) (w64 (imul (1296 : Int) v2)))))
def ps_stl_Accept : List PK := [.k (.v (.st (.pair (.str) (.pair (.str) (.pair (.u8) (.pair (.bool) (.pair (.int .i64) (.pair (.slice (.st (.pair (.str) (.pair (.int .i64) (.pair (.int .i64) (.pair (.int .i64) (.pair (.int .i64) (.pair (.u8) (.bool))))))))) (.pair (.slice (.st (.pair (.int .i64) (.pair (.st (.pair (.int .i64) (.int .i64))) (.pair (.str) (.pair (.u8) (.pair (.str) (.slice (.st (.slice (.st (.pair (.str) (.pair (.st (.pair (.u8) (.pair (.bool) (.bool)))) (.str)))))))))))))) (.slice (.st (.pair (.int .i64) (.pair (.int .i64) (.pair (.int .i64) (.pair (.int .i64) (.pair (.str) (.pair (.str) (.pair (.bool) (.bool)))))))))))))))))) [])]
def rs_stl_Accept : List Kd := [.v (.int .i64) [], .v (.int .i64) []]
def stl_Accept (N : Nat) (x : (List UInt8) × (List UInt8) × UInt8 × Bool × Int × (List ((List UInt8) × Int × Int × Int × Int × UInt8 × Bool)) × (List (Int × (Int × Int) × (List UInt8) × UInt8 × (List UInt8) × List (List ((List UInt8) × (UInt8 × Bool × Bool) × List UInt8)))) × List (Int × Int × Int × Int × (List UInt8) × (List UInt8) × Bool × Bool)) : Option (Int × Int) :=
 bnd (document_Check N x) fun v0 =>
 cnd (ine v0 (0 : Int))
  (some ((-1 : Int), v0))
  (jn (fun (v1 : Unit) =>
   jn (fun (v2 : Unit) =>
    some ((-1 : Int), (0 : Int)))
   fun v3 =>
   fixN (fun v4 (v5 : (List ((List UInt8) × Int × Int × Int × Int × UInt8 × Bool)) × Int) =>
    cnd (ilt v5.2 (len x.2.2.2.2.2.2.1))
     (grd (inb v5.2 (len x.2.2.2.2.2.2.1))
      (bnd (timecode_Day N (x.2.2.1, false)) fun v6 =>
      cnd (ile v6 (lget x.2.2.2.2.2.2.1 (toN v5.2) ((0 : Int), (((0 : Int), (0 : Int)), ([], ((0 : UInt8), ([], [])))))).2.1.2)
       (some (v5.2, (2 : Int)))
       (bnd (stl_placed N (x, lget x.2.2.2.2.2.2.1 (toN v5.2) ((0 : Int), (((0 : Int), (0 : Int)), ([], ((0 : UInt8), ([], []))))))) fun v7 =>
       bnd (stl_place_region N v7) fun v8 =>
       bnd (stl_add N (v5.1, v8)) fun v9 =>
       cnd (ilt (16 : Int) (len v9))
        (some (v5.2, (9 : Int)))
        (v4 (v9, w64 (iadd v5.2 (1 : Int)))))))
     (v3 ())) N (([] : List ((List UInt8) × Int × Int × Int × Int × UInt8 × Bool)), (0 : Int)))
  fun v10 =>
  cnd (ine (n8 x.2.2.1) (n8 (3 : UInt8)))
   (cnd (ine (n8 x.2.2.1) (n8 (5 : UInt8)))
    (some ((-1 : Int), (13 : Int)))
    (v10 ()))
   (v10 ()))
def ps_timecode_Label : List PK := [.k (.v (.u8) []), .k (.v (.bool) []), .k (.v (.int .i64) [])]
def rs_timecode_Label : List Kd := [.v (.st (.pair (.int .i64) (.pair (.int .i64) (.pair (.int .i64) (.pair (.int .i64) (.bool)))))) [], .v (.int .i64) []]
def timecode_Label (N : Nat) (x : UInt8 × Bool × Int) : Option ((Int × Int × Int × Int × Bool) × Int) :=
 bnd (timecode_rateError N (x.1, x.2.1)) fun v0 =>
 cnd (ine v0 (0 : Int))
  (some (((0 : Int), (0 : Int), (0 : Int), (0 : Int), false), v0))
  (cnd (ilt x.2.2 (0 : Int))
   (some (((0 : Int), (0 : Int), (0 : Int), (0 : Int), false), (2 : Int)))
   (bnd (timecode_Day N (x.1, x.2.1)) fun v1 =>
   cnd (ile v1 x.2.2)
    (some (((0 : Int), (0 : Int), (0 : Int), (0 : Int), false), (2 : Int)))
    (bnd (timebase_Nominal N x.1) fun v2 =>
    bnd (timecode_dropped N (x.1, x.2.1)) fun v3 =>
    grd (ine (w64 (isub (w64 (imul (600 : Int) v2)) (w64 (imul (9 : Int) v3)))) (0 : Int)) <|
    grd (ine (w64 (isub (w64 (imul (600 : Int) v2)) (w64 (imul (9 : Int) v3)))) (0 : Int)) <|
    jn (fun (v4 : Int) =>
     grd (ine v2 (0 : Int)) <|
     grd (ine v2 (0 : Int)) <|
     some ((w64 (idiv (w64 (idiv v4 v2)) (3600 : Int)), imod (w64 (idiv (w64 (idiv v4 v2)) (60 : Int))) (60 : Int), imod (w64 (idiv v4 v2)) (60 : Int), imod v4 v2, x.2.1), (0 : Int)))
    fun v5 =>
    cnd (ile (w64 (imul (60 : Int) v2)) (imod x.2.2 (w64 (isub (w64 (imul (600 : Int) v2)) (w64 (imul (9 : Int) v3))))))
     (grd (ine (w64 (isub (w64 (imul (60 : Int) v2)) v3)) (0 : Int))
      (v5 (w64 (iadd (w64 (iadd x.2.2 (w64 (imul (w64 (imul (9 : Int) v3)) (w64 (idiv x.2.2 (w64 (isub (w64 (imul (600 : Int) v2)) (w64 (imul (9 : Int) v3)))))))))) (w64 (imul v3 (w64 (iadd (w64 (idiv (w64 (isub (imod x.2.2 (w64 (isub (w64 (imul (600 : Int) v2)) (w64 (imul (9 : Int) v3))))) (w64 (imul (60 : Int) v2)))) (w64 (isub (w64 (imul (60 : Int) v2)) v3)))) (1 : Int)))))))))
     (v5 (w64 (iadd x.2.2 (w64 (imul (w64 (imul (9 : Int) v3)) (w64 (idiv x.2.2 (w64 (isub (w64 (imul (600 : Int) v2)) (w64 (imul (9 : Int) v3))))))))))))))
def ps_tape_timed : List PK := [.k (.v (.st (.pair (.int .i64) (.pair (.int .i64) (.pair (.int .i64) (.pair (.int .i64) (.bool)))))) [])]
def rs_tape_timed : List Kd := [.v (.int .i64) []]
def tape_timed (N : Nat) (x : Int × Int × Int × Int × Bool) : Option (Int) :=
 cnd (ilt x.1 (0 : Int))
  (some (2 : Int))
  (cnd (ilt (23 : Int) x.1)
   (some (2 : Int))
   (cnd (ilt x.2.1 (0 : Int))
    (some (2 : Int))
    (cnd (ilt (59 : Int) x.2.1)
     (some (2 : Int))
     (cnd (ilt x.2.2.1 (0 : Int))
      (some (2 : Int))
      (cnd (ilt (59 : Int) x.2.2.1)
       (some (2 : Int))
       (cnd (ilt x.2.2.2.1 (0 : Int))
        (some (2 : Int))
        (cnd (ilt (29 : Int) x.2.2.2.1)
         (some (2 : Int))
         (some (0 : Int)))))))))
def ps_bytealg_IndexByte : List PK := [.k (.v (.slice (.u8)) []), .k (.v (.u8) [])]
def rs_bytealg_IndexByte : List Kd := [.v (.int .i64) []]
def bytealg_IndexByte (N : Nat) (x : List UInt8 × UInt8) : Option (Int) := hand_bytealg_IndexByte N x
def ps_bytes_IndexByte : List PK := [.k (.v (.slice (.u8)) []), .k (.v (.u8) [])]
def rs_bytes_IndexByte : List Kd := [.v (.int .i64) []]
def bytes_IndexByte (N : Nat) (x : List UInt8 × UInt8) : Option (Int) :=
 bnd (bytealg_IndexByte N x) fun v0 =>
 some v0
def ps_tape_Check : List PK := [.k (.v (.st (.pair (.int .i64) (.pair (.int .i64) (.pair (.u8) (.pair (.u8) (.pair (.st (.pair (.int .i64) (.pair (.int .i64) (.pair (.int .i64) (.pair (.int .i64) (.bool)))))) (.pair (.st (.pair (.int .i64) (.pair (.int .i64) (.pair (.int .i64) (.pair (.int .i64) (.bool)))))) (.pair (.int .i64) (.pair (.u8) (.pair (.bool) (.slice (.u8)))))))))))) [])]
def rs_tape_Check : List Kd := [.v (.int .i64) []]
def tape_Check (N : Nat) (x : Int × Int × UInt8 × UInt8 × (Int × Int × Int × Int × Bool) × (Int × Int × Int × Int × Bool) × Int × UInt8 × Bool × List UInt8) : Option (Int) :=
 cnd (ilt x.1 (0 : Int))
  (some (2 : Int))
  (cnd (ilt (255 : Int) x.1)
   (some (2 : Int))
   (cnd (ilt x.2.1 (0 : Int))
    (some (2 : Int))
    (cnd (ilt (65535 : Int) x.2.1)
     (some (2 : Int))
     (jn (fun (v0 : Bool) =>
      cnd v0
       (some (3 : Int))
       (bnd (tape_timed N x.2.2.2.2.1) fun v1 =>
       cnd (ine v1 (0 : Int))
        (some (2 : Int))
        (bnd (tape_timed N x.2.2.2.2.2.1) fun v2 =>
        cnd (ine v2 (0 : Int))
         (some (2 : Int))
         (cnd x.2.2.2.2.1.2.2.2.2
          (some (13 : Int))
          (cnd x.2.2.2.2.2.1.2.2.2.2
           (some (13 : Int))
           (cnd (ilt x.2.2.2.2.2.2.1 (0 : Int))
            (some (2 : Int))
            (cnd (ile (15 : Int) x.2.2.2.2.2.2.1)
             (some (2 : Int))
             (cnd (ilt (n8 x.2.2.2.2.2.2.2.1) (n8 (1 : UInt8)))
              (some (3 : Int))
              (cnd (ilt (n8 (3 : UInt8)) (n8 x.2.2.2.2.2.2.2.1))
               (some (3 : Int))
               (cnd (ilt (112 : Int) (len x.2.2.2.2.2.2.2.2.2))
                (some (9 : Int))
                (bnd (bytes_IndexByte N (x.2.2.2.2.2.2.2.2.2, (143 : UInt8))) fun v3 =>
                cnd (ile (0 : Int) v3)
                 (some (4 : Int))
                 (some (0 : Int)))))))))))))
     fun v4 =>
     cnd (ile (n8 (240 : UInt8)) (n8 x.2.2.1))
      (cnd (ilt (n8 x.2.2.1) (n8 (255 : UInt8)))
       (v4 true)
       (v4 (ilt (n8 (3 : UInt8)) (n8 x.2.2.2.1))))
      (v4 (ilt (n8 (3 : UInt8)) (n8 x.2.2.2.1)))))))
def ps_bytes_Clone : List PK := [.k (.v (.slice (.u8)) [])]
def rs_bytes_Clone : List Kd := [.v (.slice (.u8)) [0]]
def bytes_Clone (N : Nat) (x : List UInt8) : Option (List UInt8) :=
 cnd (ine (len x) (0 : Int))
  (grd (room (iadd (len ([] : List UInt8)) (len x)) 1)
   (some (lapp ([] : List UInt8) x)))
  (univ fun v0 =>
  cnd v0
   (some ([] : List UInt8))
   (grd (room (iadd (len ([] : List UInt8)) (len x)) 1)
    (some (lapp ([] : List UInt8) x))))
def ps_tape_Split : List PK := [.k (.v (.st (.pair (.int .i64) (.pair (.int .i64) (.pair (.u8) (.pair (.u8) (.pair (.st (.pair (.int .i64) (.pair (.int .i64) (.pair (.int .i64) (.pair (.int .i64) (.bool)))))) (.pair (.st (.pair (.int .i64) (.pair (.int .i64) (.pair (.int .i64) (.pair (.int .i64) (.bool)))))) (.pair (.int .i64) (.pair (.u8) (.pair (.bool) (.slice (.u8)))))))))))) []), .k (.v (.slice (.u8)) [])]
def rs_tape_Split : List Kd := [.v (.slice (.st (.pair (.int .i64) (.pair (.int .i64) (.pair (.u8) (.pair (.u8) (.pair (.st (.pair (.int .i64) (.pair (.int .i64) (.pair (.int .i64) (.pair (.int .i64) (.bool)))))) (.pair (.st (.pair (.int .i64) (.pair (.int .i64) (.pair (.int .i64) (.pair (.int .i64) (.bool)))))) (.pair (.int .i64) (.pair (.u8) (.pair (.bool) (.slice (.u8))))))))))))) [0], .v (.int .i64) []]
def tape_Split (N : Nat) (x : (Int × Int × UInt8 × UInt8 × (Int × Int × Int × Int × Bool) × (Int × Int × Int × Int × Bool) × Int × UInt8 × Bool × List UInt8) × List UInt8) : Option ((List (Int × Int × UInt8 × UInt8 × (Int × Int × Int × Int × Bool) × (Int × Int × Int × Int × Bool) × Int × UInt8 × Bool × List UInt8)) × Int) :=
 bnd (tape_Check N (x.1.1, x.1.2.1, (0 : UInt8), x.1.2.2.2.1, x.1.2.2.2.2.1, x.1.2.2.2.2.2.1, x.1.2.2.2.2.2.2.1, x.1.2.2.2.2.2.2.2.1, x.1.2.2.2.2.2.2.2.2.1, ([] : List UInt8))) fun v0 =>
 cnd (ine v0 (0 : Int))
  (some (([] : List (Int × Int × UInt8 × UInt8 × (Int × Int × Int × Int × Bool) × (Int × Int × Int × Int × Bool) × Int × UInt8 × Bool × List UInt8)), v0))
  (cnd (ilt (241 : Int) (imax (1 : Int) (w64 (idiv (w64 (isub (w64 (iadd (len x.2) (112 : Int))) (1 : Int))) (112 : Int)))))
   (some (([] : List (Int × Int × UInt8 × UInt8 × (Int × Int × Int × Int × Bool) × (Int × Int × Int × Int × Bool) × Int × UInt8 × Bool × List UInt8)), (9 : Int)))
   (bnd (bytes_IndexByte N (x.2, (143 : UInt8))) fun v1 =>
   cnd (ile (0 : Int) v1)
    (some (([] : List (Int × Int × UInt8 × UInt8 × (Int × Int × Int × Int × Bool) × (Int × Int × Int × Int × Bool) × Int × UInt8 × Bool × List UInt8)), (4 : Int)))
    (jn (fun (v2 : List (Int × Int × UInt8 × UInt8 × (Int × Int × Int × Int × Bool) × (Int × Int × Int × Int × Bool) × Int × UInt8 × Bool × List UInt8)) =>
     some (v2, (0 : Int)))
    fun v3 =>
    fixN (fun v4 (v5 : (List (Int × Int × UInt8 × UInt8 × (Int × Int × Int × Int × Bool) × (Int × Int × Int × Int × Bool) × Int × UInt8 × Bool × List UInt8)) × Int) =>
     cnd (ilt v5.2 (imax (1 : Int) (w64 (idiv (w64 (isub (w64 (iadd (len x.2) (112 : Int))) (1 : Int))) (112 : Int)))))
      (jn (fun (v6 : Int × Int × UInt8 × UInt8 × (Int × Int × Int × Int × Bool) × (Int × Int × Int × Int × Bool) × Int × UInt8 × Bool × List UInt8) =>
       grd (in3 (w64 (imul v5.2 (112 : Int))) (imin (len x.2) (w64 (imul (w64 (iadd v5.2 (1 : Int))) (112 : Int)))) (len x.2)) <|
       bnd (bytes_Clone N (ldrop (toN (w64 (imul v5.2 (112 : Int)))) (ltake (toN (imin (len x.2) (w64 (imul (w64 (iadd v5.2 (1 : Int))) (112 : Int))))) x.2))) fun v7 =>
       grd (room (iadd (len v5.1) (len ([(v6.1, v6.2.1, v6.2.2.1, v6.2.2.2.1, v6.2.2.2.2.1, v6.2.2.2.2.2.1, v6.2.2.2.2.2.2.1, v6.2.2.2.2.2.2.2.1, v6.2.2.2.2.2.2.2.2.1, v7)] : List (Int × Int × UInt8 × UInt8 × (Int × Int × Int × Int × Bool) × (Int × Int × Int × Int × Bool) × Int × UInt8 × Bool × List UInt8)))) 144) <|
       v4 (lapp v5.1 ([(v6.1, v6.2.1, v6.2.2.1, v6.2.2.2.1, v6.2.2.2.2.1, v6.2.2.2.2.2.1, v6.2.2.2.2.2.2.1, v6.2.2.2.2.2.2.2.1, v6.2.2.2.2.2.2.2.2.1, v7)] : List (Int × Int × UInt8 × UInt8 × (Int × Int × Int × Int × Bool) × (Int × Int × Int × Int × Bool) × Int × UInt8 × Bool × List UInt8)), w64 (iadd v5.2 (1 : Int))))
      fun v8 =>
      cnd (ieq v5.2 (w64 (isub (imax (1 : Int) (w64 (idiv (w64 (isub (w64 (iadd (len x.2) (112 : Int))) (1 : Int))) (112 : Int)))) (1 : Int))))
       (v8 (x.1.1, x.1.2.1, (255 : UInt8), x.1.2.2.2.1, x.1.2.2.2.2.1, x.1.2.2.2.2.2.1, x.1.2.2.2.2.2.2.1, x.1.2.2.2.2.2.2.2.1, x.1.2.2.2.2.2.2.2.2.1, ([] : List UInt8)))
       (v8 (x.1.1, x.1.2.1, b8 v5.2, x.1.2.2.2.1, x.1.2.2.2.2.1, x.1.2.2.2.2.2.1, x.1.2.2.2.2.2.2.1, x.1.2.2.2.2.2.2.2.1, x.1.2.2.2.2.2.2.2.2.1, ([] : List UInt8))))
      (v3 v5.1)) N (([] : List (Int × Int × UInt8 × UInt8 × (Int × Int × Int × Int × Bool) × (Int × Int × Int × Int × Bool) × Int × UInt8 × Bool × List UInt8)), (0 : Int)))))
def ps_timecode_Check : List PK := [.k (.v (.u8) []), .k (.v (.st (.pair (.int .i64) (.pair (.int .i64) (.pair (.int .i64) (.pair (.int .i64) (.bool)))))) [])]
def rs_timecode_Check : List Kd := [.v (.int .i64) []]
def timecode_Check (N : Nat) (x : UInt8 × Int × Int × Int × Int × Bool) : Option (Int) :=
 bnd (timecode_rateError N (x.1, x.2.2.2.2.2)) fun v0 =>
 cnd (ine v0 (0 : Int))
  (some v0)
  (cnd (ilt x.2.1 (0 : Int))
   (some (2 : Int))
   (cnd (ilt (23 : Int) x.2.1)
    (some (2 : Int))
    (cnd (ilt x.2.2.1 (0 : Int))
     (some (2 : Int))
     (cnd (ilt (59 : Int) x.2.2.1)
      (some (2 : Int))
      (cnd (ilt x.2.2.2.1 (0 : Int))
       (some (2 : Int))
       (cnd (ilt (59 : Int) x.2.2.2.1)
        (some (2 : Int))
        (cnd (ilt x.2.2.2.2.1 (0 : Int))
         (some (2 : Int))
         (bnd (timebase_Nominal N x.1) fun v1 =>
         cnd (ile v1 x.2.2.2.2.1)
          (some (2 : Int))
          (cnd (ieq x.2.2.2.1 (0 : Int))
           (cnd (ine (imod x.2.2.1 (10 : Int)) (0 : Int))
            (bnd (timecode_dropped N (x.1, x.2.2.2.2.2)) fun v2 =>
            cnd (ilt x.2.2.2.2.1 v2)
             (some (6 : Int))
             (some (0 : Int)))
            (some (0 : Int)))
           (some (0 : Int)))))))))))
def ps_tape_CheckHeader : List PK := [.k (.v (.st (.pair (.u8) (.pair (.str) (.pair (.str) (.pair (.int .i64) (.pair (.int .i64) (.pair (.st (.pair (.int .i64) (.pair (.int .i64) (.pair (.int .i64) (.pair (.int .i64) (.bool)))))) (.pair (.st (.pair (.int .i64) (.pair (.int .i64) (.pair (.int .i64) (.pair (.int .i64) (.bool)))))) (.pair (.int .i64) (.int .i64)))))))))) [])]
def rs_tape_CheckHeader : List Kd := [.v (.int .i64) []]
def tape_CheckHeader (N : Nat) (x : UInt8 × (List UInt8) × (List UInt8) × Int × Int × (Int × Int × Int × Int × Bool) × (Int × Int × Int × Int × Bool) × Int × Int) : Option (Int) :=
 jn (fun (v0 : Bool) =>
  cnd v0
   (some (13 : Int))
   (jn (fun (v1 : Bool) =>
    cnd v1
     (some (5 : Int))
     (bnd (charset_Valid N x.2.2.1) fun v2 =>
     cnd (bnot v2)
      (some (10 : Int))
      (cnd (ilt (400 : Int) (len x.2.2.1))
       (some (9 : Int))
       (cnd (ilt x.2.2.2.1 (0 : Int))
        (some (2 : Int))
        (cnd (ilt (99999 : Int) x.2.2.2.1)
         (some (2 : Int))
         (cnd (ilt x.2.2.2.2.1 (0 : Int))
          (some (2 : Int))
          (cnd (ilt (99999 : Int) x.2.2.2.2.1)
           (some (2 : Int))
           (cnd (ilt x.2.2.2.2.2.2.2.1 (0 : Int))
            (some (2 : Int))
            (cnd (ilt (99 : Int) x.2.2.2.2.2.2.2.1)
             (some (2 : Int))
             (cnd (ilt x.2.2.2.2.2.2.2.2 (0 : Int))
              (some (2 : Int))
              (cnd (ilt (99 : Int) x.2.2.2.2.2.2.2.2)
               (some (2 : Int))
               (cnd (ilt x.2.2.2.1 x.2.2.2.2.1)
                (some (8 : Int))
                (jn (fun (v3 : Unit) =>
                 cnd x.2.2.2.2.2.1.2.2.2.2
                  (some (13 : Int))
                  (cnd x.2.2.2.2.2.2.1.2.2.2.2
                   (some (13 : Int))
                   (some (0 : Int))))
                fun v4 =>
                fixN (fun v5 (v6 : Int) =>
                 cnd (ilt v6 (2 : Int))
                  (grd (inb v6 (ofN 2))
                   (bnd (timecode_Check N (x.1, lget ([x.2.2.2.2.2.1, x.2.2.2.2.2.2.1] : List (Int × Int × Int × Int × Bool)) (toN v6) ((0 : Int), ((0 : Int), ((0 : Int), ((0 : Int), false)))))) fun v7 =>
                   cnd (ine v7 (0 : Int))
                    (some v7)
                    (v5 (w64 (iadd v6 (1 : Int))))))
                  (v4 ())) N (0 : Int))))))))))))))
   fun v8 =>
   cnd (sne x.2.1 ([] : List UInt8))
    (bnd (lines_Name N x.2.1) fun v9 =>
    v8 (bnot v9))
    (v8 false)))
 fun v10 =>
 cnd (ine (n8 x.1) (n8 (3 : UInt8)))
  (v10 (ine (n8 x.1) (n8 (5 : UInt8))))
  (v10 false)
def ps_bits_Mul32 : List PK := [.k (.v (.int .u32) []), .k (.v (.int .u32) [])]
def rs_bits_Mul32 : List Kd := [.v (.int .u32) [], .v (.int .u32) []]
def bits_Mul32 (N : Nat) (x : Int × Int) : Option (Int × Int) :=
 some (wr .u32 (shrk .u64 (wr .u64 (imul (wr .u64 x.1) (wr .u64 x.2))) (32 : Int)), wr .u32 (wr .u64 (imul (wr .u64 x.1) (wr .u64 x.2))))
def ps_bits_Mul64 : List PK := [.k (.v (.int .u64) []), .k (.v (.int .u64) [])]
def rs_bits_Mul64 : List Kd := [.v (.int .u64) [], .v (.int .u64) []]
def bits_Mul64 (N : Nat) (x : Int × Int) : Option (Int × Int) :=
 some (wr .u64 (iadd (wr .u64 (iadd (wr .u64 (imul (shrk .u64 x.1 (32 : Int)) (shrk .u64 x.2 (32 : Int)))) (shrk .u64 (wr .u64 (iadd (wr .u64 (imul (shrk .u64 x.1 (32 : Int)) (bitb .and .u64 x.2 (4294967295 : Int)))) (shrk .u64 (wr .u64 (imul (bitb .and .u64 x.1 (4294967295 : Int)) (bitb .and .u64 x.2 (4294967295 : Int)))) (32 : Int)))) (32 : Int)))) (shrk .u64 (wr .u64 (iadd (bitb .and .u64 (wr .u64 (iadd (wr .u64 (imul (shrk .u64 x.1 (32 : Int)) (bitb .and .u64 x.2 (4294967295 : Int)))) (shrk .u64 (wr .u64 (imul (bitb .and .u64 x.1 (4294967295 : Int)) (bitb .and .u64 x.2 (4294967295 : Int)))) (32 : Int)))) (4294967295 : Int)) (wr .u64 (imul (bitb .and .u64 x.1 (4294967295 : Int)) (shrk .u64 x.2 (32 : Int)))))) (32 : Int))), wr .u64 (imul x.1 x.2))
def ps_bits_Mul : List PK := [.k (.v (.int .u64) []), .k (.v (.int .u64) [])]
def rs_bits_Mul : List Kd := [.v (.int .u64) [], .v (.int .u64) []]
def bits_Mul (N : Nat) (x : Int × Int) : Option (Int × Int) :=
 bnd (bits_Mul64 N x) fun v0 =>
 some v0
def ps_bytes_Repeat : List PK := [.k (.v (.slice (.u8)) []), .k (.v (.int .i64) [])]
def rs_bytes_Repeat : List Kd := [.v (.slice (.u8)) [0]]
def bytes_Repeat (N : Nat) (x : List UInt8 × Int) : Option (List UInt8) :=
 cnd (ieq x.2 (0 : Int))
  (some ([] : List UInt8))
  (cnd (ilt x.2 (0 : Int))
   none
   (bnd (bits_Mul N (wr .u64 (len x.1), wr .u64 x.2)) fun v0 =>
   cnd (ilt (0 : Int) v0.1)
    none
    (cnd (ilt (9223372036854775807 : Int) v0.2)
     none
     (cnd (ieq (len x.1) (0 : Int))
      (some ([] : List UInt8))
      (jn (fun (v1 : Int) =>
       grd (mkOk (w64 v0.2) (w64 v0.2) 1) <|
       univL (toN (w64 v0.2)) fun v2 =>
       grd (in3 (w64 v0.2) (w64 v0.2) (len v2)) <|
       jn (fun (v3 : List UInt8) =>
        some v3)
       fun v4 =>
       fixN (fun v5 (v6 : Int × List UInt8) =>
        cnd (ilt v6.1 (w64 v0.2))
         (grd (in2 v6.1 (ofN (nlen v6.2)))
          (grd (in2 (imin v6.1 v1) (ofN (nlen v6.2)))
           (v5 (w64 (iadd v6.1 (imin (len (cutl v6.2 0 (toN (imin v6.1 v1)))) (ofN (nsub (nlen v6.2) (toN v6.1))))), putl v6.2 (toN v6.1) (ltake (nsub (nlen v6.2) (toN v6.1)) (cutl v6.2 0 (toN (imin v6.1 v1))))))))
         (v4 v6.2)) N (imin (len x.1) (len (ltake (toN (w64 v0.2)) v2)), putl (ltake (toN (w64 v0.2)) v2) 0 (ltake (nlen (ltake (toN (w64 v0.2)) v2)) x.1)))
      fun v7 =>
      cnd (ilt (8192 : Int) (w64 v0.2))
       (grd (ine (len x.1) (0 : Int))
        (cnd (ieq (w64 (imul (w64 (idiv (8192 : Int) (len x.1))) (len x.1))) (0 : Int))
         (v7 (len x.1))
         (v7 (w64 (imul (w64 (idiv (8192 : Int) (len x.1))) (len x.1))))))
       (v7 (w64 v0.2)))))))
def ps_tape_signature : List PK := [.k (.v (.u8) [])]
def rs_tape_signature : List Kd := [.v (.str) []]
def tape_signature (N : Nat) (x : UInt8) : Option (List UInt8) :=
 cnd (ieq (n8 x) (n8 (5 : UInt8)))
  (some ([83, 84, 76, 51, 48, 46, 48, 49] : List UInt8))
  (some ([83, 84, 76, 50, 53, 46, 48, 49] : List UInt8))
def ps_tape_digits : List PK := [.k (.v (.int .i64) []), .k (.v (.int .i64) [])]
def rs_tape_digits : List Kd := [.v (.str) []]
def tape_digits (N : Nat) (x : Int × Int) : Option (List UInt8) :=
 grd (mkOk x.2 x.2 1) <|
 jn (fun (v0 : List UInt8) =>
  some v0)
 fun v1 =>
 fixN (fun v2 (v3 : Int × Int × List UInt8) =>
  cnd (ile (0 : Int) v3.2.1)
   (grd (inb v3.2.1 (len v3.2.2))
    (v2 (w64 (idiv v3.1 (10 : Int)), w64 (isub v3.2.1 (1 : Int)), lset v3.2.2 (toN v3.2.1) (b8 (w64 (iadd (48 : Int) (imod v3.1 (10 : Int))))))))
   (v1 v3.2.2)) N (x.1, w64 (isub x.2 (1 : Int)), lrep (toN x.2) (0 : UInt8))
def ps_tape_clock : List PK := [.k (.v (.st (.pair (.int .i64) (.pair (.int .i64) (.pair (.int .i64) (.pair (.int .i64) (.bool)))))) [])]
def rs_tape_clock : List Kd := [.v (.str) []]
def tape_clock (N : Nat) (x : Int × Int × Int × Int × Bool) : Option (List UInt8) :=
 bnd (tape_digits N (x.1, (2 : Int))) fun v0 =>
 bnd (tape_digits N (x.2.1, (2 : Int))) fun v1 =>
 grd (catOk (iadd (len v0) (len v1))) <|
 bnd (tape_digits N (x.2.2.1, (2 : Int))) fun v2 =>
 grd (catOk (iadd (len (lapp v0 v1)) (len v2))) <|
 bnd (tape_digits N (x.2.2.2.1, (2 : Int))) fun v3 =>
 grd (catOk (iadd (len (lapp (lapp v0 v1) v2)) (len v3))) <|
 some (lapp (lapp (lapp v0 v1) v2) v3)
def ps_tape_PutHeader : List PK := [.k (.v (.st (.pair (.u8) (.pair (.str) (.pair (.str) (.pair (.int .i64) (.pair (.int .i64) (.pair (.st (.pair (.int .i64) (.pair (.int .i64) (.pair (.int .i64) (.pair (.int .i64) (.bool)))))) (.pair (.st (.pair (.int .i64) (.pair (.int .i64) (.pair (.int .i64) (.pair (.int .i64) (.bool)))))) (.pair (.int .i64) (.int .i64)))))))))) [])]
def rs_tape_PutHeader : List Kd := [.v (.slice (.u8)) [0], .v (.int .i64) []]
def tape_PutHeader (N : Nat) (x : UInt8 × (List UInt8) × (List UInt8) × Int × Int × (Int × Int × Int × Int × Bool) × (Int × Int × Int × Int × Bool) × Int × Int) : Option (List UInt8 × Int) :=
 bnd (tape_CheckHeader N x) fun v0 =>
 cnd (ine v0 (0 : Int))
  (some (([] : List UInt8), v0))
  (bnd (latin_Encode N x.2.2.1) fun v1 =>
  grd (ilt (0 : Int) (len ([32] : List UInt8))) <|
  bnd (bytes_Repeat N (([32] : List UInt8), (1024 : Int))) fun v2 =>
  bnd (tape_signature N x.1) fun v3 =>
  grd (in2 (8 : Int) (ofN (nlen (putl v2 0 (ltake (nlen v2) v3))))) <|
  grd (in2 (24 : Int) (ofN (nlen (putl (putl v2 0 (ltake (nlen v2) v3)) (toN (8 : Int)) (ltake (nsub (nlen (putl v2 0 (ltake (nlen v2) v3))) (toN (8 : Int))) x.2.1))))) <|
  bnd (tape_digits N (len v1.1, (3 : Int))) fun v4 =>
  bnd (tape_digits N (x.2.2.2.1, (5 : Int))) fun v5 =>
  grd (catOk (iadd (len v4) (len v5))) <|
  bnd (tape_digits N (x.2.2.2.2.1, (5 : Int))) fun v6 =>
  grd (catOk (iadd (len (lapp v4 v5)) (len v6))) <|
  bnd (tape_clock N x.2.2.2.2.2.1) fun v7 =>
  grd (catOk (iadd (len (lapp (lapp v4 v5) v6)) (len v7))) <|
  bnd (tape_clock N x.2.2.2.2.2.2.1) fun v8 =>
  grd (catOk (iadd (len (lapp (lapp (lapp v4 v5) v6) v7)) (len v8))) <|
  bnd (tape_digits N (x.2.2.2.2.2.2.2.1, (2 : Int))) fun v9 =>
  grd (catOk (iadd (len (lapp (lapp (lapp (lapp v4 v5) v6) v7) v8)) (len v9))) <|
  bnd (tape_digits N (x.2.2.2.2.2.2.2.2, (2 : Int))) fun v10 =>
  grd (catOk (iadd (len (lapp (lapp (lapp (lapp (lapp v4 v5) v6) v7) v8) v9)) (len v10))) <|
  grd (in2 (64 : Int) (ofN (nlen (putl (putl (putl v2 0 (ltake (nlen v2) v3)) (toN (8 : Int)) (ltake (nsub (nlen (putl v2 0 (ltake (nlen v2) v3))) (toN (8 : Int))) x.2.1)) (toN (24 : Int)) (ltake (nsub (nlen (putl (putl v2 0 (ltake (nlen v2) v3)) (toN (8 : Int)) (ltake (nsub (nlen (putl v2 0 (ltake (nlen v2) v3))) (toN (8 : Int))) x.2.1))) (toN (24 : Int))) (lapp (lapp (lapp (lapp (lapp (lapp v4 v5) v6) v7) v8) v9) v10)))))) <|
  some (putl (putl (putl (putl v2 0 (ltake (nlen v2) v3)) (toN (8 : Int)) (ltake (nsub (nlen (putl v2 0 (ltake (nlen v2) v3))) (toN (8 : Int))) x.2.1)) (toN (24 : Int)) (ltake (nsub (nlen (putl (putl v2 0 (ltake (nlen v2) v3)) (toN (8 : Int)) (ltake (nsub (nlen (putl v2 0 (ltake (nlen v2) v3))) (toN (8 : Int))) x.2.1))) (toN (24 : Int))) (lapp (lapp (lapp (lapp (lapp (lapp v4 v5) v6) v7) v8) v9) v10))) (toN (64 : Int)) (ltake (nsub (nlen (putl (putl (putl v2 0 (ltake (nlen v2) v3)) (toN (8 : Int)) (ltake (nsub (nlen (putl v2 0 (ltake (nlen v2) v3))) (toN (8 : Int))) x.2.1)) (toN (24 : Int)) (ltake (nsub (nlen (putl (putl v2 0 (ltake (nlen v2) v3)) (toN (8 : Int)) (ltake (nsub (nlen (putl v2 0 (ltake (nlen v2) v3))) (toN (8 : Int))) x.2.1))) (toN (24 : Int))) (lapp (lapp (lapp (lapp (lapp (lapp v4 v5) v6) v7) v8) v9) v10)))) (toN (64 : Int))) v1.1), (0 : Int)))
def ps_tape_Put : List PK := [.k (.v (.st (.pair (.int .i64) (.pair (.int .i64) (.pair (.u8) (.pair (.u8) (.pair (.st (.pair (.int .i64) (.pair (.int .i64) (.pair (.int .i64) (.pair (.int .i64) (.bool)))))) (.pair (.st (.pair (.int .i64) (.pair (.int .i64) (.pair (.int .i64) (.pair (.int .i64) (.bool)))))) (.pair (.int .i64) (.pair (.u8) (.pair (.bool) (.slice (.u8)))))))))))) [])]
def rs_tape_Put : List Kd := [.v (.slice (.u8)) [0], .v (.int .i64) []]
def tape_Put (N : Nat) (x : Int × Int × UInt8 × UInt8 × (Int × Int × Int × Int × Bool) × (Int × Int × Int × Int × Bool) × Int × UInt8 × Bool × List UInt8) : Option (List UInt8 × Int) :=
 bnd (tape_Check N x) fun v0 =>
 cnd (ine v0 (0 : Int))
  (some (([] : List UInt8), v0))
  (jn (fun (v1 : UInt8) =>
   grd (room (iadd (len ([b8 x.1, b8 x.2.1, b8 (shrk .i64 x.2.1 (8 : Int)), x.2.2.1, x.2.2.2.1, b8 x.2.2.2.2.1.1, b8 x.2.2.2.2.1.2.1, b8 x.2.2.2.2.1.2.2.1, b8 x.2.2.2.2.1.2.2.2.1, b8 x.2.2.2.2.2.1.1, b8 x.2.2.2.2.2.1.2.1, b8 x.2.2.2.2.2.1.2.2.1, b8 x.2.2.2.2.2.1.2.2.2.1, b8 x.2.2.2.2.2.2.1, x.2.2.2.2.2.2.2.1, v1] : List UInt8)) (len x.2.2.2.2.2.2.2.2.2)) 1) <|
   bnd (bytes_Repeat N (([143] : List UInt8), w64 (isub (128 : Int) (len (lapp ([b8 x.1, b8 x.2.1, b8 (shrk .i64 x.2.1 (8 : Int)), x.2.2.1, x.2.2.2.1, b8 x.2.2.2.2.1.1, b8 x.2.2.2.2.1.2.1, b8 x.2.2.2.2.1.2.2.1, b8 x.2.2.2.2.1.2.2.2.1, b8 x.2.2.2.2.2.1.1, b8 x.2.2.2.2.2.1.2.1, b8 x.2.2.2.2.2.1.2.2.1, b8 x.2.2.2.2.2.1.2.2.2.1, b8 x.2.2.2.2.2.2.1, x.2.2.2.2.2.2.2.1, v1] : List UInt8) x.2.2.2.2.2.2.2.2.2))))) fun v2 =>
   grd (room (iadd (len (lapp ([b8 x.1, b8 x.2.1, b8 (shrk .i64 x.2.1 (8 : Int)), x.2.2.1, x.2.2.2.1, b8 x.2.2.2.2.1.1, b8 x.2.2.2.2.1.2.1, b8 x.2.2.2.2.1.2.2.1, b8 x.2.2.2.2.1.2.2.2.1, b8 x.2.2.2.2.2.1.1, b8 x.2.2.2.2.2.1.2.1, b8 x.2.2.2.2.2.1.2.2.1, b8 x.2.2.2.2.2.1.2.2.2.1, b8 x.2.2.2.2.2.2.1, x.2.2.2.2.2.2.2.1, v1] : List UInt8) x.2.2.2.2.2.2.2.2.2)) (len v2)) 1) <|
   some (lapp (lapp ([b8 x.1, b8 x.2.1, b8 (shrk .i64 x.2.1 (8 : Int)), x.2.2.1, x.2.2.2.1, b8 x.2.2.2.2.1.1, b8 x.2.2.2.2.1.2.1, b8 x.2.2.2.2.1.2.2.1, b8 x.2.2.2.2.1.2.2.2.1, b8 x.2.2.2.2.2.1.1, b8 x.2.2.2.2.2.1.2.1, b8 x.2.2.2.2.2.1.2.2.1, b8 x.2.2.2.2.2.1.2.2.2.1, b8 x.2.2.2.2.2.2.1, x.2.2.2.2.2.2.2.1, v1] : List UInt8) x.2.2.2.2.2.2.2.2.2) v2, (0 : Int)))
  fun v3 =>
  cnd x.2.2.2.2.2.2.2.2.1
   (v3 (1 : UInt8))
   (v3 (0 : UInt8)))
def ps_tape_Write : List PK := [.k (.v (.st (.pair (.u8) (.pair (.str) (.pair (.str) (.pair (.int .i64) (.pair (.int .i64) (.pair (.st (.pair (.int .i64) (.pair (.int .i64) (.pair (.int .i64) (.pair (.int .i64) (.bool)))))) (.pair (.st (.pair (.int .i64) (.pair (.int .i64) (.pair (.int .i64) (.pair (.int .i64) (.bool)))))) (.pair (.int .i64) (.int .i64)))))))))) []), .k (.v (.slice (.st (.pair (.int .i64) (.pair (.int .i64) (.pair (.u8) (.pair (.u8) (.pair (.st (.pair (.int .i64) (.pair (.int .i64) (.pair (.int .i64) (.pair (.int .i64) (.bool)))))) (.pair (.st (.pair (.int .i64) (.pair (.int .i64) (.pair (.int .i64) (.pair (.int .i64) (.bool)))))) (.pair (.int .i64) (.pair (.u8) (.pair (.bool) (.slice (.u8))))))))))))) [])]
def rs_tape_Write : List Kd := [.v (.slice (.u8)) [0], .v (.int .i64) []]
def tape_Write (N : Nat) (x : (UInt8 × (List UInt8) × (List UInt8) × Int × Int × (Int × Int × Int × Int × Bool) × (Int × Int × Int × Int × Bool) × Int × Int) × List (Int × Int × UInt8 × UInt8 × (Int × Int × Int × Int × Bool) × (Int × Int × Int × Int × Bool) × Int × UInt8 × Bool × List UInt8)) : Option (List UInt8 × Int) :=
 bnd (tape_PutHeader N x.1) fun v0 =>
 cnd (ine v0.2 (0 : Int))
  (some (([] : List UInt8), v0.2))
  (cnd (ine (len x.2) x.1.2.2.2.1)
   (some (([] : List UInt8), (1 : Int)))
   (jn (fun (v1 : List UInt8) =>
    some (v1, (0 : Int)))
   fun v2 =>
   fixN (fun v3 (v4 : (List UInt8) × Int) =>
    cnd (ilt v4.2 (len x.2))
     (grd (inb v4.2 (len x.2))
      (bnd (tape_Put N (lget x.2 (toN v4.2) ((0 : Int), ((0 : Int), ((0 : UInt8), ((0 : UInt8), (((0 : Int), ((0 : Int), ((0 : Int), ((0 : Int), false)))), (((0 : Int), ((0 : Int), ((0 : Int), ((0 : Int), false)))), ((0 : Int), ((0 : UInt8), (false, []))))))))))) fun v5 =>
      cnd (ine v5.2 (0 : Int))
       (some (([] : List UInt8), v5.2))
       (grd (room (iadd (len v4.1) (len v5.1)) 1)
        (v3 (lapp v4.1 v5.1, w64 (iadd v4.2 (1 : Int)))))))
     (v2 v4.1)) N (v0.1, (0 : Int))))
def ps_stl_Encode : List PK := [.k (.v (.st (.pair (.str) (.pair (.str) (.pair (.u8) (.pair (.bool) (.pair (.int .i64) (.pair (.slice (.st (.pair (.str) (.pair (.int .i64) (.pair (.int .i64) (.pair (.int .i64) (.pair (.int .i64) (.pair (.u8) (.bool))))))))) (.pair (.slice (.st (.pair (.int .i64) (.pair (.st (.pair (.int .i64) (.int .i64))) (.pair (.str) (.pair (.u8) (.pair (.str) (.slice (.st (.slice (.st (.pair (.str) (.pair (.st (.pair (.u8) (.pair (.bool) (.bool)))) (.str)))))))))))))) (.slice (.st (.pair (.int .i64) (.pair (.int .i64) (.pair (.int .i64) (.pair (.int .i64) (.pair (.str) (.pair (.str) (.pair (.bool) (.bool)))))))))))))))))) [])]
def rs_stl_Encode : List Kd := [.v (.slice (.u8)) [0], .v (.int .i64) []]
def stl_Encode (N : Nat) (x : (List UInt8) × (List UInt8) × UInt8 × Bool × Int × (List ((List UInt8) × Int × Int × Int × Int × UInt8 × Bool)) × (List (Int × (Int × Int) × (List UInt8) × UInt8 × (List UInt8) × List (List ((List UInt8) × (UInt8 × Bool × Bool) × List UInt8)))) × List (Int × Int × Int × Int × (List UInt8) × (List UInt8) × Bool × Bool)) : Option (List UInt8 × Int) :=
 bnd (stl_Accept N x) fun v0 =>
 cnd (ine v0.2 (0 : Int))
  (some (([] : List UInt8), v0.2))
  (jn (fun (v1 : (List (Int × Int × UInt8 × UInt8 × (Int × Int × Int × Int × Bool) × (Int × Int × Int × Int × Bool) × Int × UInt8 × Bool × List UInt8)) × UInt8 × (List UInt8) × (List UInt8) × Int × Int × (Int × Int × Int × Int × Bool) × (Int × Int × Int × Int × Bool) × Int × Int) =>
   bnd (tape_Write N ((v1.2.1, v1.2.2.1, v1.2.2.2.1, len v1.1, v1.2.2.2.2.2), v1.1)) fun v2 =>
   some v2)
  fun v3 =>
  fixN (fun v4 (v5 : (List (Int × Int × UInt8 × UInt8 × (Int × Int × Int × Int × Bool) × (Int × Int × Int × Int × Bool) × Int × UInt8 × Bool × List UInt8)) × Int × UInt8 × (List UInt8) × (List UInt8) × Int × Int × (Int × Int × Int × Int × Bool) × (Int × Int × Int × Int × Bool) × Int × Int) =>
   cnd (ilt v5.2.1 (len x.2.2.2.2.2.2.1))
    (grd (inb v5.2.1 (len x.2.2.2.2.2.2.1))
     (bnd (stl_placed N (x, lget x.2.2.2.2.2.2.1 (toN v5.2.1) ((0 : Int), (((0 : Int), (0 : Int)), ([], ((0 : UInt8), ([], []))))))) fun v6 =>
     bnd (timecode_Label N (x.2.2.1, false, (lget x.2.2.2.2.2.2.1 (toN v5.2.1) ((0 : Int), (((0 : Int), (0 : Int)), ([], ((0 : UInt8), ([], [])))))).2.1.1)) fun v7 =>
     bnd (timecode_Label N (x.2.2.1, false, (lget x.2.2.2.2.2.2.1 (toN v5.2.1) ((0 : Int), (((0 : Int), (0 : Int)), ([], ((0 : UInt8), ([], [])))))).2.1.2)) fun v8 =>
     jn (fun (v9 : UInt8 × (List UInt8) × (List UInt8) × Int × Int × (Int × Int × Int × Int × Bool) × (Int × Int × Int × Int × Bool) × Int × Int) =>
      bnd (stl_Text N (lget x.2.2.2.2.2.2.1 (toN v5.2.1) ((0 : Int), (((0 : Int), (0 : Int)), ([], ((0 : UInt8), ([], [])))))).2.2.2.2.2) fun v10 =>
      bnd (tape_Split N (((0 : Int), v5.2.1, (0 : UInt8), (0 : UInt8), v7.1, v8.1, v6.1, v6.2, false, ([] : List UInt8)), v10.1)) fun v11 =>
      cnd (ine v11.2 (0 : Int))
       (some (([] : List UInt8), v11.2))
       (grd (room (iadd (len v5.1) (len v11.1)) 144)
        (v4 (lapp v5.1 v11.1, w64 (iadd v5.2.1 (1 : Int)), v9))))
     fun v12 =>
     cnd (ieq v5.2.1 (0 : Int))
      (v12 (v5.2.2.1, v5.2.2.2.1, v5.2.2.2.2.1, v5.2.2.2.2.2.1, v5.2.2.2.2.2.2.1, v5.2.2.2.2.2.2.2.1, v7.1, v5.2.2.2.2.2.2.2.2.2))
      (v12 v5.2.2)))
    (v3 (v5.1, v5.2.2))) N (([] : List (Int × Int × UInt8 × UInt8 × (Int × Int × Int × Int × Bool) × (Int × Int × Int × Int × Bool) × Int × UInt8 × Bool × List UInt8)), (0 : Int), x.2.2.1, x.2.1, x.1, (0 : Int), len x.2.2.2.2.2.2.1, ((0 : Int), (0 : Int), (0 : Int), (0 : Int), false), ((0 : Int), (0 : Int), (0 : Int), (0 : Int), false), (15 : Int), (32 : Int)))
def ps_r08_Repertoire : List PK := []
def rs_r08_Repertoire : List Kd := [.v (.str) []]
def r08_Repertoire (N : Nat) (x : Unit) : Option (List UInt8) :=
 some ([32, 33, 34, 35, 36, 37, 38, 39, 40, 41, 42, 43, 44, 45, 46, 47, 48, 49, 50, 51, 52, 53, 54, 55, 56, 57, 58, 59, 60, 61, 62, 63, 64, 65, 66, 67, 68, 69, 70, 71, 72, 73, 74, 75, 76, 77, 78, 79, 80, 81, 82, 83, 84, 85, 86, 87, 88, 89, 90, 91, 92, 93, 94, 95, 96, 97, 98, 99, 100, 101, 102, 103, 104, 105, 106, 107, 108, 109, 110, 111, 112, 113, 114, 115, 116, 117, 118, 119, 120, 121, 122, 123, 124, 125, 126, 194, 161, 194, 162, 194, 163, 194, 164, 194, 165, 194, 166, 194, 167, 194, 169, 194, 171, 194, 174, 194, 176, 194, 183, 194, 187, 194, 189, 194, 191, 195, 128, 195, 129, 195, 130, 195, 131, 195, 132, 195, 133, 195, 134, 195, 135, 195, 136, 195, 137, 195, 138, 195, 139, 195, 140, 195, 141, 195, 142, 195, 143, 195, 145, 195, 146, 195, 147, 195, 148, 195, 149, 195, 150, 195, 152, 195, 153, 195, 154, 195, 155, 195, 156, 195, 159, 195, 160, 195, 161, 195, 162, 195, 163, 195, 164, 195, 165, 195, 166, 195, 167, 195, 168, 195, 169, 195, 170, 195, 171, 195, 172, 195, 173, 195, 174, 195, 175, 195, 177, 195, 178, 195, 179, 195, 180, 195, 181, 195, 182, 195, 184, 195, 185, 195, 186, 195, 187, 195, 188, 197, 146, 197, 147, 226, 128, 148, 226, 128, 152, 226, 128, 153, 226, 128, 156, 226, 128, 157, 226, 128, 162, 226, 128, 166, 226, 132, 162, 226, 153, 170] : List UInt8)
def ps_r08_Index : List PK := [.k (.v (.int .i32) [])]
def rs_r08_Index : List Kd := [.v (.int .i64) []]
def r08_Index (N : Nat) (x : Int) : Option (Int) :=
 jn (fun (v0 : Unit) =>
  jn (fun (v1 : Unit) =>
   some (-1 : Int))
  fun v2 =>
  bnd (r08_Repertoire N ()) fun v3 =>
  fixN (fun v4 (v5 : Int × (List UInt8) × Int) =>
   cnd (nlt (toN v5.2.2) (nlen v5.2.1))
    (cnd (ieq (decR v5.2.1 (toN v5.2.2)) x)
     (some v5.1)
     (v4 (w64 (iadd v5.1 (1 : Int)), v5.2.1, ofN (nadd (toN v5.2.2) (decW v5.2.1 (toN v5.2.2))))))
    (v2 ())) N ((0 : Int), v3, ofN 0))
 fun v6 =>
 cnd (ile (32 : Int) x)
  (cnd (ile x (126 : Int))
   (some (w64 (wr .i32 (isub x (32 : Int)))))
   (v6 ()))
  (v6 ())
def ps_r08_Valid : List PK := [.k (.v (.str) [])]
def rs_r08_Valid : List Kd := [.v (.bool) []]
def r08_Valid (N : Nat) (x : List UInt8) : Option (Bool) :=
 jn (fun (v0 : Unit) =>
  some true)
 fun v1 =>
 fixN (fun v2 (v3 : (List UInt8) × Int) =>
  cnd (nlt (toN v3.2) (nlen v3.1))
   (bnd (r08_Index N (decR v3.1 (toN v3.2))) fun v4 =>
   cnd (ilt v4 (0 : Int))
    (some false)
    (v2 (v3.1, ofN (nadd (toN v3.2) (decW v3.1 (toN v3.2))))))
   (v1 ())) N (x, ofN 0)
def ps_r07_digit : List PK := [.k (.v (.u8) [])]
def rs_r07_digit : List Kd := [.v (.bool) []]
def r07_digit (N : Nat) (x : UInt8) : Option (Bool) :=
 cnd (ile (n8 (48 : UInt8)) (n8 x))
  (some (ile (n8 x) (n8 (57 : UInt8))))
  (some false)
def ps_r07_Name : List PK := [.k (.v (.str) [])]
def rs_r07_Name : List Kd := [.v (.bool) []]
def r07_Name (N : Nat) (x : List UInt8) : Option (Bool) :=
 cnd (ilt (len x) (1 : Int))
  (some false)
  (cnd (ilt (16 : Int) (len x))
   (some false)
   (jn (fun (v0 : Unit) =>
    some true)
   fun v1 =>
   fixN (fun v2 (v3 : Int) =>
    cnd (ilt v3 (len x))
     (jn (fun (v4 : Bool) =>
      cnd (bnot v4)
       (cnd (ieq v3 (0 : Int))
        (some false)
        (grd (inb v3 (len x))
         (bnd (r07_digit N (lget x (toN v3) (0 : UInt8))) fun v5 =>
         cnd (bnot v5)
          (grd (inb v3 (len x))
           (cnd (ine (n8 (lget x (toN v3) (0 : UInt8))) (n8 (95 : UInt8)))
            (grd (inb v3 (len x))
             (cnd (ine (n8 (lget x (toN v3) (0 : UInt8))) (n8 (45 : UInt8)))
              (some false)
              (v2 (w64 (iadd v3 (1 : Int))))))
            (v2 (w64 (iadd v3 (1 : Int))))))
          (v2 (w64 (iadd v3 (1 : Int)))))))
       (v2 (w64 (iadd v3 (1 : Int)))))
     fun v6 =>
     grd (inb v3 (len x)) <|
     cnd (ile (n8 (65 : UInt8)) (n8 (lget x (toN v3) (0 : UInt8))))
      (grd (inb v3 (len x))
       (v6 (ile (n8 (lget x (toN v3) (0 : UInt8))) (n8 (90 : UInt8)))))
      (v6 false))
     (v1 ())) N (0 : Int)))
def ps_r02_Valid : List PK := [.k (.v (.u8) [])]
def rs_r02_Valid : List Kd := [.v (.bool) []]
def r02_Valid (N : Nat) (x : UInt8) : Option (Bool) :=
 cnd (ile (n8 (1 : UInt8)) (n8 x))
  (some (ile (n8 x) (n8 (7 : UInt8))))
  (some false)
def ps_r02_CanDrop : List PK := [.k (.v (.u8) [])]
def rs_r02_CanDrop : List Kd := [.v (.bool) []]
def r02_CanDrop (N : Nat) (x : UInt8) : Option (Bool) :=
 cnd (ieq (n8 x) (n8 (4 : UInt8)))
  (some true)
  (some (ieq (n8 x) (n8 (7 : UInt8))))
def ps_r12_checkHead : List PK := [.k (.v (.st (.pair (.str) (.pair (.str) (.pair (.u8) (.pair (.bool) (.pair (.int .i64) (.pair (.slice (.st (.pair (.str) (.pair (.int .i64) (.pair (.int .i64) (.pair (.int .i64) (.pair (.int .i64) (.pair (.u8) (.bool))))))))) (.pair (.slice (.st (.pair (.int .i64) (.pair (.st (.pair (.int .i64) (.int .i64))) (.pair (.str) (.pair (.u8) (.pair (.str) (.slice (.st (.slice (.st (.pair (.str) (.pair (.st (.pair (.u8) (.pair (.bool) (.bool)))) (.str)))))))))))))) (.slice (.st (.pair (.int .i64) (.pair (.int .i64) (.pair (.int .i64) (.pair (.int .i64) (.pair (.str) (.pair (.str) (.pair (.bool) (.bool)))))))))))))))))) [])]
def rs_r12_checkHead : List Kd := [.v (.int .i64) []]
def r12_checkHead (N : Nat) (x : (List UInt8) × (List UInt8) × UInt8 × Bool × Int × (List ((List UInt8) × Int × Int × Int × Int × UInt8 × Bool)) × (List (Int × (Int × Int) × (List UInt8) × UInt8 × (List UInt8) × List (List ((List UInt8) × (UInt8 × Bool × Bool) × List UInt8)))) × List (Int × Int × Int × Int × (List UInt8) × (List UInt8) × Bool × Bool)) : Option (Int) :=
 bnd (r08_Valid N x.1) fun v0 =>
 cnd (bnot v0)
  (some (10 : Int))
  (cnd (ilt (400 : Int) (len x.1))
   (some (9 : Int))
   (jn (fun (v1 : Bool) =>
    cnd v1
     (some (5 : Int))
     (jn (fun (v2 : Bool) =>
      cnd v2
       (some (13 : Int))
       (cnd (ilt x.2.2.2.2.1 (0 : Int))
        (some (2 : Int))
        (cnd (ilt (1099511627776 : Int) x.2.2.2.2.1)
         (some (2 : Int))
         (some (0 : Int)))))
     fun v3 =>
     bnd (r02_Valid N x.2.2.1) fun v4 =>
     cnd (bnot v4)
      (v3 true)
      (cnd x.2.2.2.1
       (bnd (r02_CanDrop N x.2.2.1) fun v5 =>
       v3 (bnot v5))
       (v3 false))))
   fun v6 =>
   cnd (sne x.2.1 ([] : List UInt8))
    (bnd (r07_Name N x.2.1) fun v7 =>
    v6 (bnot v7))
    (v6 false)))
def ps_r10_Check : List PK := [.k (.v (.st (.pair (.str) (.pair (.int .i64) (.pair (.int .i64) (.pair (.int .i64) (.pair (.int .i64) (.pair (.u8) (.bool)))))))) [])]
def rs_r10_Check : List Kd := [.v (.int .i64) []]
def r10_Check (N : Nat) (x : (List UInt8) × Int × Int × Int × Int × UInt8 × Bool) : Option (Int) :=
 bnd (r07_Name N x.1) fun v0 =>
 cnd (bnot v0)
  (some (5 : Int))
  (cnd (ilt x.2.1 (0 : Int))
   (some (2 : Int))
   (cnd (ilt (14 : Int) x.2.1)
    (some (2 : Int))
    (cnd (ilt x.2.2.1 (1 : Int))
     (some (2 : Int))
     (cnd (ilt (w64 (isub (15 : Int) x.2.1)) x.2.2.1)
      (some (2 : Int))
      (cnd (ilt x.2.2.2.1 (0 : Int))
       (some (2 : Int))
       (cnd (ilt (31 : Int) x.2.2.2.1)
        (some (2 : Int))
        (cnd (ilt x.2.2.2.2.1 (1 : Int))
         (some (2 : Int))
         (cnd (ilt (w64 (isub (32 : Int) x.2.2.2.1)) x.2.2.2.2.1)
          (some (2 : Int))
          (cnd (ine (n8 x.2.2.2.2.2.1) (n8 (1 : UInt8)))
           (cnd (ine (n8 x.2.2.2.2.2.1) (n8 (2 : UInt8)))
            (cnd (ine (n8 x.2.2.2.2.2.1) (n8 (3 : UInt8)))
             (some (3 : Int))
             (some (0 : Int)))
            (some (0 : Int)))
           (some (0 : Int)))))))))))
def ps_r10_CheckList : List PK := [.k (.v (.slice (.st (.pair (.str) (.pair (.int .i64) (.pair (.int .i64) (.pair (.int .i64) (.pair (.int .i64) (.pair (.u8) (.bool))))))))) [])]
def rs_r10_CheckList : List Kd := [.v (.int .i64) []]
def r10_CheckList (N : Nat) (x : List ((List UInt8) × Int × Int × Int × Int × UInt8 × Bool)) : Option (Int) :=
 cnd (ilt (16 : Int) (len x))
  (some (9 : Int))
  (jn (fun (v0 : Unit) =>
   some (0 : Int))
  fun v1 =>
  fixN (fun v2 (v3 : Int) =>
   cnd (ilt v3 (len x))
    (grd (inb v3 (len x))
     (bnd (r10_Check N (lget x (toN v3) ([], ((0 : Int), ((0 : Int), ((0 : Int), ((0 : Int), ((0 : UInt8), false)))))))) fun v4 =>
     cnd (ine v4 (0 : Int))
      (some v4)
      (jn (fun (v5 : Unit) =>
       cnd (ilt (0 : Int) v3)
        (grd (inb (w64 (isub v3 (1 : Int))) (len x))
         (cnd (slt (lget x (toN v3) ([], ((0 : Int), ((0 : Int), ((0 : Int), ((0 : Int), ((0 : UInt8), false))))))).1 (lget x (toN (w64 (isub v3 (1 : Int)))) ([], ((0 : Int), ((0 : Int), ((0 : Int), ((0 : Int), ((0 : UInt8), false))))))).1)
          (some (8 : Int))
          (v2 (w64 (iadd v3 (1 : Int))))))
        (v2 (w64 (iadd v3 (1 : Int)))))
      fun v6 =>
      cnd (ilt (0 : Int) v3)
       (grd (inb (w64 (isub v3 (1 : Int))) (len x))
        (cnd (seq (lget x (toN v3) ([], ((0 : Int), ((0 : Int), ((0 : Int), ((0 : Int), ((0 : UInt8), false))))))).1 (lget x (toN (w64 (isub v3 (1 : Int)))) ([], ((0 : Int), ((0 : Int), ((0 : Int), ((0 : Int), ((0 : UInt8), false))))))).1)
         (some (7 : Int))
         (v6 ())))
       (v6 ()))))
    (v1 ())) N (0 : Int))
def ps_r11_spanned : List PK := [.k (.v (.st (.pair (.int .i64) (.int .i64))) [])]
def rs_r11_spanned : List Kd := [.v (.bool) []]
def r11_spanned (N : Nat) (x : Int × Int) : Option (Bool) :=
 cnd (ile (0 : Int) x.1)
  (cnd (ilt x.1 x.2)
   (some (ile x.2 (5184000 : Int)))
   (some false))
  (some false)
def ps_r10_Default : List PK := []
def rs_r10_Default : List Kd := [.v (.st (.pair (.str) (.pair (.int .i64) (.pair (.int .i64) (.pair (.int .i64) (.pair (.int .i64) (.pair (.u8) (.bool)))))))) []]
def r10_Default (N : Nat) (x : Unit) : Option ((List UInt8) × Int × Int × Int × Int × UInt8 × Bool) :=
 some (([] : List UInt8), (11 : Int), (4 : Int), (0 : Int), (32 : Int), (2 : UInt8), true)
def ps_r10_Find : List PK := [.k (.v (.slice (.st (.pair (.str) (.pair (.int .i64) (.pair (.int .i64) (.pair (.int .i64) (.pair (.int .i64) (.pair (.u8) (.bool))))))))) []), .k (.v (.str) [])]
def rs_r10_Find : List Kd := [.v (.st (.pair (.str) (.pair (.int .i64) (.pair (.int .i64) (.pair (.int .i64) (.pair (.int .i64) (.pair (.u8) (.bool)))))))) [], .v (.bool) []]
def r10_Find (N : Nat) (x : (List ((List UInt8) × Int × Int × Int × Int × UInt8 × Bool)) × List UInt8) : Option (((List UInt8) × Int × Int × Int × Int × UInt8 × Bool) × Bool) :=
 cnd (seq x.2 ([] : List UInt8))
  (bnd (r10_Default N ()) fun v0 =>
  some (v0, true))
  (jn (fun (v1 : Unit) =>
   some ((([] : List UInt8), (0 : Int), (0 : Int), (0 : Int), (0 : Int), (0 : UInt8), false), false))
  fun v2 =>
  fixN (fun v3 (v4 : Int) =>
   cnd (ilt v4 (len x.1))
    (grd (inb v4 (len x.1))
     (cnd (seq (lget x.1 (toN v4) ([], ((0 : Int), ((0 : Int), ((0 : Int), ((0 : Int), ((0 : UInt8), false))))))).1 x.2)
      (some (lget x.1 (toN v4) ([], ((0 : Int), ((0 : Int), ((0 : Int), ((0 : Int), ((0 : UInt8), false)))))), true))
      (v3 (w64 (iadd v4 (1 : Int))))))
    (v2 ())) N (0 : Int))
def ps_r09_Valid : List PK := [.k (.v (.st (.pair (.u8) (.pair (.bool) (.bool)))) [])]
def rs_r09_Valid : List Kd := [.v (.bool) []]
def r09_Valid (N : Nat) (x : UInt8 × Bool × Bool) : Option (Bool) :=
 some (ile (n8 x.1) (n8 (6 : UInt8)))
def ps_r09_Check : List PK := [.k (.v (.st (.slice (.st (.pair (.str) (.pair (.st (.pair (.u8) (.pair (.bool) (.bool)))) (.str)))))) [])]
def rs_r09_Check : List Kd := [.v (.int .i64) []]
def r09_Check (N : Nat) (x : List ((List UInt8) × (UInt8 × Bool × Bool) × List UInt8)) : Option (Int) :=
 cnd (ilt (16 : Int) (len x))
  (some (9 : Int))
  (jn (fun (v0 : Unit) =>
   some (0 : Int))
  fun v1 =>
  fixN (fun v2 (v3 : Int) =>
   cnd (ilt v3 (len x))
    (grd (inb v3 (len x))
     (bnd (r08_Valid N (lget x (toN v3) ([], (((0 : UInt8), (false, false)), []))).1) fun v4 =>
     cnd (bnot v4)
      (some (10 : Int))
      (cnd (seq (lget x (toN v3) ([], (((0 : UInt8), (false, false)), []))).1 ([] : List UInt8))
       (some (4 : Int))
       (bnd (r09_Valid N (lget x (toN v3) ([], (((0 : UInt8), (false, false)), []))).2.1) fun v5 =>
       cnd (bnot v5)
        (some (12 : Int))
        (bnd (r08_Valid N (lget x (toN v3) ([], (((0 : UInt8), (false, false)), []))).2.2) fun v6 =>
        cnd (bnot v6)
         (some (10 : Int))
         (cnd (ilt (0 : Int) v3)
          (grd (inb (w64 (isub v3 (1 : Int))) (len x))
           (cnd (band (ieq (n8 (lget x (toN (w64 (isub v3 (1 : Int)))) ([], (((0 : UInt8), (false, false)), []))).2.1.1) (n8 (lget x (toN v3) ([], (((0 : UInt8), (false, false)), []))).2.1.1)) (band (beqb (lget x (toN (w64 (isub v3 (1 : Int)))) ([], (((0 : UInt8), (false, false)), []))).2.1.2.1 (lget x (toN v3) ([], (((0 : UInt8), (false, false)), []))).2.1.2.1) (beqb (lget x (toN (w64 (isub v3 (1 : Int)))) ([], (((0 : UInt8), (false, false)), []))).2.1.2.2 (lget x (toN v3) ([], (((0 : UInt8), (false, false)), []))).2.1.2.2)))
            (grd (inb (w64 (isub v3 (1 : Int))) (len x))
             (cnd (seq (lget x (toN (w64 (isub v3 (1 : Int)))) ([], (((0 : UInt8), (false, false)), []))).2.2 ([] : List UInt8))
              (cnd (seq (lget x (toN v3) ([], (((0 : UInt8), (false, false)), []))).2.2 ([] : List UInt8))
               (some (8 : Int))
               (v2 (w64 (iadd v3 (1 : Int)))))
              (v2 (w64 (iadd v3 (1 : Int))))))
            (v2 (w64 (iadd v3 (1 : Int))))))
          (v2 (w64 (iadd v3 (1 : Int))))))))))
    (v1 ())) N (0 : Int))
def ps_r09_Plain : List PK := [.k (.v (.st (.slice (.st (.pair (.str) (.pair (.st (.pair (.u8) (.pair (.bool) (.bool)))) (.str)))))) [])]
def rs_r09_Plain : List Kd := [.v (.str) []]
def r09_Plain (N : Nat) (x : List ((List UInt8) × (UInt8 × Bool × Bool) × List UInt8)) : Option (List UInt8) :=
 jn (fun (v0 : List UInt8) =>
  some v0)
 fun v1 =>
 fixN (fun v2 (v3 : (List UInt8) × Int) =>
  cnd (ilt v3.2 (len x))
   (grd (inb v3.2 (len x))
    (grd (catOk (iadd (len v3.1) (len (lget x (toN v3.2) ([], (((0 : UInt8), (false, false)), []))).1)))
     (v2 (lapp v3.1 (lget x (toN v3.2) ([], (((0 : UInt8), (false, false)), []))).1, w64 (iadd v3.2 (1 : Int))))))
   (v1 v3.1)) N (([] : List UInt8), (0 : Int))
def ps_r11_neat : List PK := [.k (.v (.str) [])]
def rs_r11_neat : List Kd := [.v (.bool) []]
def r11_neat (N : Nat) (x : List UInt8) : Option (Bool) :=
 cnd (seq x ([] : List UInt8))
  (some false)
  (grd (inb (0 : Int) (len x))
   (cnd (ieq (n8 (lget x (toN (0 : Int)) (0 : UInt8))) (n8 (32 : UInt8)))
    (some false)
    (grd (inb (w64 (isub (len x) (1 : Int))) (len x))
     (cnd (ieq (n8 (lget x (toN (w64 (isub (len x) (1 : Int)))) (0 : UInt8))) (n8 (32 : UInt8)))
      (some false)
      (jn (fun (v0 : Unit) =>
       some true)
      fun v1 =>
      fixN (fun v2 (v3 : Int) =>
       cnd (ilt v3 (len x))
        (grd (inb v3 (len x))
         (cnd (ieq (n8 (lget x (toN v3) (0 : UInt8))) (n8 (32 : UInt8)))
          (grd (inb (w64 (isub v3 (1 : Int))) (len x))
           (cnd (ieq (n8 (lget x (toN (w64 (isub v3 (1 : Int)))) (0 : UInt8))) (n8 (32 : UInt8)))
            (some false)
            (v2 (w64 (iadd v3 (1 : Int))))))
          (v2 (w64 (iadd v3 (1 : Int))))))
        (v1 ())) N (1 : Int))))))
def ps_r08_runes : List PK := [.k (.v (.str) [])]
def rs_r08_runes : List Kd := [.v (.slice (.int .i32)) [0]]
def r08_runes (N : Nat) (x : List UInt8) : Option (List Int) :=
 jn (fun (v0 : List Int) =>
  some v0)
 fun v1 =>
 fixN (fun v2 (v3 : (List Int) × (List UInt8) × Int) =>
  cnd (nlt (toN v3.2.2) (nlen v3.2.1))
   (grd (room (iadd (len v3.1) (len ([decR v3.2.1 (toN v3.2.2)] : List Int))) 4)
    (v2 (lapp v3.1 ([decR v3.2.1 (toN v3.2.2)] : List Int), v3.2.1, ofN (nadd (toN v3.2.2) (decW v3.2.1 (toN v3.2.2))))))
   (v1 v3.1)) N (([] : List Int), x, ofN 0)
def ps_r08_Len : List PK := [.k (.v (.str) [])]
def rs_r08_Len : List Kd := [.v (.int .i64) []]
def r08_Len (N : Nat) (x : List UInt8) : Option (Int) :=
 bnd (r08_Valid N x) fun v0 =>
 cnd (bnot v0)
  (some (-1 : Int))
  (bnd (r08_runes N x) fun v1 =>
  some (len v1))
def ps_r09_Len : List PK := [.k (.v (.st (.slice (.st (.pair (.str) (.pair (.st (.pair (.u8) (.pair (.bool) (.bool)))) (.str)))))) [])]
def rs_r09_Len : List Kd := [.v (.int .i64) []]
def r09_Len (N : Nat) (x : List ((List UInt8) × (UInt8 × Bool × Bool) × List UInt8)) : Option (Int) :=
 jn (fun (v0 : Int) =>
  some v0)
 fun v1 =>
 fixN (fun v2 (v3 : Int × Int) =>
  cnd (ilt v3.2 (len x))
   (grd (inb v3.2 (len x))
    (bnd (r08_Len N (lget x (toN v3.2) ([], (((0 : UInt8), (false, false)), []))).1) fun v4 =>
    cnd (ilt v4 (0 : Int))
     (some (-1 : Int))
     (v2 (w64 (iadd v3.1 v4), w64 (iadd v3.2 (1 : Int))))))
   (v1 v3.1)) N ((0 : Int), (0 : Int))
def ps_r10_usable : List PK := [.k (.v (.st (.pair (.str) (.pair (.int .i64) (.pair (.int .i64) (.pair (.int .i64) (.pair (.int .i64) (.pair (.u8) (.bool)))))))) [])]
def rs_r10_usable : List Kd := [.v (.bool) []]
def r10_usable (N : Nat) (x : (List UInt8) × Int × Int × Int × Int × UInt8 × Bool) : Option (Bool) :=
 bnd (r10_Check N x) fun v0 =>
 cnd (ieq v0 (0 : Int))
  (some true)
  (bnd (r10_Default N ()) fun v1 =>
  some (band (seq x.1 v1.1) (band (ieq x.2.1 v1.2.1) (band (ieq x.2.2.1 v1.2.2.1) (band (ieq x.2.2.2.1 v1.2.2.2.1) (band (ieq x.2.2.2.2.1 v1.2.2.2.2.1) (band (ieq (n8 x.2.2.2.2.2.1) (n8 v1.2.2.2.2.2.1)) (beqb x.2.2.2.2.2.2 v1.2.2.2.2.2.2))))))))
def ps_r10_Place : List PK := [.k (.v (.st (.pair (.str) (.pair (.int .i64) (.pair (.int .i64) (.pair (.int .i64) (.pair (.int .i64) (.pair (.u8) (.bool)))))))) []), .k (.v (.slice (.int .i64)) [])]
def rs_r10_Place : List Kd := [.v (.slice (.st (.pair (.int .i64) (.pair (.int .i64) (.int .i64))))) [0], .v (.int .i64) []]
def r10_Place (N : Nat) (x : ((List UInt8) × Int × Int × Int × Int × UInt8 × Bool) × List Int) : Option ((List (Int × Int × Int)) × Int) :=
 bnd (r10_usable N x.1) fun v0 =>
 cnd (bnot v0)
  (some (([] : List (Int × Int × Int)), (1 : Int)))
  (cnd (ilt x.1.2.2.1 (len x.2))
   (some (([] : List (Int × Int × Int)), (9 : Int)))
   (jn (fun (v1 : List (Int × Int × Int)) =>
    some (v1, (0 : Int)))
   fun v2 =>
   fixN (fun v3 (v4 : (List (Int × Int × Int)) × Int) =>
    cnd (ilt v4.2 (len x.2))
     (grd (inb v4.2 (len x.2))
      (cnd (ilt (lget x.2 (toN v4.2) (0 : Int)) (0 : Int))
       (some (([] : List (Int × Int × Int)), (2 : Int)))
       (cnd (ilt x.1.2.2.2.2.1 (lget x.2 (toN v4.2) (0 : Int)))
        (some (([] : List (Int × Int × Int)), (11 : Int)))
        (jn (fun (v5 : Int × Int × Int) =>
         cnd (ieq (n8 x.1.2.2.2.2.2.1) (n8 (3 : UInt8)))
          (grd (room (iadd (len v4.1) (len ([(v5.1, w64 (iadd v5.2.1 (w64 (isub x.1.2.2.2.2.1 (lget x.2 (toN v4.2) (0 : Int))))), v5.2.2)] : List (Int × Int × Int)))) 24)
           (v3 (lapp v4.1 ([(v5.1, w64 (iadd v5.2.1 (w64 (isub x.1.2.2.2.2.1 (lget x.2 (toN v4.2) (0 : Int))))), v5.2.2)] : List (Int × Int × Int)), w64 (iadd v4.2 (1 : Int)))))
          (cnd (ieq (n8 x.1.2.2.2.2.2.1) (n8 (2 : UInt8)))
           (grd (room (iadd (len v4.1) (len ([(v5.1, w64 (iadd v5.2.1 (w64 (idiv (w64 (isub x.1.2.2.2.2.1 (lget x.2 (toN v4.2) (0 : Int)))) (2 : Int)))), v5.2.2)] : List (Int × Int × Int)))) 24)
            (v3 (lapp v4.1 ([(v5.1, w64 (iadd v5.2.1 (w64 (idiv (w64 (isub x.1.2.2.2.2.1 (lget x.2 (toN v4.2) (0 : Int)))) (2 : Int)))), v5.2.2)] : List (Int × Int × Int)), w64 (iadd v4.2 (1 : Int)))))
           (grd (room (iadd (len v4.1) (len ([v5] : List (Int × Int × Int)))) 24)
            (v3 (lapp v4.1 ([v5] : List (Int × Int × Int)), w64 (iadd v4.2 (1 : Int)))))))
        fun v6 =>
        cnd x.1.2.2.2.2.2.2
         (v6 (w64 (iadd (w64 (iadd x.1.2.1 v4.2)) (w64 (isub x.1.2.2.1 (len x.2)))), x.1.2.2.2.1, lget x.2 (toN v4.2) (0 : Int)))
         (v6 (w64 (iadd x.1.2.1 v4.2), x.1.2.2.2.1, lget x.2 (toN v4.2) (0 : Int)))))))
     (v2 v4.1)) N (([] : List (Int × Int × Int)), (0 : Int))))
def ps_r11_Check : List PK := [.k (.v (.st (.pair (.int .i64) (.pair (.st (.pair (.int .i64) (.int .i64))) (.pair (.str) (.pair (.u8) (.pair (.str) (.slice (.st (.slice (.st (.pair (.str) (.pair (.st (.pair (.u8) (.pair (.bool) (.bool)))) (.str))))))))))))) []), .k (.v (.slice (.st (.pair (.str) (.pair (.int .i64) (.pair (.int .i64) (.pair (.int .i64) (.pair (.int .i64) (.pair (.u8) (.bool))))))))) [])]
def rs_r11_Check : List Kd := [.v (.int .i64) []]
def r11_Check (N : Nat) (x : (Int × (Int × Int) × (List UInt8) × UInt8 × (List UInt8) × List (List ((List UInt8) × (UInt8 × Bool × Bool) × List UInt8))) × List ((List UInt8) × Int × Int × Int × Int × UInt8 × Bool)) : Option (Int) :=
 cnd (ilt x.1.1 (1 : Int))
  (some (2 : Int))
  (cnd (ilt (1099511627776 : Int) x.1.1)
   (some (2 : Int))
   (bnd (r11_spanned N x.1.2.1) fun v0 =>
   cnd (bnot v0)
    (some (2 : Int))
    (bnd (r10_Find N (x.2, x.1.2.2.1)) fun v1 =>
    cnd (bnot v1.2)
     (some (6 : Int))
     (cnd (ilt (n8 x.1.2.2.2.1) (n8 (1 : UInt8)))
      (some (3 : Int))
      (cnd (ilt (n8 (4 : UInt8)) (n8 x.1.2.2.2.1))
       (some (3 : Int))
       (jn (fun (v2 : Bool) =>
        cnd v2
         (some (5 : Int))
         (cnd (ieq (len x.1.2.2.2.2.2) (0 : Int))
          (some (9 : Int))
          (cnd (ilt (4 : Int) (len x.1.2.2.2.2.2))
           (some (9 : Int))
           (jn (fun (v3 : List Int) =>
            bnd (r10_Place N (v1.1, v3)) fun v4 =>
            some v4.2)
           fun v5 =>
           fixN (fun v6 (v7 : (List Int) × Int) =>
            cnd (ilt v7.2 (len x.1.2.2.2.2.2))
             (grd (inb v7.2 (len x.1.2.2.2.2.2))
              (bnd (r09_Check N (lget x.1.2.2.2.2.2 (toN v7.2) [])) fun v8 =>
              cnd (ine v8 (0 : Int))
               (some v8)
               (bnd (r09_Plain N (lget x.1.2.2.2.2.2 (toN v7.2) [])) fun v9 =>
               bnd (r11_neat N v9) fun v10 =>
               cnd (bnot v10)
                (some (4 : Int))
                (bnd (r09_Len N (lget x.1.2.2.2.2.2 (toN v7.2) [])) fun v11 =>
                cnd (ilt (32 : Int) v11)
                 (some (11 : Int))
                 (bnd (r09_Len N (lget x.1.2.2.2.2.2 (toN v7.2) [])) fun v12 =>
                 grd (room (iadd (len v7.1) (len ([v12] : List Int))) 8) <|
                 v6 (lapp v7.1 ([v12] : List Int), w64 (iadd v7.2 (1 : Int))))))))
             (v5 v7.1)) N (([] : List Int), (0 : Int))))))
       fun v13 =>
       cnd (sne x.1.2.2.2.2.1 ([] : List UInt8))
        (bnd (r07_Name N x.1.2.2.2.2.1) fun v14 =>
        v13 (bnot v14))
        (v13 false)))))))
def ps_r11_Less : List PK := [.k (.v (.st (.pair (.int .i64) (.pair (.st (.pair (.int .i64) (.int .i64))) (.pair (.str) (.pair (.u8) (.pair (.str) (.slice (.st (.slice (.st (.pair (.str) (.pair (.st (.pair (.u8) (.pair (.bool) (.bool)))) (.str))))))))))))) []), .k (.v (.st (.pair (.int .i64) (.pair (.st (.pair (.int .i64) (.int .i64))) (.pair (.str) (.pair (.u8) (.pair (.str) (.slice (.st (.slice (.st (.pair (.str) (.pair (.st (.pair (.u8) (.pair (.bool) (.bool)))) (.str))))))))))))) [])]
def rs_r11_Less : List Kd := [.v (.bool) []]
def r11_Less (N : Nat) (x : (Int × (Int × Int) × (List UInt8) × UInt8 × (List UInt8) × List (List ((List UInt8) × (UInt8 × Bool × Bool) × List UInt8))) × Int × (Int × Int) × (List UInt8) × UInt8 × (List UInt8) × List (List ((List UInt8) × (UInt8 × Bool × Bool) × List UInt8))) : Option (Bool) :=
 cnd (ilt x.1.2.1.1 x.2.2.1.1)
  (some true)
  (cnd (ieq x.1.2.1.1 x.2.2.1.1)
   (some (ilt x.1.1 x.2.1))
   (some false))
def ps_r12_Find : List PK := [.k (.v (.st (.pair (.str) (.pair (.str) (.pair (.u8) (.pair (.bool) (.pair (.int .i64) (.pair (.slice (.st (.pair (.str) (.pair (.int .i64) (.pair (.int .i64) (.pair (.int .i64) (.pair (.int .i64) (.pair (.u8) (.bool))))))))) (.pair (.slice (.st (.pair (.int .i64) (.pair (.st (.pair (.int .i64) (.int .i64))) (.pair (.str) (.pair (.u8) (.pair (.str) (.slice (.st (.slice (.st (.pair (.str) (.pair (.st (.pair (.u8) (.pair (.bool) (.bool)))) (.str)))))))))))))) (.slice (.st (.pair (.int .i64) (.pair (.int .i64) (.pair (.int .i64) (.pair (.int .i64) (.pair (.str) (.pair (.str) (.pair (.bool) (.bool)))))))))))))))))) []), .k (.v (.int .i64) [])]
def rs_r12_Find : List Kd := [.v (.int .i64) []]
def r12_Find (N : Nat) (x : ((List UInt8) × (List UInt8) × UInt8 × Bool × Int × (List ((List UInt8) × Int × Int × Int × Int × UInt8 × Bool)) × (List (Int × (Int × Int) × (List UInt8) × UInt8 × (List UInt8) × List (List ((List UInt8) × (UInt8 × Bool × Bool) × List UInt8)))) × List (Int × Int × Int × Int × (List UInt8) × (List UInt8) × Bool × Bool)) × Int) : Option (Int) :=
 jn (fun (v0 : Unit) =>
  some (-1 : Int))
 fun v1 =>
 fixN (fun v2 (v3 : Int) =>
  cnd (ilt v3 (len x.1.2.2.2.2.2.2.1))
   (grd (inb v3 (len x.1.2.2.2.2.2.2.1))
    (cnd (ieq (lget x.1.2.2.2.2.2.2.1 (toN v3) ((0 : Int), (((0 : Int), (0 : Int)), ([], ((0 : UInt8), ([], [])))))).1 x.2)
     (some v3)
     (v2 (w64 (iadd v3 (1 : Int))))))
   (v1 ())) N (0 : Int)
def ps_r11_Len : List PK := [.k (.v (.st (.pair (.int .i64) (.pair (.st (.pair (.int .i64) (.int .i64))) (.pair (.str) (.pair (.u8) (.pair (.str) (.slice (.st (.slice (.st (.pair (.str) (.pair (.st (.pair (.u8) (.pair (.bool) (.bool)))) (.str))))))))))))) [])]
def rs_r11_Len : List Kd := [.v (.int .i64) []]
def r11_Len (N : Nat) (x : Int × (Int × Int) × (List UInt8) × UInt8 × (List UInt8) × List (List ((List UInt8) × (UInt8 × Bool × Bool) × List UInt8))) : Option (Int) :=
 jn (fun (v0 : Int) =>
  some v0)
 fun v1 =>
 fixN (fun v2 (v3 : Int × Int) =>
  cnd (ilt v3.2 (len x.2.2.2.2.2))
   (grd (inb v3.2 (len x.2.2.2.2.2))
    (bnd (r09_Len N (lget x.2.2.2.2.2 (toN v3.2) [])) fun v4 =>
    cnd (ilt v4 (0 : Int))
     (some (-1 : Int))
     (cnd (ilt (0 : Int) v3.2)
      (v2 (w64 (iadd (w64 (iadd v3.1 (1 : Int))) v4), w64 (iadd v3.2 (1 : Int))))
      (v2 (w64 (iadd v3.1 v4), w64 (iadd v3.2 (1 : Int)))))))
   (v1 v3.1)) N ((0 : Int), (0 : Int))
def ps_r12_checkComment : List PK := [.k (.v (.st (.pair (.str) (.pair (.str) (.pair (.u8) (.pair (.bool) (.pair (.int .i64) (.pair (.slice (.st (.pair (.str) (.pair (.int .i64) (.pair (.int .i64) (.pair (.int .i64) (.pair (.int .i64) (.pair (.u8) (.bool))))))))) (.pair (.slice (.st (.pair (.int .i64) (.pair (.st (.pair (.int .i64) (.int .i64))) (.pair (.str) (.pair (.u8) (.pair (.str) (.slice (.st (.slice (.st (.pair (.str) (.pair (.st (.pair (.u8) (.pair (.bool) (.bool)))) (.str)))))))))))))) (.slice (.st (.pair (.int .i64) (.pair (.int .i64) (.pair (.int .i64) (.pair (.int .i64) (.pair (.str) (.pair (.str) (.pair (.bool) (.bool)))))))))))))))))) []), .k (.v (.int .i64) [])]
def rs_r12_checkComment : List Kd := [.v (.int .i64) []]
def r12_checkComment (N : Nat) (x : ((List UInt8) × (List UInt8) × UInt8 × Bool × Int × (List ((List UInt8) × Int × Int × Int × Int × UInt8 × Bool)) × (List (Int × (Int × Int) × (List UInt8) × UInt8 × (List UInt8) × List (List ((List UInt8) × (UInt8 × Bool × Bool) × List UInt8)))) × List (Int × Int × Int × Int × (List UInt8) × (List UInt8) × Bool × Bool)) × Int) : Option (Int) :=
 grd (inb x.2 (len x.1.2.2.2.2.2.2.2)) <|
 cnd (ilt (lget x.1.2.2.2.2.2.2.2 (toN x.2) ((0 : Int), ((0 : Int), ((0 : Int), ((0 : Int), ([], ([], (false, false)))))))).1 (1 : Int))
  (some (2 : Int))
  (cnd (ilt x.1.2.2.2.2.1 (lget x.1.2.2.2.2.2.2.2 (toN x.2) ((0 : Int), ((0 : Int), ((0 : Int), ((0 : Int), ([], ([], (false, false)))))))).1)
   (some (2 : Int))
   (jn (fun (v0 : Unit) =>
    bnd (r12_Find N (x.1, (lget x.1.2.2.2.2.2.2.2 (toN x.2) ((0 : Int), ((0 : Int), ((0 : Int), ((0 : Int), ([], ([], (false, false)))))))).1)) fun v1 =>
    cnd (ile (0 : Int) v1)
     (some (7 : Int))
     (cnd (ilt (lget x.1.2.2.2.2.2.2.2 (toN x.2) ((0 : Int), ((0 : Int), ((0 : Int), ((0 : Int), ([], ([], (false, false)))))))).2.1 (1 : Int))
      (some (2 : Int))
      (cnd (ilt x.1.2.2.2.2.1 (lget x.1.2.2.2.2.2.2.2 (toN x.2) ((0 : Int), ((0 : Int), ((0 : Int), ((0 : Int), ([], ([], (false, false)))))))).2.1)
       (some (2 : Int))
       (jn (fun (v2 : Unit) =>
        bnd (r07_Name N (lget x.1.2.2.2.2.2.2.2 (toN x.2) ((0 : Int), ((0 : Int), ((0 : Int), ((0 : Int), ([], ([], (false, false)))))))).2.2.2.2.1) fun v3 =>
        cnd (bnot v3)
         (some (5 : Int))
         (bnd (r08_Valid N (lget x.1.2.2.2.2.2.2.2 (toN x.2) ((0 : Int), ((0 : Int), ((0 : Int), ((0 : Int), ([], ([], (false, false)))))))).2.2.2.2.2.1) fun v4 =>
         cnd (bnot v4)
          (some (10 : Int))
          (cnd (seq (lget x.1.2.2.2.2.2.2.2 (toN x.2) ((0 : Int), ((0 : Int), ((0 : Int), ((0 : Int), ([], ([], (false, false)))))))).2.2.2.2.2.1 ([] : List UInt8))
           (some (4 : Int))
           (cnd (ilt (400 : Int) (len (lget x.1.2.2.2.2.2.2.2 (toN x.2) ((0 : Int), ((0 : Int), ((0 : Int), ((0 : Int), ([], ([], (false, false)))))))).2.2.2.2.2.1))
            (some (9 : Int))
            (some (0 : Int))))))
       fun v5 =>
       cnd (lget x.1.2.2.2.2.2.2.2 (toN x.2) ((0 : Int), ((0 : Int), ((0 : Int), ((0 : Int), ([], ([], (false, false)))))))).2.2.2.2.2.2.2
        (cnd (ine (lget x.1.2.2.2.2.2.2.2 (toN x.2) ((0 : Int), ((0 : Int), ((0 : Int), ((0 : Int), ([], ([], (false, false)))))))).2.2.1 (0 : Int))
         (some (2 : Int))
         (cnd (ine (lget x.1.2.2.2.2.2.2.2 (toN x.2) ((0 : Int), ((0 : Int), ((0 : Int), ((0 : Int), ([], ([], (false, false)))))))).2.2.2.1 (0 : Int))
          (some (2 : Int))
          (v5 ())))
        (bnd (r12_Find N (x.1, (lget x.1.2.2.2.2.2.2.2 (toN x.2) ((0 : Int), ((0 : Int), ((0 : Int), ((0 : Int), ([], ([], (false, false)))))))).2.1)) fun v6 =>
        cnd (ilt v6 (0 : Int))
         (some (6 : Int))
         (cnd (ilt (lget x.1.2.2.2.2.2.2.2 (toN x.2) ((0 : Int), ((0 : Int), ((0 : Int), ((0 : Int), ([], ([], (false, false)))))))).2.2.1 (0 : Int))
          (some (2 : Int))
          (cnd (ile (lget x.1.2.2.2.2.2.2.2 (toN x.2) ((0 : Int), ((0 : Int), ((0 : Int), ((0 : Int), ([], ([], (false, false)))))))).2.2.2.1 (lget x.1.2.2.2.2.2.2.2 (toN x.2) ((0 : Int), ((0 : Int), ((0 : Int), ((0 : Int), ([], ([], (false, false)))))))).2.2.1)
           (some (2 : Int))
           (grd (inb v6 (len x.1.2.2.2.2.2.2.1))
            (bnd (r11_Len N (lget x.1.2.2.2.2.2.2.1 (toN v6) ((0 : Int), (((0 : Int), (0 : Int)), ([], ((0 : UInt8), ([], []))))))) fun v7 =>
            cnd (ilt v7 (lget x.1.2.2.2.2.2.2.2 (toN x.2) ((0 : Int), ((0 : Int), ((0 : Int), ((0 : Int), ([], ([], (false, false)))))))).2.2.2.1)
             (some (2 : Int))
             (v5 ()))))))))))
   fun v8 =>
   cnd (ilt (0 : Int) x.2)
    (grd (inb (w64 (isub x.2 (1 : Int))) (len x.1.2.2.2.2.2.2.2))
     (cnd (ile (lget x.1.2.2.2.2.2.2.2 (toN x.2) ((0 : Int), ((0 : Int), ((0 : Int), ((0 : Int), ([], ([], (false, false)))))))).1 (lget x.1.2.2.2.2.2.2.2 (toN (w64 (isub x.2 (1 : Int)))) ((0 : Int), ((0 : Int), ((0 : Int), ((0 : Int), ([], ([], (false, false)))))))).1)
      (some (8 : Int))
      (v8 ())))
    (v8 ())))
def ps_r12_Check : List PK := [.k (.v (.st (.pair (.str) (.pair (.str) (.pair (.u8) (.pair (.bool) (.pair (.int .i64) (.pair (.slice (.st (.pair (.str) (.pair (.int .i64) (.pair (.int .i64) (.pair (.int .i64) (.pair (.int .i64) (.pair (.u8) (.bool))))))))) (.pair (.slice (.st (.pair (.int .i64) (.pair (.st (.pair (.int .i64) (.int .i64))) (.pair (.str) (.pair (.u8) (.pair (.str) (.slice (.st (.slice (.st (.pair (.str) (.pair (.st (.pair (.u8) (.pair (.bool) (.bool)))) (.str)))))))))))))) (.slice (.st (.pair (.int .i64) (.pair (.int .i64) (.pair (.int .i64) (.pair (.int .i64) (.pair (.str) (.pair (.str) (.pair (.bool) (.bool)))))))))))))))))) [])]
def rs_r12_Check : List Kd := [.v (.int .i64) []]
def r12_Check (N : Nat) (x : (List UInt8) × (List UInt8) × UInt8 × Bool × Int × (List ((List UInt8) × Int × Int × Int × Int × UInt8 × Bool)) × (List (Int × (Int × Int) × (List UInt8) × UInt8 × (List UInt8) × List (List ((List UInt8) × (UInt8 × Bool × Bool) × List UInt8)))) × List (Int × Int × Int × Int × (List UInt8) × (List UInt8) × Bool × Bool)) : Option (Int) :=
 bnd (r12_checkHead N x) fun v0 =>
 cnd (ine v0 (0 : Int))
  (some v0)
  (bnd (r10_CheckList N x.2.2.2.2.2.1) fun v1 =>
  cnd (ine v1 (0 : Int))
   (some v1)
   (cnd (ilt (400 : Int) (len x.2.2.2.2.2.2.1))
    (some (9 : Int))
    (jn (fun (v2 : Unit) =>
     cnd (ilt (64 : Int) (len x.2.2.2.2.2.2.2))
      (some (9 : Int))
      (jn (fun (v3 : Unit) =>
       some (0 : Int))
      fun v4 =>
      fixN (fun v5 (v6 : Int) =>
       cnd (ilt v6 (len x.2.2.2.2.2.2.2))
        (bnd (r12_checkComment N (x, v6)) fun v7 =>
        cnd (ine v7 (0 : Int))
         (some v7)
         (v5 (w64 (iadd v6 (1 : Int)))))
        (v4 ())) N (0 : Int)))
    fun v8 =>
    fixN (fun v9 (v10 : Int) =>
     cnd (ilt v10 (len x.2.2.2.2.2.2.1))
      (grd (inb v10 (len x.2.2.2.2.2.2.1))
       (bnd (r11_Check N (lget x.2.2.2.2.2.2.1 (toN v10) ((0 : Int), (((0 : Int), (0 : Int)), ([], ((0 : UInt8), ([], []))))), x.2.2.2.2.2.1)) fun v11 =>
       cnd (ine v11 (0 : Int))
        (some v11)
        (cnd (ilt x.2.2.2.2.1 (lget x.2.2.2.2.2.2.1 (toN v10) ((0 : Int), (((0 : Int), (0 : Int)), ([], ((0 : UInt8), ([], [])))))).1)
         (some (2 : Int))
         (cnd (ilt (0 : Int) v10)
          (grd (inb (w64 (isub v10 (1 : Int))) (len x.2.2.2.2.2.2.1))
           (bnd (r11_Less N (lget x.2.2.2.2.2.2.1 (toN (w64 (isub v10 (1 : Int)))) ((0 : Int), (((0 : Int), (0 : Int)), ([], ((0 : UInt8), ([], []))))), lget x.2.2.2.2.2.2.1 (toN v10) ((0 : Int), (((0 : Int), (0 : Int)), ([], ((0 : UInt8), ([], []))))))) fun v12 =>
           cnd (bnot v12)
            (some (8 : Int))
            (bnd (r12_Find N (x, (lget x.2.2.2.2.2.2.1 (toN v10) ((0 : Int), (((0 : Int), (0 : Int)), ([], ((0 : UInt8), ([], [])))))).1)) fun v13 =>
            cnd (ine v13 v10)
             (some (7 : Int))
             (v9 (w64 (iadd v10 (1 : Int)))))))
          (bnd (r12_Find N (x, (lget x.2.2.2.2.2.2.1 (toN v10) ((0 : Int), (((0 : Int), (0 : Int)), ([], ((0 : UInt8), ([], [])))))).1)) fun v14 =>
          cnd (ine v14 v10)
           (some (7 : Int))
           (v9 (w64 (iadd v10 (1 : Int)))))))))
      (v8 ())) N (0 : Int))))
def ps_r02_Nominal : List PK := [.k (.v (.u8) [])]
def rs_r02_Nominal : List Kd := [.v (.int .i64) []]
def r02_Nominal (N : Nat) (x : UInt8) : Option (Int) :=
 bnd (r02_Valid N x) fun v0 =>
 cnd (bnot v0)
  (some (0 : Int))
  (grd (inb (n8 (b8 (isub (n8 x) (n8 (1 : UInt8))))) (len ([24, 24, 25, 30, 30, 50, 60] : List Int)))
   (some (lget ([24, 24, 25, 30, 30, 50, 60] : List Int) (toN (n8 (b8 (isub (n8 x) (n8 (1 : UInt8)))))) (0 : Int))))
def ps_r03_Dropped : List PK := [.k (.v (.u8) [])]
def rs_r03_Dropped : List Kd := [.v (.int .i64) []]
def r03_Dropped (N : Nat) (x : UInt8) : Option (Int) :=
 cnd (ieq (n8 x) (n8 (7 : UInt8)))
  (some (4 : Int))
  (some (2 : Int))
def ps_r03_Day : List PK := [.k (.v (.u8) []), .k (.v (.bool) [])]
def rs_r03_Day : List Kd := [.v (.int .i64) []]
def r03_Day (N : Nat) (x : UInt8 × Bool) : Option (Int) :=
 jn (fun (v0 : Unit) =>
  bnd (r02_Nominal N x.1) fun v1 =>
  cnd x.2
   (bnd (r03_Dropped N x.1) fun v2 =>
   some (w64 (isub (w64 (imul (86400 : Int) v1)) (w64 (imul v2 (1296 : Int))))))
   (some (w64 (imul (86400 : Int) v1))))
 fun v3 =>
 bnd (r02_Valid N x.1) fun v4 =>
 cnd (bnot v4)
  (some (0 : Int))
  (cnd x.2
   (bnd (r02_CanDrop N x.1) fun v5 =>
   cnd (bnot v5)
    (some (0 : Int))
    (v3 ()))
   (v3 ()))
def ps_r11_Spots : List PK := [.k (.v (.st (.pair (.int .i64) (.pair (.st (.pair (.int .i64) (.int .i64))) (.pair (.str) (.pair (.u8) (.pair (.str) (.slice (.st (.slice (.st (.pair (.str) (.pair (.st (.pair (.u8) (.pair (.bool) (.bool)))) (.str))))))))))))) []), .k (.v (.slice (.st (.pair (.str) (.pair (.int .i64) (.pair (.int .i64) (.pair (.int .i64) (.pair (.int .i64) (.pair (.u8) (.bool))))))))) [])]
def rs_r11_Spots : List Kd := [.v (.slice (.st (.pair (.int .i64) (.pair (.int .i64) (.int .i64))))) [0], .v (.int .i64) []]
def r11_Spots (N : Nat) (x : (Int × (Int × Int) × (List UInt8) × UInt8 × (List UInt8) × List (List ((List UInt8) × (UInt8 × Bool × Bool) × List UInt8))) × List ((List UInt8) × Int × Int × Int × Int × UInt8 × Bool)) : Option ((List (Int × Int × Int)) × Int) :=
 bnd (r10_Find N (x.2, x.1.2.2.1)) fun v0 =>
 cnd (bnot v0.2)
  (some (([] : List (Int × Int × Int)), (6 : Int)))
  (jn (fun (v1 : List Int) =>
   bnd (r10_Place N (v0.1, v1)) fun v2 =>
   some v2)
  fun v3 =>
  fixN (fun v4 (v5 : (List Int) × Int) =>
   cnd (ilt v5.2 (len x.1.2.2.2.2.2))
    (grd (inb v5.2 (len x.1.2.2.2.2.2))
     (bnd (r09_Len N (lget x.1.2.2.2.2.2 (toN v5.2) [])) fun v6 =>
     cnd (ilt v6 (0 : Int))
      (some (([] : List (Int × Int × Int)), (10 : Int)))
      (bnd (r09_Len N (lget x.1.2.2.2.2.2 (toN v5.2) [])) fun v7 =>
      grd (room (iadd (len v5.1) (len ([v7] : List Int))) 8) <|
      v4 (lapp v5.1 ([v7] : List Int), w64 (iadd v5.2 (1 : Int))))))
    (v3 v5.1)) N (([] : List Int), (0 : Int)))
def ps_r24_place : List PK := [.k (.v (.st (.pair (.int .i64) (.pair (.st (.pair (.int .i64) (.int .i64))) (.pair (.str) (.pair (.u8) (.pair (.str) (.slice (.st (.slice (.st (.pair (.str) (.pair (.st (.pair (.u8) (.pair (.bool) (.bool)))) (.str))))))))))))) []), .k (.v (.slice (.st (.pair (.str) (.pair (.int .i64) (.pair (.int .i64) (.pair (.int .i64) (.pair (.int .i64) (.pair (.u8) (.bool))))))))) [])]
def rs_r24_place : List Kd := [.v (.int .i64) [], .v (.u8) []]
def r24_place (N : Nat) (x : (Int × (Int × Int) × (List UInt8) × UInt8 × (List UInt8) × List (List ((List UInt8) × (UInt8 × Bool × Bool) × List UInt8))) × List ((List UInt8) × Int × Int × Int × Int × UInt8 × Bool)) : Option (Int × UInt8) :=
 bnd (r11_Spots N x) fun v0 =>
 bnd (r10_Find N (x.2, x.1.2.2.1)) fun v1 =>
 grd (inb (0 : Int) (len v0.1)) <|
 some ((lget v0.1 (toN (0 : Int)) ((0 : Int), ((0 : Int), (0 : Int)))).1, v1.1.2.2.2.2.2.1)
def ps_r24_letters : List PK := []
def rs_r24_letters : List Kd := [.v (.str) []]
def r24_letters (N : Nat) (x : Unit) : Option (List UInt8) :=
 some ([76, 67, 82] : List UInt8)
def ps_r24_region : List PK := [.k (.v (.int .i64) []), .k (.v (.u8) [])]
def rs_r24_region : List Kd := [.v (.st (.pair (.str) (.pair (.int .i64) (.pair (.int .i64) (.pair (.int .i64) (.pair (.int .i64) (.pair (.u8) (.bool)))))))) []]
def r24_region (N : Nat) (x : Int × UInt8) : Option ((List UInt8) × Int × Int × Int × Int × UInt8 × Bool) :=
 bnd (r24_letters N ()) fun v0 =>
 grd (inb (n8 (b8 (isub (n8 x.2) (n8 (1 : UInt8))))) (len v0)) <|
 grd (catOk (iadd (len ([82] : List UInt8)) (len ([b8 (w64 (iadd (48 : Int) (w64 (idiv x.1 (10 : Int))))), b8 (w64 (iadd (48 : Int) (imod x.1 (10 : Int)))), lget v0 (toN (n8 (b8 (isub (n8 x.2) (n8 (1 : UInt8)))))) (0 : UInt8)] : List UInt8)))) <|
 some (lapp ([82] : List UInt8) ([b8 (w64 (iadd (48 : Int) (w64 (idiv x.1 (10 : Int))))), b8 (w64 (iadd (48 : Int) (imod x.1 (10 : Int)))), lget v0 (toN (n8 (b8 (isub (n8 x.2) (n8 (1 : UInt8)))))) (0 : UInt8)] : List UInt8), x.1, w64 (isub (15 : Int) x.1), (0 : Int), (32 : Int), x.2, false)
def ps_r24_with : List PK := [.k (.v (.slice (.st (.pair (.str) (.pair (.int .i64) (.pair (.int .i64) (.pair (.int .i64) (.pair (.int .i64) (.pair (.u8) (.bool))))))))) []), .k (.v (.st (.pair (.str) (.pair (.int .i64) (.pair (.int .i64) (.pair (.int .i64) (.pair (.int .i64) (.pair (.u8) (.bool)))))))) [])]
def rs_r24_with : List Kd := [.v (.slice (.st (.pair (.str) (.pair (.int .i64) (.pair (.int .i64) (.pair (.int .i64) (.pair (.int .i64) (.pair (.u8) (.bool))))))))) []]
def r24_with (N : Nat) (x : (List ((List UInt8) × Int × Int × Int × Int × UInt8 × Bool)) × (List UInt8) × Int × Int × Int × Int × UInt8 × Bool) : Option (List ((List UInt8) × Int × Int × Int × Int × UInt8 × Bool)) :=
 jn (fun (v0 : (List ((List UInt8) × Int × Int × Int × Int × UInt8 × Bool)) × Bool) =>
  cnd (bnot v0.2)
   (grd (room (iadd (len v0.1) (len ([x.2] : List ((List UInt8) × Int × Int × Int × Int × UInt8 × Bool)))) 56)
    (some (lapp v0.1 ([x.2] : List ((List UInt8) × Int × Int × Int × Int × UInt8 × Bool)))))
   (some v0.1))
 fun v1 =>
 fixN (fun v2 (v3 : (List ((List UInt8) × Int × Int × Int × Int × UInt8 × Bool)) × Bool × Int) =>
  cnd (ilt v3.2.2 (len x.1))
   (grd (inb v3.2.2 (len x.1))
    (cnd (seq (lget x.1 (toN v3.2.2) ([], ((0 : Int), ((0 : Int), ((0 : Int), ((0 : Int), ((0 : UInt8), false))))))).1 x.2.1)
     (some x.1)
     (cnd (bnot v3.2.1)
      (cnd (slt x.2.1 (lget x.1 (toN v3.2.2) ([], ((0 : Int), ((0 : Int), ((0 : Int), ((0 : Int), ((0 : UInt8), false))))))).1)
       (grd (room (iadd (len v3.1) (len ([x.2] : List ((List UInt8) × Int × Int × Int × Int × UInt8 × Bool)))) 56)
        (grd (room (iadd (len (lapp v3.1 ([x.2] : List ((List UInt8) × Int × Int × Int × Int × UInt8 × Bool)))) (len ([lget x.1 (toN v3.2.2) ([], ((0 : Int), ((0 : Int), ((0 : Int), ((0 : Int), ((0 : UInt8), false))))))] : List ((List UInt8) × Int × Int × Int × Int × UInt8 × Bool)))) 56)
         (v2 (lapp (lapp v3.1 ([x.2] : List ((List UInt8) × Int × Int × Int × Int × UInt8 × Bool))) ([lget x.1 (toN v3.2.2) ([], ((0 : Int), ((0 : Int), ((0 : Int), ((0 : Int), ((0 : UInt8), false))))))] : List ((List UInt8) × Int × Int × Int × Int × UInt8 × Bool)), true, w64 (iadd v3.2.2 (1 : Int))))))
       (grd (room (iadd (len v3.1) (len ([lget x.1 (toN v3.2.2) ([], ((0 : Int), ((0 : Int), ((0 : Int), ((0 : Int), ((0 : UInt8), false))))))] : List ((List UInt8) × Int × Int × Int × Int × UInt8 × Bool)))) 56)
        (v2 (lapp v3.1 ([lget x.1 (toN v3.2.2) ([], ((0 : Int), ((0 : Int), ((0 : Int), ((0 : Int), ((0 : UInt8), false))))))] : List ((List UInt8) × Int × Int × Int × Int × UInt8 × Bool)), v3.2.1, w64 (iadd v3.2.2 (1 : Int))))))
      (grd (room (iadd (len v3.1) (len ([lget x.1 (toN v3.2.2) ([], ((0 : Int), ((0 : Int), ((0 : Int), ((0 : Int), ((0 : UInt8), false))))))] : List ((List UInt8) × Int × Int × Int × Int × UInt8 × Bool)))) 56)
       (v2 (lapp v3.1 ([lget x.1 (toN v3.2.2) ([], ((0 : Int), ((0 : Int), ((0 : Int), ((0 : Int), ((0 : UInt8), false))))))] : List ((List UInt8) × Int × Int × Int × Int × UInt8 × Bool)), v3.2.1, w64 (iadd v3.2.2 (1 : Int))))))))
   (v1 (v3.1, v3.2.1))) N (([] : List ((List UInt8) × Int × Int × Int × Int × UInt8 × Bool)), false, (0 : Int))
def ps_r24_Accept : List PK := [.k (.v (.st (.pair (.str) (.pair (.str) (.pair (.u8) (.pair (.bool) (.pair (.int .i64) (.pair (.slice (.st (.pair (.str) (.pair (.int .i64) (.pair (.int .i64) (.pair (.int .i64) (.pair (.int .i64) (.pair (.u8) (.bool))))))))) (.pair (.slice (.st (.pair (.int .i64) (.pair (.st (.pair (.int .i64) (.int .i64))) (.pair (.str) (.pair (.u8) (.pair (.str) (.slice (.st (.slice (.st (.pair (.str) (.pair (.st (.pair (.u8) (.pair (.bool) (.bool)))) (.str)))))))))))))) (.slice (.st (.pair (.int .i64) (.pair (.int .i64) (.pair (.int .i64) (.pair (.int .i64) (.pair (.str) (.pair (.str) (.pair (.bool) (.bool)))))))))))))))))) [])]
def rs_r24_Accept : List Kd := [.v (.int .i64) [], .v (.int .i64) []]
def r24_Accept (N : Nat) (x : (List UInt8) × (List UInt8) × UInt8 × Bool × Int × (List ((List UInt8) × Int × Int × Int × Int × UInt8 × Bool)) × (List (Int × (Int × Int) × (List UInt8) × UInt8 × (List UInt8) × List (List ((List UInt8) × (UInt8 × Bool × Bool) × List UInt8)))) × List (Int × Int × Int × Int × (List UInt8) × (List UInt8) × Bool × Bool)) : Option (Int × Int) :=
 bnd (r12_Check N x) fun v0 =>
 cnd (ine v0 (0 : Int))
  (some ((-1 : Int), v0))
  (jn (fun (v1 : Unit) =>
   jn (fun (v2 : Unit) =>
    some ((-1 : Int), (0 : Int)))
   fun v3 =>
   fixN (fun v4 (v5 : (List ((List UInt8) × Int × Int × Int × Int × UInt8 × Bool)) × Int) =>
    cnd (ilt v5.2 (len x.2.2.2.2.2.2.1))
     (grd (inb v5.2 (len x.2.2.2.2.2.2.1))
      (bnd (r03_Day N (x.2.2.1, false)) fun v6 =>
      cnd (ile v6 (lget x.2.2.2.2.2.2.1 (toN v5.2) ((0 : Int), (((0 : Int), (0 : Int)), ([], ((0 : UInt8), ([], [])))))).2.1.2)
       (some (v5.2, (2 : Int)))
       (bnd (r24_place N (lget x.2.2.2.2.2.2.1 (toN v5.2) ((0 : Int), (((0 : Int), (0 : Int)), ([], ((0 : UInt8), ([], []))))), x.2.2.2.2.2.1)) fun v7 =>
       bnd (r24_region N v7) fun v8 =>
       bnd (r24_with N (v5.1, v8)) fun v9 =>
       cnd (ilt (16 : Int) (len v9))
        (some (v5.2, (9 : Int)))
        (v4 (v9, w64 (iadd v5.2 (1 : Int)))))))
     (v3 ())) N (([] : List ((List UInt8) × Int × Int × Int × Int × UInt8 × Bool)), (0 : Int)))
  fun v10 =>
  cnd (ine (n8 x.2.2.1) (n8 (3 : UInt8)))
   (cnd (ine (n8 x.2.2.1) (n8 (5 : UInt8)))
    (some ((-1 : Int), (13 : Int)))
    (v10 ()))
   (v10 ()))
def ps_r03_kind : List PK := [.k (.v (.u8) []), .k (.v (.bool) [])]
def rs_r03_kind : List Kd := [.v (.int .i64) []]
def r03_kind (N : Nat) (x : UInt8 × Bool) : Option (Int) :=
 bnd (r02_Valid N x.1) fun v0 =>
 cnd (bnot v0)
  (some (3 : Int))
  (cnd x.2
   (bnd (r02_CanDrop N x.1) fun v1 =>
   cnd (bnot v1)
    (some (13 : Int))
    (some (0 : Int)))
   (some (0 : Int)))
def ps_r03_Label : List PK := [.k (.v (.u8) []), .k (.v (.bool) []), .k (.v (.int .i64) [])]
def rs_r03_Label : List Kd := [.v (.st (.pair (.int .i64) (.pair (.int .i64) (.pair (.int .i64) (.pair (.int .i64) (.bool)))))) [], .v (.int .i64) []]
def r03_Label (N : Nat) (x : UInt8 × Bool × Int) : Option ((Int × Int × Int × Int × Bool) × Int) :=
 bnd (r03_kind N (x.1, x.2.1)) fun v0 =>
 cnd (ine v0 (0 : Int))
  (some (((0 : Int), (0 : Int), (0 : Int), (0 : Int), false), v0))
  (cnd (ilt x.2.2 (0 : Int))
   (some (((0 : Int), (0 : Int), (0 : Int), (0 : Int), false), (2 : Int)))
   (bnd (r03_Day N (x.1, x.2.1)) fun v1 =>
   cnd (ile v1 x.2.2)
    (some (((0 : Int), (0 : Int), (0 : Int), (0 : Int), false), (2 : Int)))
    (bnd (r02_Nominal N x.1) fun v2 =>
    jn (fun (v3 : Int) =>
     grd (ine v2 (0 : Int)) <|
     grd (ine v2 (0 : Int)) <|
     some ((w64 (idiv (w64 (idiv v3 v2)) (3600 : Int)), imod (w64 (idiv (w64 (idiv v3 v2)) (60 : Int))) (60 : Int), imod (w64 (idiv v3 v2)) (60 : Int), imod v3 v2, x.2.1), (0 : Int)))
    fun v4 =>
    cnd x.2.1
     (bnd (r03_Dropped N x.1) fun v5 =>
     grd (ine (w64 (isub (w64 (imul (600 : Int) v2)) (w64 (imul (9 : Int) v5)))) (0 : Int)) <|
     grd (ine (w64 (imul (600 : Int) v2)) (0 : Int)) <|
     cnd (ile (w64 (imul (60 : Int) v2)) (imod (w64 (iadd x.2.2 (w64 (imul (w64 (imul (w64 (idiv x.2.2 (w64 (isub (w64 (imul (600 : Int) v2)) (w64 (imul (9 : Int) v5)))))) (9 : Int))) v5)))) (w64 (imul (600 : Int) v2))))
      (grd (ine (w64 (isub (w64 (imul (60 : Int) v2)) v5)) (0 : Int))
       (v4 (w64 (iadd (w64 (iadd x.2.2 (w64 (imul (w64 (imul (w64 (idiv x.2.2 (w64 (isub (w64 (imul (600 : Int) v2)) (w64 (imul (9 : Int) v5)))))) (9 : Int))) v5)))) (w64 (iadd (w64 (imul (w64 (idiv (w64 (isub (imod (w64 (iadd x.2.2 (w64 (imul (w64 (imul (w64 (idiv x.2.2 (w64 (isub (w64 (imul (600 : Int) v2)) (w64 (imul (9 : Int) v5)))))) (9 : Int))) v5)))) (w64 (imul (600 : Int) v2))) (w64 (imul (60 : Int) v2)))) (w64 (isub (w64 (imul (60 : Int) v2)) v5)))) v5)) v5))))))
      (v4 (w64 (iadd x.2.2 (w64 (imul (w64 (imul (w64 (idiv x.2.2 (w64 (isub (w64 (imul (600 : Int) v2)) (w64 (imul (9 : Int) v5)))))) (9 : Int))) v5))))))
     (v4 x.2.2))))
def ps_r24_colors : List PK := []
def rs_r24_colors : List Kd := [.v (.slice (.u8)) []]
def r24_colors (N : Nat) (x : Unit) : Option (List UInt8) :=
 some ([4, 1, 5, 2, 6, 3, 0] : List UInt8)
def ps_r24_onOff : List PK := [.k (.v (.bool) []), .k (.v (.u8) [])]
def rs_r24_onOff : List Kd := [.v (.u8) []]
def r24_onOff (N : Nat) (x : Bool × UInt8) : Option (UInt8) :=
 cnd x.1
  (some x.2)
  (some (b8 (iadd (n8 x.2) (n8 (1 : UInt8)))))
def ps_r08_Chars : List PK := [.k (.v (.str) [])]
def rs_r08_Chars : List Kd := [.v (.slice (.int .i32)) [0]]
def r08_Chars (N : Nat) (x : List UInt8) : Option (List Int) :=
 bnd (r08_Valid N x) fun v0 =>
 cnd (bnot v0)
  (some ([] : List Int))
  (bnd (r08_runes N x) fun v1 =>
  some v1)
def ps_r22_Carries : List PK := [.k (.v (.int .i32) [])]
def rs_r22_Carries : List Kd := [.v (.bool) []]
def r22_Carries (N : Nat) (x : Int) : Option (Bool) :=
 bnd (r08_Index N x) fun v0 =>
 some (ile (0 : Int) v0)
def ps_r22_single : List PK := [.k (.v (.u8) [])]
def rs_r22_single : List Kd := [.v (.int .i32) []]
def r22_single (N : Nat) (x : UInt8) : Option (Int) :=
 jn (fun (v0 : Unit) =>
  jn (fun (v1 : Unit) =>
   some (0 : Int))
  fun v2 =>
  fixN (fun v3 (v4 : Int) =>
   cnd (ilt v4 (len ([161, 162, 163, 164, 165, 166, 167, 168, 169, 170, 171, 172, 173, 174, 175, 176, 180, 183, 185, 186, 187, 189, 191, 213, 225, 233, 234, 241, 249, 250, 251] : List UInt8)))
    (grd (inb v4 (len ([161, 162, 163, 164, 165, 166, 167, 168, 169, 170, 171, 172, 173, 174, 175, 176, 180, 183, 185, 186, 187, 189, 191, 213, 225, 233, 234, 241, 249, 250, 251] : List UInt8)))
     (cnd (ieq (n8 (lget ([161, 162, 163, 164, 165, 166, 167, 168, 169, 170, 171, 172, 173, 174, 175, 176, 180, 183, 185, 186, 187, 189, 191, 213, 225, 233, 234, 241, 249, 250, 251] : List UInt8) (toN v4) (0 : UInt8))) (n8 x))
      (grd (inb v4 (len ([161, 162, 163, 164, 165, 166, 167, 169, 8216, 8220, 171, 174, 8212, 8226, 8230, 176, 8482, 183, 8217, 8221, 187, 189, 191, 9834, 198, 216, 338, 230, 248, 339, 223] : List Int)))
       (some (lget ([161, 162, 163, 164, 165, 166, 167, 169, 8216, 8220, 171, 174, 8212, 8226, 8230, 176, 8482, 183, 8217, 8221, 187, 189, 191, 9834, 198, 216, 338, 230, 248, 339, 223] : List Int) (toN v4) (0 : Int))))
      (v3 (w64 (iadd v4 (1 : Int))))))
    (v2 ())) N (0 : Int))
 fun v5 =>
 cnd (ile (n8 (32 : UInt8)) (n8 x))
  (cnd (ile (n8 x) (n8 (126 : UInt8)))
   (some (wr .i32 (n8 x)))
   (v5 ()))
  (v5 ())
def ps_r22_double : List PK := [.k (.v (.u8) []), .k (.v (.u8) [])]
def rs_r22_double : List Kd := [.v (.int .i32) []]
def r22_double (N : Nat) (x : UInt8 × UInt8) : Option (Int) :=
 jn (fun (v0 : Bool) =>
  jn (fun (v1 : UInt8) =>
   jn (fun (v2 : Unit) =>
    some (0 : Int))
   fun v3 =>
   fixN (fun v4 (v5 : Int) =>
    cnd (ilt v5 (len ([193, 193, 193, 193, 193, 194, 194, 194, 194, 194, 195, 195, 195, 195, 195, 196, 196, 196, 200, 200, 200, 200, 200, 202, 203] : List UInt8)))
     (grd (inb v5 (len ([193, 193, 193, 193, 193, 194, 194, 194, 194, 194, 195, 195, 195, 195, 195, 196, 196, 196, 200, 200, 200, 200, 200, 202, 203] : List UInt8)))
      (cnd (ieq (n8 (lget ([193, 193, 193, 193, 193, 194, 194, 194, 194, 194, 195, 195, 195, 195, 195, 196, 196, 196, 200, 200, 200, 200, 200, 202, 203] : List UInt8) (toN v5) (0 : UInt8))) (n8 x.1))
       (grd (inb v5 (len ([65, 69, 73, 79, 85, 65, 69, 73, 79, 85, 65, 69, 73, 79, 85, 65, 78, 79, 65, 69, 73, 79, 85, 65, 67] : List UInt8)))
        (cnd (ieq (n8 (lget ([65, 69, 73, 79, 85, 65, 69, 73, 79, 85, 65, 69, 73, 79, 85, 65, 78, 79, 65, 69, 73, 79, 85, 65, 67] : List UInt8) (toN v5) (0 : UInt8))) (n8 v1))
         (cnd v0
          (grd (inb v5 (len ([192, 200, 204, 210, 217, 193, 201, 205, 211, 218, 194, 202, 206, 212, 219, 195, 209, 213, 196, 203, 207, 214, 220, 197, 199] : List Int)))
           (some (wr .i32 (iadd (lget ([192, 200, 204, 210, 217, 193, 201, 205, 211, 218, 194, 202, 206, 212, 219, 195, 209, 213, 196, 203, 207, 214, 220, 197, 199] : List Int) (toN v5) (0 : Int)) (32 : Int)))))
          (grd (inb v5 (len ([192, 200, 204, 210, 217, 193, 201, 205, 211, 218, 194, 202, 206, 212, 219, 195, 209, 213, 196, 203, 207, 214, 220, 197, 199] : List Int)))
           (some (lget ([192, 200, 204, 210, 217, 193, 201, 205, 211, 218, 194, 202, 206, 212, 219, 195, 209, 213, 196, 203, 207, 214, 220, 197, 199] : List Int) (toN v5) (0 : Int)))))
         (v4 (w64 (iadd v5 (1 : Int))))))
       (v4 (w64 (iadd v5 (1 : Int))))))
     (v3 ())) N (0 : Int))
  fun v6 =>
  cnd v0
   (v6 (b8 (isub (n8 x.2) (n8 (32 : UInt8)))))
   (v6 x.2))
 fun v7 =>
 cnd (ile (n8 (97 : UInt8)) (n8 x.2))
  (v7 (ile (n8 x.2) (n8 (122 : UInt8))))
  (v7 false)
def ps_r22_Put : List PK := [.k (.v (.int .i32) [])]
def rs_r22_Put : List Kd := [.v (.slice (.u8)) [0]]
def r22_Put (N : Nat) (x : Int) : Option (List UInt8) :=
 bnd (r22_Carries N x) fun v0 =>
 cnd (bnot v0)
  (some ([] : List UInt8))
  (jn (fun (v1 : Unit) =>
   jn (fun (v2 : Unit) =>
    some ([] : List UInt8))
   fun v3 =>
   fixN (fun v4 (v5 : Int) =>
    cnd (ile v5 (203 : Int))
     (jn (fun (v6 : Unit) =>
      v4 (w64 (iadd v5 (1 : Int))))
     fun v7 =>
     fixN (fun v8 (v9 : Int) =>
      cnd (ile v9 (122 : Int))
       (bnd (r22_double N (b8 v5, b8 v9)) fun v10 =>
       cnd (ieq v10 x)
        (some ([b8 v5, b8 v9] : List UInt8))
        (v8 (wr .i32 (iadd v9 (1 : Int)))))
       (v7 ())) N (65 : Int))
     (v3 ())) N (193 : Int))
  fun v11 =>
  fixN (fun v12 (v13 : Int) =>
   cnd (ilt v13 (256 : Int))
    (bnd (r22_single N (b8 v13)) fun v14 =>
    cnd (ieq v14 x)
     (some ([b8 v13] : List UInt8))
     (v12 (w64 (iadd v13 (1 : Int)))))
    (v11 ())) N (0 : Int))
def ps_r22_Encode : List PK := [.k (.v (.str) [])]
def rs_r22_Encode : List Kd := [.v (.slice (.u8)) [0], .v (.int .i64) []]
def r22_Encode (N : Nat) (x : List UInt8) : Option (List UInt8 × Int) :=
 bnd (r08_Valid N x) fun v0 =>
 cnd (bnot v0)
  (some (([] : List UInt8), (10 : Int)))
  (jn (fun (v1 : List UInt8) =>
   some (v1, (0 : Int)))
  fun v2 =>
  bnd (r08_Chars N x) fun v3 =>
  fixN (fun v4 (v5 : (List UInt8) × Int) =>
   cnd (ilt v5.2 (len v3))
    (grd (inb v5.2 (len v3))
     (bnd (r22_Put N (lget v3 (toN v5.2) (0 : Int))) fun v6 =>
     grd (room (iadd (len v5.1) (len v6)) 1) <|
     v4 (lapp v5.1 v6, w64 (iadd v5.2 (1 : Int)))))
    (v2 v5.1)) N (([] : List UInt8), (0 : Int)))
def ps_r24_row : List PK := [.k (.v (.st (.slice (.st (.pair (.str) (.pair (.st (.pair (.u8) (.pair (.bool) (.bool)))) (.str)))))) [])]
def rs_r24_row : List Kd := [.v (.slice (.u8)) [0]]
def r24_row (N : Nat) (x : List ((List UInt8) × (UInt8 × Bool × Bool) × List UInt8)) : Option (List UInt8) :=
 jn (fun (v0 : List UInt8) =>
  some v0)
 fun v1 =>
 fixN (fun v2 (v3 : (List UInt8) × Int × UInt8 × Bool × Bool) =>
  cnd (ilt v3.2.1 (len x))
   (jn (fun (v4 : (List UInt8) × UInt8 × Bool × Bool) =>
    v2 (v4.1, w64 (iadd v3.2.1 (1 : Int)), v4.2))
   fun v5 =>
   grd (inb v3.2.1 (len x)) <|
   jn (fun (v6 : List UInt8) =>
    jn (fun (v7 : List UInt8) =>
     jn (fun (v8 : List UInt8) =>
      bnd (r22_Encode N (lget x (toN v3.2.1) ([], (((0 : UInt8), (false, false)), []))).1) fun v9 =>
      grd (room (iadd (len v8) (len v9.1)) 1) <|
      v5 (lapp v8 v9.1, (lget x (toN v3.2.1) ([], (((0 : UInt8), (false, false)), []))).2.1))
     fun v10 =>
     cnd (bneb (lget x (toN v3.2.1) ([], (((0 : UInt8), (false, false)), []))).2.1.2.2 v3.2.2.2.2)
      (bnd (r24_onOff N ((lget x (toN v3.2.1) ([], (((0 : UInt8), (false, false)), []))).2.1.2.2, (130 : UInt8))) fun v11 =>
      grd (room (iadd (len v7) (len ([v11] : List UInt8))) 1) <|
      v10 (lapp v7 ([v11] : List UInt8)))
      (v10 v7))
    fun v12 =>
    cnd (bneb (lget x (toN v3.2.1) ([], (((0 : UInt8), (false, false)), []))).2.1.2.1 v3.2.2.2.1)
     (bnd (r24_onOff N ((lget x (toN v3.2.1) ([], (((0 : UInt8), (false, false)), []))).2.1.2.1, (128 : UInt8))) fun v13 =>
     grd (room (iadd (len v6) (len ([v13] : List UInt8))) 1) <|
     v12 (lapp v6 ([v13] : List UInt8)))
     (v12 v6))
   fun v14 =>
   cnd (ine (n8 (lget x (toN v3.2.1) ([], (((0 : UInt8), (false, false)), []))).2.1.1) (n8 v3.2.2.1))
    (bnd (r24_colors N ()) fun v15 =>
    fixN (fun v16 (v17 : (List UInt8) × Int) =>
     cnd (ilt v17.2 (len v15))
      (grd (inb v17.2 (len v15))
       (cnd (ieq (n8 (lget v15 (toN v17.2) (0 : UInt8))) (n8 (lget x (toN v3.2.1) ([], (((0 : UInt8), (false, false)), []))).2.1.1))
        (grd (room (iadd (len v17.1) (len ([b8 (w64 (iadd v17.2 (1 : Int)))] : List UInt8))) 1)
         (v16 (lapp v17.1 ([b8 (w64 (iadd v17.2 (1 : Int)))] : List UInt8), w64 (iadd v17.2 (1 : Int)))))
        (v16 (v17.1, w64 (iadd v17.2 (1 : Int))))))
      (v14 v17.1)) N (v3.1, (0 : Int)))
    (v14 v3.1))
   (v1 v3.1)) N (([] : List UInt8), (0 : Int), (0 : UInt8), false, false)
def ps_r24_Text : List PK := [.k (.v (.slice (.st (.slice (.st (.pair (.str) (.pair (.st (.pair (.u8) (.pair (.bool) (.bool)))) (.str))))))) [])]
def rs_r24_Text : List Kd := [.v (.slice (.u8)) [0], .v (.int .i64) []]
def r24_Text (N : Nat) (x : List (List ((List UInt8) × (UInt8 × Bool × Bool) × List UInt8))) : Option (List UInt8 × Int) :=
 jn (fun (v0 : List UInt8) =>
  some (v0, (0 : Int)))
 fun v1 =>
 fixN (fun v2 (v3 : (List UInt8) × Int) =>
  cnd (ilt v3.2 (len x))
   (grd (inb v3.2 (len x))
    (bnd (r09_Check N (lget x (toN v3.2) [])) fun v4 =>
    cnd (ine v4 (0 : Int))
     (some (([] : List UInt8), v4))
     (cnd (ilt (0 : Int) v3.2)
      (grd (room (iadd (len v3.1) (len ([138] : List UInt8))) 1)
       (bnd (r24_row N (lget x (toN v3.2) [])) fun v5 =>
       grd (room (iadd (len (lapp v3.1 ([138] : List UInt8))) (len v5)) 1) <|
       v2 (lapp (lapp v3.1 ([138] : List UInt8)) v5, w64 (iadd v3.2 (1 : Int)))))
      (bnd (r24_row N (lget x (toN v3.2) [])) fun v6 =>
      grd (room (iadd (len v3.1) (len v6)) 1) <|
      v2 (lapp v3.1 v6, w64 (iadd v3.2 (1 : Int)))))))
   (v1 v3.1)) N (([] : List UInt8), (0 : Int))
def ps_r23_within : List PK := [.k (.v (.int .i64) []), .k (.v (.int .i64) []), .k (.v (.int .i64) [])]
def rs_r23_within : List Kd := [.v (.bool) []]
def r23_within (N : Nat) (x : Int × Int × Int) : Option (Bool) :=
 cnd (ile x.2.1 x.1)
  (some (ile x.1 x.2.2))
  (some false)
def ps_r23_clock : List PK := [.k (.v (.st (.pair (.int .i64) (.pair (.int .i64) (.pair (.int .i64) (.pair (.int .i64) (.bool)))))) [])]
def rs_r23_clock : List Kd := [.v (.bool) []]
def r23_clock (N : Nat) (x : Int × Int × Int × Int × Bool) : Option (Bool) :=
 bnd (r23_within N (x.1, (0 : Int), (23 : Int))) fun v0 =>
 cnd v0
  (bnd (r23_within N (x.2.1, (0 : Int), (59 : Int))) fun v1 =>
  cnd v1
   (bnd (r23_within N (x.2.2.1, (0 : Int), (59 : Int))) fun v2 =>
   cnd v2
    (bnd (r23_within N (x.2.2.2.1, (0 : Int), (29 : Int))) fun v3 =>
    some v3)
    (some false))
   (some false))
  (some false)
def ps_r23_filled : List PK := [.k (.v (.slice (.u8)) [])]
def rs_r23_filled : List Kd := [.v (.bool) []]
def r23_filled (N : Nat) (x : List UInt8) : Option (Bool) :=
 jn (fun (v0 : Unit) =>
  some false)
 fun v1 =>
 fixN (fun v2 (v3 : Int) =>
  cnd (ilt v3 (len x))
   (grd (inb v3 (len x))
    (cnd (ieq (n8 (lget x (toN v3) (0 : UInt8))) (n8 (143 : UInt8)))
     (some true)
     (v2 (w64 (iadd v3 (1 : Int))))))
   (v1 ())) N (0 : Int)
def ps_r23_Check : List PK := [.k (.v (.st (.pair (.int .i64) (.pair (.int .i64) (.pair (.u8) (.pair (.u8) (.pair (.st (.pair (.int .i64) (.pair (.int .i64) (.pair (.int .i64) (.pair (.int .i64) (.bool)))))) (.pair (.st (.pair (.int .i64) (.pair (.int .i64) (.pair (.int .i64) (.pair (.int .i64) (.bool)))))) (.pair (.int .i64) (.pair (.u8) (.pair (.bool) (.slice (.u8)))))))))))) [])]
def rs_r23_Check : List Kd := [.v (.int .i64) []]
def r23_Check (N : Nat) (x : Int × Int × UInt8 × UInt8 × (Int × Int × Int × Int × Bool) × (Int × Int × Int × Int × Bool) × Int × UInt8 × Bool × List UInt8) : Option (Int) :=
 bnd (r23_within N (x.1, (0 : Int), (255 : Int))) fun v0 =>
 cnd (bnot v0)
  (some (2 : Int))
  (bnd (r23_within N (x.2.1, (0 : Int), (65535 : Int))) fun v1 =>
  cnd (bnot v1)
   (some (2 : Int))
   (jn (fun (v2 : Bool) =>
    cnd v2
     (some (3 : Int))
     (bnd (r23_clock N x.2.2.2.2.1) fun v3 =>
     cnd (bnot v3)
      (some (2 : Int))
      (bnd (r23_clock N x.2.2.2.2.2.1) fun v4 =>
      cnd (bnot v4)
       (some (2 : Int))
       (cnd x.2.2.2.2.1.2.2.2.2
        (some (13 : Int))
        (cnd x.2.2.2.2.2.1.2.2.2.2
         (some (13 : Int))
         (bnd (r23_within N (x.2.2.2.2.2.2.1, (0 : Int), (14 : Int))) fun v5 =>
         cnd (bnot v5)
          (some (2 : Int))
          (cnd (ilt (n8 x.2.2.2.2.2.2.2.1) (n8 (1 : UInt8)))
           (some (3 : Int))
           (cnd (ilt (n8 (3 : UInt8)) (n8 x.2.2.2.2.2.2.2.1))
            (some (3 : Int))
            (cnd (ilt (112 : Int) (len x.2.2.2.2.2.2.2.2.2))
             (some (9 : Int))
             (bnd (r23_filled N x.2.2.2.2.2.2.2.2.2) fun v6 =>
             cnd v6
              (some (4 : Int))
              (some (0 : Int))))))))))))
   fun v7 =>
   cnd (ile (n8 (240 : UInt8)) (n8 x.2.2.1))
    (cnd (ile (n8 x.2.2.1) (n8 (254 : UInt8)))
     (v7 true)
     (v7 (ilt (n8 (3 : UInt8)) (n8 x.2.2.2.1))))
    (v7 (ilt (n8 (3 : UInt8)) (n8 x.2.2.2.1)))))
def ps_r23_Split : List PK := [.k (.v (.st (.pair (.int .i64) (.pair (.int .i64) (.pair (.u8) (.pair (.u8) (.pair (.st (.pair (.int .i64) (.pair (.int .i64) (.pair (.int .i64) (.pair (.int .i64) (.bool)))))) (.pair (.st (.pair (.int .i64) (.pair (.int .i64) (.pair (.int .i64) (.pair (.int .i64) (.bool)))))) (.pair (.int .i64) (.pair (.u8) (.pair (.bool) (.slice (.u8)))))))))))) []), .k (.v (.slice (.u8)) [])]
def rs_r23_Split : List Kd := [.v (.slice (.st (.pair (.int .i64) (.pair (.int .i64) (.pair (.u8) (.pair (.u8) (.pair (.st (.pair (.int .i64) (.pair (.int .i64) (.pair (.int .i64) (.pair (.int .i64) (.bool)))))) (.pair (.st (.pair (.int .i64) (.pair (.int .i64) (.pair (.int .i64) (.pair (.int .i64) (.bool)))))) (.pair (.int .i64) (.pair (.u8) (.pair (.bool) (.slice (.u8))))))))))))) [0], .v (.int .i64) []]
def r23_Split (N : Nat) (x : (Int × Int × UInt8 × UInt8 × (Int × Int × Int × Int × Bool) × (Int × Int × Int × Int × Bool) × Int × UInt8 × Bool × List UInt8) × List UInt8) : Option ((List (Int × Int × UInt8 × UInt8 × (Int × Int × Int × Int × Bool) × (Int × Int × Int × Int × Bool) × Int × UInt8 × Bool × List UInt8)) × Int) :=
 bnd (r23_Check N (x.1.1, x.1.2.1, (0 : UInt8), x.1.2.2.2.1, x.1.2.2.2.2.1, x.1.2.2.2.2.2.1, x.1.2.2.2.2.2.2.1, x.1.2.2.2.2.2.2.2.1, x.1.2.2.2.2.2.2.2.2.1, ([] : List UInt8))) fun v0 =>
 cnd (ine v0 (0 : Int))
  (some (([] : List (Int × Int × UInt8 × UInt8 × (Int × Int × Int × Int × Bool) × (Int × Int × Int × Int × Bool) × Int × UInt8 × Bool × List UInt8)), v0))
  (cnd (ilt (26992 : Int) (len x.2))
   (some (([] : List (Int × Int × UInt8 × UInt8 × (Int × Int × Int × Int × Bool) × (Int × Int × Int × Int × Bool) × Int × UInt8 × Bool × List UInt8)), (9 : Int)))
   (bnd (r23_filled N x.2) fun v1 =>
   cnd v1
    (some (([] : List (Int × Int × UInt8 × UInt8 × (Int × Int × Int × Int × Bool) × (Int × Int × Int × Int × Bool) × Int × UInt8 × Bool × List UInt8)), (4 : Int)))
    (jn (fun (v2 : List (Int × Int × UInt8 × UInt8 × (Int × Int × Int × Int × Bool) × (Int × Int × Int × Int × Bool) × Int × UInt8 × Bool × List UInt8)) =>
     some (v2, (0 : Int)))
    fun v3 =>
    fixN (fun v4 (v5 : (List UInt8) × (List (Int × Int × UInt8 × UInt8 × (Int × Int × Int × Int × Bool) × (Int × Int × Int × Int × Bool) × Int × UInt8 × Bool × List UInt8)) × Bool × Int × Int × UInt8 × UInt8 × (Int × Int × Int × Int × Bool) × (Int × Int × Int × Int × Bool) × Int × UInt8 × Bool × List UInt8) =>
     jn (fun (v6 : Unit) =>
      grd (in2 (imin (len v5.1) (112 : Int)) (len v5.1)) <|
      grd (room (iadd (len ([] : List UInt8)) (len (ltake (toN (imin (len v5.1) (112 : Int))) v5.1))) 1) <|
      grd (in2 (imin (len v5.1) (112 : Int)) (len v5.1)) <|
      cnd (ieq (len (ldrop (toN (imin (len v5.1) (112 : Int))) v5.1)) (0 : Int))
       (grd (room (iadd (len v5.2.1) (len ([(v5.2.2.2.1, v5.2.2.2.2.1, (255 : UInt8), v5.2.2.2.2.2.2.1, v5.2.2.2.2.2.2.2.1, v5.2.2.2.2.2.2.2.2.1, v5.2.2.2.2.2.2.2.2.2.1, v5.2.2.2.2.2.2.2.2.2.2.1, v5.2.2.2.2.2.2.2.2.2.2.2.1, lapp ([] : List UInt8) (ltake (toN (imin (len v5.1) (112 : Int))) v5.1))] : List (Int × Int × UInt8 × UInt8 × (Int × Int × Int × Int × Bool) × (Int × Int × Int × Int × Bool) × Int × UInt8 × Bool × List UInt8)))) 144)
        (v4 (ldrop (toN (imin (len v5.1) (112 : Int))) v5.1, lapp v5.2.1 ([(v5.2.2.2.1, v5.2.2.2.2.1, (255 : UInt8), v5.2.2.2.2.2.2.1, v5.2.2.2.2.2.2.2.1, v5.2.2.2.2.2.2.2.2.1, v5.2.2.2.2.2.2.2.2.2.1, v5.2.2.2.2.2.2.2.2.2.2.1, v5.2.2.2.2.2.2.2.2.2.2.2.1, lapp ([] : List UInt8) (ltake (toN (imin (len v5.1) (112 : Int))) v5.1))] : List (Int × Int × UInt8 × UInt8 × (Int × Int × Int × Int × Bool) × (Int × Int × Int × Int × Bool) × Int × UInt8 × Bool × List UInt8)), false, v5.2.2.2.1, v5.2.2.2.2.1, (255 : UInt8), v5.2.2.2.2.2.2.1, v5.2.2.2.2.2.2.2.1, v5.2.2.2.2.2.2.2.2.1, v5.2.2.2.2.2.2.2.2.2.1, v5.2.2.2.2.2.2.2.2.2.2.1, v5.2.2.2.2.2.2.2.2.2.2.2.1, lapp ([] : List UInt8) (ltake (toN (imin (len v5.1) (112 : Int))) v5.1))))
       (grd (room (iadd (len v5.2.1) (len ([(v5.2.2.2.1, v5.2.2.2.2.1, b8 (len v5.2.1), v5.2.2.2.2.2.2.1, v5.2.2.2.2.2.2.2.1, v5.2.2.2.2.2.2.2.2.1, v5.2.2.2.2.2.2.2.2.2.1, v5.2.2.2.2.2.2.2.2.2.2.1, v5.2.2.2.2.2.2.2.2.2.2.2.1, lapp ([] : List UInt8) (ltake (toN (imin (len v5.1) (112 : Int))) v5.1))] : List (Int × Int × UInt8 × UInt8 × (Int × Int × Int × Int × Bool) × (Int × Int × Int × Int × Bool) × Int × UInt8 × Bool × List UInt8)))) 144)
        (v4 (ldrop (toN (imin (len v5.1) (112 : Int))) v5.1, lapp v5.2.1 ([(v5.2.2.2.1, v5.2.2.2.2.1, b8 (len v5.2.1), v5.2.2.2.2.2.2.1, v5.2.2.2.2.2.2.2.1, v5.2.2.2.2.2.2.2.2.1, v5.2.2.2.2.2.2.2.2.2.1, v5.2.2.2.2.2.2.2.2.2.2.1, v5.2.2.2.2.2.2.2.2.2.2.2.1, lapp ([] : List UInt8) (ltake (toN (imin (len v5.1) (112 : Int))) v5.1))] : List (Int × Int × UInt8 × UInt8 × (Int × Int × Int × Int × Bool) × (Int × Int × Int × Int × Bool) × Int × UInt8 × Bool × List UInt8)), false, v5.2.2.2.1, v5.2.2.2.2.1, b8 (len v5.2.1), v5.2.2.2.2.2.2.1, v5.2.2.2.2.2.2.2.1, v5.2.2.2.2.2.2.2.2.1, v5.2.2.2.2.2.2.2.2.2.1, v5.2.2.2.2.2.2.2.2.2.2.1, v5.2.2.2.2.2.2.2.2.2.2.2.1, lapp ([] : List UInt8) (ltake (toN (imin (len v5.1) (112 : Int))) v5.1)))))
     fun v7 =>
     cnd v5.2.2.1
      (v7 ())
      (cnd (ilt (0 : Int) (len v5.1))
       (v7 ())
       (v3 v5.2.1))) N (x.2, ([] : List (Int × Int × UInt8 × UInt8 × (Int × Int × Int × Int × Bool) × (Int × Int × Int × Int × Bool) × Int × UInt8 × Bool × List UInt8)), true, x.1.1, x.1.2.1, (0 : UInt8), x.1.2.2.2.1, x.1.2.2.2.2.1, x.1.2.2.2.2.2.1, x.1.2.2.2.2.2.2.1, x.1.2.2.2.2.2.2.2.1, x.1.2.2.2.2.2.2.2.2.1, ([] : List UInt8)))))
def ps_r03_Check : List PK := [.k (.v (.u8) []), .k (.v (.st (.pair (.int .i64) (.pair (.int .i64) (.pair (.int .i64) (.pair (.int .i64) (.bool)))))) [])]
def rs_r03_Check : List Kd := [.v (.int .i64) []]
def r03_Check (N : Nat) (x : UInt8 × Int × Int × Int × Int × Bool) : Option (Int) :=
 bnd (r03_kind N (x.1, x.2.2.2.2.2)) fun v0 =>
 cnd (ine v0 (0 : Int))
  (some v0)
  (cnd (ilt x.2.1 (0 : Int))
   (some (2 : Int))
   (cnd (ilt (23 : Int) x.2.1)
    (some (2 : Int))
    (cnd (ilt x.2.2.1 (0 : Int))
     (some (2 : Int))
     (cnd (ilt (59 : Int) x.2.2.1)
      (some (2 : Int))
      (cnd (ilt x.2.2.2.1 (0 : Int))
       (some (2 : Int))
       (cnd (ilt (59 : Int) x.2.2.2.1)
        (some (2 : Int))
        (cnd (ilt x.2.2.2.2.1 (0 : Int))
         (some (2 : Int))
         (bnd (r02_Nominal N x.1) fun v1 =>
         cnd (ile v1 x.2.2.2.2.1)
          (some (2 : Int))
          (cnd x.2.2.2.2.2
           (cnd (ieq x.2.2.2.1 (0 : Int))
            (cnd (ine (imod x.2.2.1 (10 : Int)) (0 : Int))
             (bnd (r03_Dropped N x.1) fun v2 =>
             cnd (ilt x.2.2.2.2.1 v2)
              (some (6 : Int))
              (some (0 : Int)))
             (some (0 : Int)))
            (some (0 : Int)))
           (some (0 : Int)))))))))))
def ps_r23_CheckHeader : List PK := [.k (.v (.st (.pair (.u8) (.pair (.str) (.pair (.str) (.pair (.int .i64) (.pair (.int .i64) (.pair (.st (.pair (.int .i64) (.pair (.int .i64) (.pair (.int .i64) (.pair (.int .i64) (.bool)))))) (.pair (.st (.pair (.int .i64) (.pair (.int .i64) (.pair (.int .i64) (.pair (.int .i64) (.bool)))))) (.pair (.int .i64) (.int .i64)))))))))) [])]
def rs_r23_CheckHeader : List Kd := [.v (.int .i64) []]
def r23_CheckHeader (N : Nat) (x : UInt8 × (List UInt8) × (List UInt8) × Int × Int × (Int × Int × Int × Int × Bool) × (Int × Int × Int × Int × Bool) × Int × Int) : Option (Int) :=
 jn (fun (v0 : Bool) =>
  cnd v0
   (some (13 : Int))
   (jn (fun (v1 : Bool) =>
    cnd v1
     (some (5 : Int))
     (bnd (r08_Valid N x.2.2.1) fun v2 =>
     cnd (bnot v2)
      (some (10 : Int))
      (cnd (ilt (400 : Int) (len x.2.2.1))
       (some (9 : Int))
       (bnd (r23_within N (x.2.2.2.1, (0 : Int), (99999 : Int))) fun v3 =>
       cnd (bnot v3)
        (some (2 : Int))
        (bnd (r23_within N (x.2.2.2.2.1, (0 : Int), (99999 : Int))) fun v4 =>
        cnd (bnot v4)
         (some (2 : Int))
         (bnd (r23_within N (x.2.2.2.2.2.2.2.1, (0 : Int), (99 : Int))) fun v5 =>
         cnd (bnot v5)
          (some (2 : Int))
          (bnd (r23_within N (x.2.2.2.2.2.2.2.2, (0 : Int), (99 : Int))) fun v6 =>
          cnd (bnot v6)
           (some (2 : Int))
           (cnd (ilt x.2.2.2.1 x.2.2.2.2.1)
            (some (8 : Int))
            (bnd (r03_Check N (x.1, x.2.2.2.2.2.1)) fun v7 =>
            cnd (ine v7 (0 : Int))
             (some v7)
             (bnd (r03_Check N (x.1, x.2.2.2.2.2.2.1)) fun v8 =>
             cnd (ine v8 (0 : Int))
              (some v8)
              (cnd x.2.2.2.2.2.1.2.2.2.2
               (some (13 : Int))
               (cnd x.2.2.2.2.2.2.1.2.2.2.2
                (some (13 : Int))
                (some (0 : Int))))))))))))))
   fun v9 =>
   cnd (sne x.2.1 ([] : List UInt8))
    (bnd (r07_Name N x.2.1) fun v10 =>
    v9 (bnot v10))
    (v9 false)))
 fun v11 =>
 cnd (ine (n8 x.1) (n8 (3 : UInt8)))
  (v11 (ine (n8 x.1) (n8 (5 : UInt8))))
  (v11 false)
def ps_r23_fill : List PK := [.k (.v (.slice (.u8)) []), .k (.v (.int .i64) []), .k (.v (.u8) [])]
def rs_r23_fill : List Kd := [.v (.slice (.u8)) [0]]
def r23_fill (N : Nat) (x : List UInt8 × Int × UInt8) : Option (List UInt8) :=
 grd (room (iadd (len ([] : List UInt8)) (len x.1)) 1) <|
 jn (fun (v0 : List UInt8) =>
  some v0)
 fun v1 =>
 fixN (fun v2 (v3 : List UInt8) =>
  cnd (ilt (len v3) x.2.1)
   (grd (room (iadd (len v3) (len ([x.2.2] : List UInt8))) 1)
    (v2 (lapp v3 ([x.2.2] : List UInt8))))
   (v1 v3)) N (lapp ([] : List UInt8) x.1)
def ps_r23_digits : List PK := [.k (.v (.int .i64) []), .k (.v (.int .i64) [])]
def rs_r23_digits : List Kd := [.v (.str) []]
def r23_digits_r (N : Nat) : Nat → (Int × Int) → Option (List UInt8)
 | 0, _ => none
 | D + 1, x => cnd (ieq x.2 (0 : Int))
   (some ([] : List UInt8))
   (bnd (r23_digits_r N D (w64 (idiv x.1 (10 : Int)), w64 (isub x.2 (1 : Int)))) fun v0 =>
   grd (catOk (iadd (len v0) (len ([b8 (w64 (iadd (48 : Int) (imod x.1 (10 : Int))))] : List UInt8)))) <|
   some (lapp v0 ([b8 (w64 (iadd (48 : Int) (imod x.1 (10 : Int))))] : List UInt8)))
def r23_digits (N : Nat) (x : Int × Int) : Option (List UInt8) := r23_digits_r N N x
def ps_r23_label : List PK := [.k (.v (.st (.pair (.int .i64) (.pair (.int .i64) (.pair (.int .i64) (.pair (.int .i64) (.bool)))))) [])]
def rs_r23_label : List Kd := [.v (.str) []]
def r23_label (N : Nat) (x : Int × Int × Int × Int × Bool) : Option (List UInt8) :=
 bnd (r23_digits N (x.1, (2 : Int))) fun v0 =>
 bnd (r23_digits N (x.2.1, (2 : Int))) fun v1 =>
 grd (catOk (iadd (len v0) (len v1))) <|
 bnd (r23_digits N (x.2.2.1, (2 : Int))) fun v2 =>
 grd (catOk (iadd (len (lapp v0 v1)) (len v2))) <|
 bnd (r23_digits N (x.2.2.2.1, (2 : Int))) fun v3 =>
 grd (catOk (iadd (len (lapp (lapp v0 v1) v2)) (len v3))) <|
 some (lapp (lapp (lapp v0 v1) v2) v3)
def ps_r23_PutHeader : List PK := [.k (.v (.st (.pair (.u8) (.pair (.str) (.pair (.str) (.pair (.int .i64) (.pair (.int .i64) (.pair (.st (.pair (.int .i64) (.pair (.int .i64) (.pair (.int .i64) (.pair (.int .i64) (.bool)))))) (.pair (.st (.pair (.int .i64) (.pair (.int .i64) (.pair (.int .i64) (.pair (.int .i64) (.bool)))))) (.pair (.int .i64) (.int .i64)))))))))) [])]
def rs_r23_PutHeader : List Kd := [.v (.slice (.u8)) [0], .v (.int .i64) []]
def r23_PutHeader (N : Nat) (x : UInt8 × (List UInt8) × (List UInt8) × Int × Int × (Int × Int × Int × Int × Bool) × (Int × Int × Int × Int × Bool) × Int × Int) : Option (List UInt8 × Int) :=
 bnd (r23_CheckHeader N x) fun v0 =>
 cnd (ine v0 (0 : Int))
  (some (([] : List UInt8), v0))
  (jn (fun (v1 : List UInt8) =>
   bnd (r22_Encode N x.2.2.1) fun v2 =>
   grd (catOk (len v1)) <|
   grd (catOk (len x.2.1)) <|
   bnd (r23_fill N (x.2.1, (16 : Int), (32 : UInt8))) fun v3 =>
   grd (room (iadd (len v1) (len v3)) 1) <|
   bnd (r23_digits N (len v2.1, (3 : Int))) fun v4 =>
   bnd (r23_digits N (x.2.2.2.1, (5 : Int))) fun v5 =>
   grd (catOk (iadd (len v4) (len v5))) <|
   bnd (r23_digits N (x.2.2.2.2.1, (5 : Int))) fun v6 =>
   grd (catOk (iadd (len (lapp v4 v5)) (len v6))) <|
   bnd (r23_label N x.2.2.2.2.2.1) fun v7 =>
   grd (catOk (iadd (len (lapp (lapp v4 v5) v6)) (len v7))) <|
   bnd (r23_label N x.2.2.2.2.2.2.1) fun v8 =>
   grd (catOk (iadd (len (lapp (lapp (lapp v4 v5) v6) v7)) (len v8))) <|
   bnd (r23_digits N (x.2.2.2.2.2.2.2.1, (2 : Int))) fun v9 =>
   grd (catOk (iadd (len (lapp (lapp (lapp (lapp v4 v5) v6) v7) v8)) (len v9))) <|
   bnd (r23_digits N (x.2.2.2.2.2.2.2.2, (2 : Int))) fun v10 =>
   grd (catOk (iadd (len (lapp (lapp (lapp (lapp (lapp v4 v5) v6) v7) v8) v9)) (len v10))) <|
   grd (catOk (len (lapp (lapp (lapp (lapp (lapp (lapp v4 v5) v6) v7) v8) v9) v10))) <|
   bnd (r23_fill N (lapp (lapp (lapp (lapp (lapp (lapp v4 v5) v6) v7) v8) v9) v10, (40 : Int), (32 : UInt8))) fun v11 =>
   grd (room (iadd (len (lapp v1 v3)) (len v11)) 1) <|
   grd (room (iadd (len (lapp (lapp v1 v3) v11)) (len v2.1)) 1) <|
   bnd (r23_fill N (lapp (lapp (lapp v1 v3) v11) v2.1, (1024 : Int), (32 : UInt8))) fun v12 =>
   some (v12, (0 : Int)))
  fun v13 =>
  cnd (ieq (n8 x.1) (n8 (5 : UInt8)))
   (v13 ([83, 84, 76, 51, 48, 46, 48, 49] : List UInt8))
   (v13 ([83, 84, 76, 50, 53, 46, 48, 49] : List UInt8)))
def ps_r23_Put : List PK := [.k (.v (.st (.pair (.int .i64) (.pair (.int .i64) (.pair (.u8) (.pair (.u8) (.pair (.st (.pair (.int .i64) (.pair (.int .i64) (.pair (.int .i64) (.pair (.int .i64) (.bool)))))) (.pair (.st (.pair (.int .i64) (.pair (.int .i64) (.pair (.int .i64) (.pair (.int .i64) (.bool)))))) (.pair (.int .i64) (.pair (.u8) (.pair (.bool) (.slice (.u8)))))))))))) [])]
def rs_r23_Put : List Kd := [.v (.slice (.u8)) [0], .v (.int .i64) []]
def r23_Put (N : Nat) (x : Int × Int × UInt8 × UInt8 × (Int × Int × Int × Int × Bool) × (Int × Int × Int × Int × Bool) × Int × UInt8 × Bool × List UInt8) : Option (List UInt8 × Int) :=
 bnd (r23_Check N x) fun v0 =>
 cnd (ine v0 (0 : Int))
  (some (([] : List UInt8), v0))
  (grd (room (iadd (len ([b8 x.1, b8 (imod x.2.1 (256 : Int)), b8 (w64 (idiv x.2.1 (256 : Int))), x.2.2.1, x.2.2.2.1] : List UInt8)) (len ([b8 x.2.2.2.2.1.1, b8 x.2.2.2.2.1.2.1, b8 x.2.2.2.2.1.2.2.1, b8 x.2.2.2.2.1.2.2.2.1, b8 x.2.2.2.2.2.1.1, b8 x.2.2.2.2.2.1.2.1, b8 x.2.2.2.2.2.1.2.2.1, b8 x.2.2.2.2.2.1.2.2.2.1] : List UInt8))) 1)
   (jn (fun (v1 : UInt8) =>
    grd (room (iadd (len (lapp ([b8 x.1, b8 (imod x.2.1 (256 : Int)), b8 (w64 (idiv x.2.1 (256 : Int))), x.2.2.1, x.2.2.2.1] : List UInt8) ([b8 x.2.2.2.2.1.1, b8 x.2.2.2.2.1.2.1, b8 x.2.2.2.2.1.2.2.1, b8 x.2.2.2.2.1.2.2.2.1, b8 x.2.2.2.2.2.1.1, b8 x.2.2.2.2.2.1.2.1, b8 x.2.2.2.2.2.1.2.2.1, b8 x.2.2.2.2.2.1.2.2.2.1] : List UInt8))) (len ([b8 x.2.2.2.2.2.2.1, x.2.2.2.2.2.2.2.1, v1] : List UInt8))) 1) <|
    bnd (r23_fill N (x.2.2.2.2.2.2.2.2.2, (112 : Int), (143 : UInt8))) fun v2 =>
    grd (room (iadd (len (lapp (lapp ([b8 x.1, b8 (imod x.2.1 (256 : Int)), b8 (w64 (idiv x.2.1 (256 : Int))), x.2.2.1, x.2.2.2.1] : List UInt8) ([b8 x.2.2.2.2.1.1, b8 x.2.2.2.2.1.2.1, b8 x.2.2.2.2.1.2.2.1, b8 x.2.2.2.2.1.2.2.2.1, b8 x.2.2.2.2.2.1.1, b8 x.2.2.2.2.2.1.2.1, b8 x.2.2.2.2.2.1.2.2.1, b8 x.2.2.2.2.2.1.2.2.2.1] : List UInt8)) ([b8 x.2.2.2.2.2.2.1, x.2.2.2.2.2.2.2.1, v1] : List UInt8))) (len v2)) 1) <|
    some (lapp (lapp (lapp ([b8 x.1, b8 (imod x.2.1 (256 : Int)), b8 (w64 (idiv x.2.1 (256 : Int))), x.2.2.1, x.2.2.2.1] : List UInt8) ([b8 x.2.2.2.2.1.1, b8 x.2.2.2.2.1.2.1, b8 x.2.2.2.2.1.2.2.1, b8 x.2.2.2.2.1.2.2.2.1, b8 x.2.2.2.2.2.1.1, b8 x.2.2.2.2.2.1.2.1, b8 x.2.2.2.2.2.1.2.2.1, b8 x.2.2.2.2.2.1.2.2.2.1] : List UInt8)) ([b8 x.2.2.2.2.2.2.1, x.2.2.2.2.2.2.2.1, v1] : List UInt8)) v2, (0 : Int)))
   fun v3 =>
   cnd x.2.2.2.2.2.2.2.2.1
    (v3 (1 : UInt8))
    (v3 (0 : UInt8))))
def ps_r23_Write : List PK := [.k (.v (.st (.pair (.u8) (.pair (.str) (.pair (.str) (.pair (.int .i64) (.pair (.int .i64) (.pair (.st (.pair (.int .i64) (.pair (.int .i64) (.pair (.int .i64) (.pair (.int .i64) (.bool)))))) (.pair (.st (.pair (.int .i64) (.pair (.int .i64) (.pair (.int .i64) (.pair (.int .i64) (.bool)))))) (.pair (.int .i64) (.int .i64)))))))))) []), .k (.v (.slice (.st (.pair (.int .i64) (.pair (.int .i64) (.pair (.u8) (.pair (.u8) (.pair (.st (.pair (.int .i64) (.pair (.int .i64) (.pair (.int .i64) (.pair (.int .i64) (.bool)))))) (.pair (.st (.pair (.int .i64) (.pair (.int .i64) (.pair (.int .i64) (.pair (.int .i64) (.bool)))))) (.pair (.int .i64) (.pair (.u8) (.pair (.bool) (.slice (.u8))))))))))))) [])]
def rs_r23_Write : List Kd := [.v (.slice (.u8)) [0], .v (.int .i64) []]
def r23_Write (N : Nat) (x : (UInt8 × (List UInt8) × (List UInt8) × Int × Int × (Int × Int × Int × Int × Bool) × (Int × Int × Int × Int × Bool) × Int × Int) × List (Int × Int × UInt8 × UInt8 × (Int × Int × Int × Int × Bool) × (Int × Int × Int × Int × Bool) × Int × UInt8 × Bool × List UInt8)) : Option (List UInt8 × Int) :=
 bnd (r23_PutHeader N x.1) fun v0 =>
 cnd (ine v0.2 (0 : Int))
  (some (([] : List UInt8), v0.2))
  (cnd (ine (len x.2) x.1.2.2.2.1)
   (some (([] : List UInt8), (1 : Int)))
   (jn (fun (v1 : List UInt8) =>
    some (v1, (0 : Int)))
   fun v2 =>
   fixN (fun v3 (v4 : (List UInt8) × Int) =>
    cnd (ilt v4.2 (len x.2))
     (grd (inb v4.2 (len x.2))
      (bnd (r23_Put N (lget x.2 (toN v4.2) ((0 : Int), ((0 : Int), ((0 : UInt8), ((0 : UInt8), (((0 : Int), ((0 : Int), ((0 : Int), ((0 : Int), false)))), (((0 : Int), ((0 : Int), ((0 : Int), ((0 : Int), false)))), ((0 : Int), ((0 : UInt8), (false, []))))))))))) fun v5 =>
      cnd (ine v5.2 (0 : Int))
       (some (([] : List UInt8), v5.2))
       (grd (room (iadd (len v4.1) (len v5.1)) 1)
        (v3 (lapp v4.1 v5.1, w64 (iadd v4.2 (1 : Int)))))))
     (v2 v4.1)) N (v0.1, (0 : Int))))
def ps_r24_Encode : List PK := [.k (.v (.st (.pair (.str) (.pair (.str) (.pair (.u8) (.pair (.bool) (.pair (.int .i64) (.pair (.slice (.st (.pair (.str) (.pair (.int .i64) (.pair (.int .i64) (.pair (.int .i64) (.pair (.int .i64) (.pair (.u8) (.bool))))))))) (.pair (.slice (.st (.pair (.int .i64) (.pair (.st (.pair (.int .i64) (.int .i64))) (.pair (.str) (.pair (.u8) (.pair (.str) (.slice (.st (.slice (.st (.pair (.str) (.pair (.st (.pair (.u8) (.pair (.bool) (.bool)))) (.str)))))))))))))) (.slice (.st (.pair (.int .i64) (.pair (.int .i64) (.pair (.int .i64) (.pair (.int .i64) (.pair (.str) (.pair (.str) (.pair (.bool) (.bool)))))))))))))))))) [])]
def rs_r24_Encode : List Kd := [.v (.slice (.u8)) [0], .v (.int .i64) []]
def r24_Encode (N : Nat) (x : (List UInt8) × (List UInt8) × UInt8 × Bool × Int × (List ((List UInt8) × Int × Int × Int × Int × UInt8 × Bool)) × (List (Int × (Int × Int) × (List UInt8) × UInt8 × (List UInt8) × List (List ((List UInt8) × (UInt8 × Bool × Bool) × List UInt8)))) × List (Int × Int × Int × Int × (List UInt8) × (List UInt8) × Bool × Bool)) : Option (List UInt8 × Int) :=
 bnd (r24_Accept N x) fun v0 =>
 cnd (ine v0.2 (0 : Int))
  (some (([] : List UInt8), v0.2))
  (jn (fun (v1 : (List (Int × Int × UInt8 × UInt8 × (Int × Int × Int × Int × Bool) × (Int × Int × Int × Int × Bool) × Int × UInt8 × Bool × List UInt8)) × UInt8 × (List UInt8) × (List UInt8) × Int × Int × (Int × Int × Int × Int × Bool) × (Int × Int × Int × Int × Bool) × Int × Int) =>
   bnd (r23_Write N ((v1.2.1, v1.2.2.1, v1.2.2.2.1, len v1.1, v1.2.2.2.2.2), v1.1)) fun v2 =>
   some v2)
  fun v3 =>
  fixN (fun v4 (v5 : (List (Int × Int × UInt8 × UInt8 × (Int × Int × Int × Int × Bool) × (Int × Int × Int × Int × Bool) × Int × UInt8 × Bool × List UInt8)) × Int × UInt8 × (List UInt8) × (List UInt8) × Int × Int × (Int × Int × Int × Int × Bool) × (Int × Int × Int × Int × Bool) × Int × Int) =>
   cnd (ilt v5.2.1 (len x.2.2.2.2.2.2.1))
    (grd (inb v5.2.1 (len x.2.2.2.2.2.2.1))
     (bnd (r03_Label N (x.2.2.1, false, (lget x.2.2.2.2.2.2.1 (toN v5.2.1) ((0 : Int), (((0 : Int), (0 : Int)), ([], ((0 : UInt8), ([], [])))))).2.1.1)) fun v6 =>
     bnd (r03_Label N (x.2.2.1, false, (lget x.2.2.2.2.2.2.1 (toN v5.2.1) ((0 : Int), (((0 : Int), (0 : Int)), ([], ((0 : UInt8), ([], [])))))).2.1.2)) fun v7 =>
     bnd (r24_place N (lget x.2.2.2.2.2.2.1 (toN v5.2.1) ((0 : Int), (((0 : Int), (0 : Int)), ([], ((0 : UInt8), ([], []))))), x.2.2.2.2.2.1)) fun v8 =>
     jn (fun (v9 : UInt8 × (List UInt8) × (List UInt8) × Int × Int × (Int × Int × Int × Int × Bool) × (Int × Int × Int × Int × Bool) × Int × Int) =>
      bnd (r24_Text N (lget x.2.2.2.2.2.2.1 (toN v5.2.1) ((0 : Int), (((0 : Int), (0 : Int)), ([], ((0 : UInt8), ([], [])))))).2.2.2.2.2) fun v10 =>
      bnd (r23_Split N (((0 : Int), v5.2.1, (0 : UInt8), (0 : UInt8), v6.1, v7.1, v8.1, v8.2, false, ([] : List UInt8)), v10.1)) fun v11 =>
      cnd (ine v11.2 (0 : Int))
       (some (([] : List UInt8), v11.2))
       (grd (room (iadd (len v5.1) (len v11.1)) 144)
        (v4 (lapp v5.1 v11.1, w64 (iadd v5.2.1 (1 : Int)), v9))))
     fun v12 =>
     cnd (ieq v5.2.1 (0 : Int))
      (v12 (v5.2.2.1, v5.2.2.2.1, v5.2.2.2.2.1, v5.2.2.2.2.2.1, v5.2.2.2.2.2.2.1, v5.2.2.2.2.2.2.2.1, v6.1, v5.2.2.2.2.2.2.2.2.2))
      (v12 v5.2.2)))
    (v3 (v5.1, v5.2.2))) N (([] : List (Int × Int × UInt8 × UInt8 × (Int × Int × Int × Int × Bool) × (Int × Int × Int × Int × Bool) × Int × UInt8 × Bool × List UInt8)), (0 : Int), x.2.2.1, x.2.1, x.1, (0 : Int), len x.2.2.2.2.2.2.1, ((0 : Int), (0 : Int), (0 : Int), (0 : Int), false), ((0 : Int), (0 : Int), (0 : Int), (0 : Int), false), (15 : Int), (32 : Int)))
def ps_l24_StlEncodes : List PK := [.k (.v (.st (.pair (.str) (.pair (.str) (.pair (.u8) (.pair (.bool) (.pair (.int .i64) (.pair (.slice (.st (.pair (.str) (.pair (.int .i64) (.pair (.int .i64) (.pair (.int .i64) (.pair (.int .i64) (.pair (.u8) (.bool))))))))) (.pair (.slice (.st (.pair (.int .i64) (.pair (.st (.pair (.int .i64) (.int .i64))) (.pair (.str) (.pair (.u8) (.pair (.str) (.slice (.st (.slice (.st (.pair (.str) (.pair (.st (.pair (.u8) (.pair (.bool) (.bool)))) (.str)))))))))))))) (.slice (.st (.pair (.int .i64) (.pair (.int .i64) (.pair (.int .i64) (.pair (.int .i64) (.pair (.str) (.pair (.str) (.pair (.bool) (.bool)))))))))))))))))) [])]
def rs_l24_StlEncodes : List Kd := [.v (.bool) []]
def l24_StlEncodes (N : Nat) (x : (List UInt8) × (List UInt8) × UInt8 × Bool × Int × (List ((List UInt8) × Int × Int × Int × Int × UInt8 × Bool)) × (List (Int × (Int × Int) × (List UInt8) × UInt8 × (List UInt8) × List (List ((List UInt8) × (UInt8 × Bool × Bool) × List UInt8)))) × List (Int × Int × Int × Int × (List UInt8) × (List UInt8) × Bool × Bool)) : Option (Bool) :=
 bnd (l24_awake N ()) fun v0 =>
 cnd (bnot v0)
  (some false)
  (bnd (l24_few N x) fun v1 =>
  bnd (stl_Encode N v1) fun v2 =>
  bnd (r24_Encode N v1) fun v3 =>
  bnd (slices_Equal_Lbyte_byte N (v2.1, v3.1)) fun v4 =>
  cnd v4
   (some (ieq v2.2 v3.2))
   (some false))
end
end Go.Mo
end

section
/-
  Two functions of strings.Builder, walked by hand. The numbers are printed by a program.
-/
set_option linter.unusedVariables false
namespace Go.Mo
open Go Go.W Go.Proofs Go.RowKit

theorem sizeB : (Tryz.prog.info? 230).map (·.size) = some 2 := by kernel_rfl
theorem liesB : liesAt Tryz.prog Tryz.prog.depth 230 (2 / Tryz.prog.cellsOf 230) 0 230 1 = true := by kernel_rfl
theorem cellsByte : Tryz.prog.cellsOf 5 = 1 := by kernel_rfl
theorem undP : Tryz.prog.underlying 228 = some (.pointer 230) := by kernel_rfl
theorem undU : Tryz.prog.underlying 273 = some .unsafePointer := by kernel_rfl
theorem undBP : Tryz.prog.underlying 259 = some (.pointer 5) := by kernel_rfl
theorem undSl : Tryz.prog.underlying 37 = some (.slice 5) := by kernel_rfl
theorem mixedB : Tryz.prog.follows .mixedOrders = true := by kernel_rfl
theorem fNe : Tryz.prog.funcs[260]? = some Tryz.f260 := by kernel_rfl

set_option maxHeartbeats 1000000 in
set_option maxRecDepth 100000 in
theorem cc_used (b : Nat) (w : World) (h0 : w.cell? ⟨b, 0, none⟩ = some (.pointer (some ⟨b, 0, none⟩))) :
    Calls Tryz.prog 239 #[.pointer (some ⟨b, 0, none⟩)] w fun e w' => e = .returned (.tuple #[]) ∧ w' = w := by
  obtain ⟨j, hj, _⟩ := Option.map_eq_some_iff.1 sizeB
  go_enter Tryz.func239, Tryz.ntmps239
  go_wp2
  rw [Lib.run_neq_ptr_same w _ undP hj]
  go_wp2
  go_end0
  exact ⟨rfl, rfl⟩

set_option maxHeartbeats 1000000 in
set_option maxRecDepth 100000 in
theorem cc_fresh (b : Nat) (w : World) (h0 : w.cell? ⟨b, 0, none⟩ = some (.pointer none)) (hsh : w.shape? b = some (230, 2)) (hfz : w.frozen? ⟨b, 0, none⟩ = false) :
    Calls Tryz.prog 239 #[.pointer (some ⟨b, 0, none⟩)] w fun e w' => e = .returned (.tuple #[]) ∧ w' = w.setCell ⟨b, 0, none⟩ (.pointer (some ⟨b, 0, none⟩)) := by
  obtain ⟨j, hj, hjs⟩ := Option.map_eq_some_iff.1 sizeB
  go_enter Tryz.func239, Tryz.ntmps239
  go_wp2
  rw [Lib.run_to_unsafe w ⟨b, 0, none⟩ undP undU hj (by rw [hjs]; decide) hsh (Nat.zero_lt_succ 1)]
  simp only [Result.andThen]
  rw [Oper.upon_value]
  go_wp2
  rw [run_callFunc_extern fNe (by kernel_rfl) (by kernel_rfl) (by kernel_rfl) (e := Extern.AbiNoEscape.same) (by kernel_rfl)]
  rw [Lib.run_noEscape]
  simp only [Result.andThen]
  rw [Oper.upon_value]
  go_wp2
  rw [Lib.run_from_unsafe w ⟨b, 0, none⟩ undU undP hj hsh liesB]
  simp only [Result.andThen]
  rw [Oper.upon_value]
  go_wp2
  go_end0
  exact ⟨rfl, rfl⟩

theorem ccOk : CcOk Tryz.prog 239 230 := by
  intro w b p v hb hp
  refine ⟨by
    unfold callFunc
    simp only [program, Sem.run_bind, Sem.run, Result.andThen_ok, show Tryz.prog.funcs[239]? = some Tryz.f239 from by kernel_rfl]
    rfl, ?_⟩
  have c0 : w.cell? ⟨b, 0, none⟩ = some p := by rw [Lib.cell_of_heap hb]; rfl
  rcases hp with hp | hp
  · subst hp
    refine (cc_fresh b w c0 (by simp [World.shape?, hb]) (Lib.frozen_of_heap hb 0)).mono ?_
    rintro e w' ⟨rfl, rfl⟩
    refine ⟨rfl, rfl, rfl, rfl, by simp [World.setCell], fun b' hb' => ?_, .pointer (some ⟨b, 0, none⟩), ?_, .inr rfl⟩
    · simp [World.setCell, Array.getElem?_modify, Ne.symm hb']
    · simp [World.setCell, Array.getElem?_modify, hb]
  · subst hp
    refine (cc_used b w c0).mono ?_
    rintro e w' ⟨rfl, rfl⟩
    exact ⟨rfl, rfl, rfl, rfl, rfl, fun _ _ => rfl, _, hb, .inr rfl⟩

/-! ### String -/
section
variable (b : Nat) (p : Value) (w : World)
set_option maxHeartbeats 2000000 in
set_option maxRecDepth 100000 in
theorem bs_some (l : List UInt8) (h0 : l ≠ []) (g cap : Nat) (cur : Array Value) (fz : Nat × Nat) (hbk : w.heap[b]? = some (.cells #[p, .slice (some ⟨g, 0, none⟩) l.length cap] 230 (0, 0))) (hg : w.heap[g]? = some (.cells cur 5 fz)) (hnc : l.length ≤ cap) (hcm : cap ≤ maxLen) (hcs : cap ≤ cur.size) (htake : cur.toList.take l.length = l.map fun b => Value.int .u8 (b.toNat : Int)) :
    Calls Tryz.prog 217 #[.pointer (some ⟨b, 0, none⟩)] w fun e w' => e = .returned (.string ⟨l.toArray⟩) ∧ w' = w.drew.freeze ⟨g, 0, none⟩ l.length := by
  have hl0 : l.length ≠ 0 := by simpa using h0
  have c1 : w.drew.cell? ⟨b, 1, none⟩ = some (.slice (some ⟨g, 0, none⟩) l.length cap) := by
    have : w.drew.heap[b]? = some (.cells #[p, .slice (some ⟨g, 0, none⟩) l.length cap] 230 (0, 0)) := hbk
    rw [Lib.cell_of_heap this]; rfl
  have hSD : (Builtin.unsafeSliceData_ #[37] 259 #[.slice (some ⟨g, 0, none⟩) l.length cap]).run Tryz.prog w.drew = .ok (.pointer (some ⟨g, 0, none⟩)) w.drew :=
    Lib.run_unsafeSliceData_row _ _ _ _ _ _ (by omega)
  have hUS : (Builtin.unsafeString_ #[259, 3] 9 #[.pointer (some ⟨g, 0, none⟩), .int .i64 l.length]).run Tryz.prog w.drew = .ok (.string ⟨l.toArray⟩) (w.drew.freeze ⟨g, 0, none⟩ l.length) := by
    refine Lib.run_unsafeString_row w.drew 259 3 9 5 undBP cellsByte g cur.size (by have hg' : w.drew.heap[g]? = some (.cells cur 5 fz) := hg; simp [World.shape?, hg']) l h0 (by omega) (by unfold maxLen at hcm; omega) ?_
    intro j x hx
    have hg' : w.drew.heap[g]? = some (.cells cur 5 fz) := hg
    rw [add_lit, cell_row hg', Nat.zero_add]
    have hj : j < l.length := (List.getElem?_eq_some_iff.1 hx).1
    have := congrArg (·[j]?) htake
    simp only [List.getElem?_take, hj, if_true, List.getElem?_map, hx, Option.map_some] at this
    simpa using this
  go_enter Tryz.func217, Tryz.ntmps217
  go_wp2
  go_region
  all_goals (go_wp2; go_ret; exact ⟨rfl, rfl⟩)

theorem us_none (W : World) (q : Option Addr) : (Builtin.unsafeString_ #[259, 3] 9 #[.pointer q, .int .i64 0]).run Tryz.prog W = .ok (.string .empty) W := Lib.run_unsafeString_none W _ _ _ q

set_option maxHeartbeats 2000000 in
set_option maxRecDepth 100000 in
theorem bs_nil (hbk : w.heap[b]? = some (.cells #[p, .slice none 0 0] 230 (0, 0))) :
    Calls Tryz.prog 217 #[.pointer (some ⟨b, 0, none⟩)] w fun e w' => e = .returned (.string ⟨#[]⟩) ∧ w' = w.drew := by
  have hUS := us_none
  have c1 : w.drew.cell? ⟨b, 1, none⟩ = some (.slice none 0 0) := by
    have : w.drew.heap[b]? = some (.cells #[p, .slice none 0 0] 230 (0, 0)) := hbk
    rw [Lib.cell_of_heap this]; rfl
  have hSD : (Builtin.unsafeSliceData_ #[37] 259 #[.slice none 0 0]).run Tryz.prog w.drew = .ok (.pointer none) w.drew := rfl
  go_enter Tryz.func217, Tryz.ntmps217
  go_wp2
  go_region
  all_goals (go_wp2; go_ret; exact ⟨rfl, rfl⟩)

set_option maxHeartbeats 2000000 in
set_option maxRecDepth 100000 in
theorem bs_noroom (g : Nat) (cur : Array Value) (fz : Nat × Nat) (hbk : w.heap[b]? = some (.cells #[p, .slice (some ⟨g, 0, none⟩) 0 0] 230 (0, 0))) (hg : w.heap[g]? = some (.cells cur 5 fz)) :
    Calls Tryz.prog 217 #[.pointer (some ⟨b, 0, none⟩)] w fun e w' => e = .returned (.string ⟨#[]⟩) ∧ ∃ d o, w' = World.alloc { w with drawn := d } o := by
  have hUS := us_none
  have hlt : b < w.heap.size := (Array.getElem?_eq_some_iff.1 hbk).1
  have c1 : w.drew.cell? ⟨b, 1, none⟩ = some (.slice (some ⟨g, 0, none⟩) 0 0) := by
    have : w.drew.heap[b]? = some (.cells #[p, .slice (some ⟨g, 0, none⟩) 0 0] 230 (0, 0)) := hbk
    rw [Lib.cell_of_heap this]; rfl
  have hSD : (Builtin.unsafeSliceData_ #[37] 259 #[.slice (some ⟨g, 0, none⟩) 0 0]).run Tryz.prog w.drew = .ok (.pointer (some ⟨w.drew.heap.size, 0, none⟩)) (w.drew.alloc (.view ⟨g, 0, none⟩ 5)) :=
    Lib.run_unsafeSliceData_zero w.drew _ _ 5 undBP ⟨g, 0, none⟩ 0 (5, cur.size) (by have hg' : w.drew.heap[g]? = some (.cells cur 5 fz) := hg; simp [World.shape?, hg'])
  have c2 : (w.drew.alloc (.view ⟨g, 0, none⟩ 5)).cell? ⟨b, 1, none⟩ = some (.slice (some ⟨g, 0, none⟩) 0 0) := by
    have : (w.drew.alloc (.view ⟨g, 0, none⟩ 5)).heap[b]? = _ := (Lib.alloc_old w.drew _ b hlt).trans hbk
    rw [Lib.cell_of_heap this]; rfl
  have c3 : (w.alloc (.view ⟨g, 0, none⟩ 5)).drew.cell? ⟨b, 1, none⟩ = some (.slice (some ⟨g, 0, none⟩) 0 0) := c2
  have c0 : w.cell? ⟨b, 1, none⟩ = some (.slice (some ⟨g, 0, none⟩) 0 0) := c1
  go_enter Tryz.func217, Tryz.ntmps217
  go_wp2
  go_region
  all_goals (go_wp2; go_ret; exact ⟨rfl, w.drawn + 1, .view ⟨g, 0, none⟩ 5, rfl⟩)

set_option maxHeartbeats 2000000 in
set_option maxRecDepth 100000 in
theorem bs_room (g cap : Nat) (hc0 : cap ≠ 0) (hbk : w.heap[b]? = some (.cells #[p, .slice (some ⟨g, 0, none⟩) 0 cap] 230 (0, 0))) :
    Calls Tryz.prog 217 #[.pointer (some ⟨b, 0, none⟩)] w fun e w' => e = .returned (.string ⟨#[]⟩) ∧ w' = w.drew := by
  have hUS := us_none
  have c1 : w.drew.cell? ⟨b, 1, none⟩ = some (.slice (some ⟨g, 0, none⟩) 0 cap) := by
    have : w.drew.heap[b]? = some (.cells #[p, .slice (some ⟨g, 0, none⟩) 0 cap] 230 (0, 0)) := hbk
    rw [Lib.cell_of_heap this]; rfl
  have hSD : (Builtin.unsafeSliceData_ #[37] 259 #[.slice (some ⟨g, 0, none⟩) 0 cap]).run Tryz.prog w.drew = .ok (.pointer (some ⟨g, 0, none⟩)) w.drew :=
    Lib.run_unsafeSliceData_row _ _ _ _ _ _ hc0
  clear hc0
  go_enter Tryz.func217, Tryz.ntmps217
  go_wp2
  go_region
  all_goals (go_wp2; go_ret; exact ⟨rfl, rfl⟩)
end
theorem bsOk : BsOk Tryz.prog 217 230 := by
  intro w b p A c xs hb hcm hpre
  refine ⟨by
    unfold callFunc
    simp only [program, Sem.run_bind, Sem.run, Result.andThen_ok, show Tryz.prog.funcs[217]? = some Tryz.f217 from by kernel_rfl]
    rfl, ?_⟩
  have same : ∀ (A : Option Addr) (w' : World), w' = w.drew → SameBut w w' A := fun A w' e => by
    subst e
    exact ⟨rfl, rfl, rfl, Nat.le_refl _, fun _ _ _ => rfl, fun ad _ cs e fz h => ⟨fz, h⟩⟩
  rcases hpre with ⟨rfl, rfl, rfl⟩ | ⟨g, cur, fz, rfl, h1, h2, h3, h4, h5⟩
  · exact (bs_nil b p w hb).mono fun e w' ⟨he, hw⟩ => ⟨he, same _ _ hw⟩
  · by_cases hx : xs = []
    · subst hx
      by_cases hc : c = 0
      · subst hc
        refine (bs_noroom b p w g cur fz hb h1).mono fun e w' ⟨he, d, o, hw⟩ => ⟨he, ?_⟩
        subst hw
        have old : ∀ b', b' < w.heap.size → (World.alloc { w with drawn := d } o).heap[b']? = w.heap[b']? := fun b' hb' => Below.heap_alloc { w with drawn := d } o b' hb'
        exact ⟨rfl, rfl, rfl, by simp [World.alloc], fun b' hb' _ => old b' hb', fun ad _ cs e fz h => ⟨fz, by rw [old _ (Array.getElem?_eq_some_iff.1 h).1]; exact h⟩⟩
      · exact (bs_room b p w g c hc hb).mono fun e w' ⟨he, hw⟩ => ⟨he, same _ _ hw⟩
    · refine (bs_some b p w xs hx g c cur fz hb h1 h3 hcm h4 h5).mono fun e w' ⟨he, hw⟩ => ⟨he, ?_⟩
      subst hw
      have hne : xs.length ≠ 0 := by simpa using hx
      unfold World.freeze
      rw [if_neg hne]
      refine ⟨rfl, rfl, rfl, by simp, fun b' _ hb' => ?_, fun ad had cs e fz' h => ?_⟩
      · have hgb : g ≠ b' := fun e => hb' _ rfl e.symm
        show (w.heap.modify g _)[b']? = w.heap[b']?
        rw [Array.getElem?_modify, if_neg hgb]
      · injection had with had
        subst had
        have h : w.heap[g]? = some (.cells cs e fz') := h
        obtain ⟨lo, hi⟩ := fz'
        refine ⟨if lo == hi then (0, 0 + xs.length) else (min lo 0, max hi (0 + xs.length)), ?_⟩
        show (w.heap.modify g _)[g]? = _
        rw [Array.getElem?_modify, if_pos rfl, h]
        rfl
end Go.Mo
end

section
/-
  unicode/utf8.ValidString: the library's contract. The numbers are printed by a program.
-/
set_option linter.unusedVariables false
namespace Go.Mo
open Go Go.W Go.Proofs Go.Shelf Go.RowKit
set_option maxRecDepth 100000
def rhoV : Ren := ⟨fun n => match n with | 196 => 160 | 259 => 214 | n => n, fun n => match n with | 46 => 207 | 53 => 254 | 119 => 223 | 138 => 225 | 139 => 226 | n => n, fun n => match n with | 3 => 0 | 4 => 1 | n => n⟩
theorem laysV : Lays.n196 Tryz.prog rhoV := { mixed := by kernel_rfl, f196 := by kernel_rfl, f259 := by kernel_rfl, t0 := by kernel_rfl, a0 := fun _ => by kernel_rfl, z0 := fun _ => by kernel_rfl, v0 := fun _ => by kernel_rfl, t3 := by kernel_rfl, a3 := fun _ => by kernel_rfl, z3 := fun _ => by kernel_rfl, v3 := fun _ => by kernel_rfl, t4 := by kernel_rfl, a4 := fun _ => by kernel_rfl, z4 := fun _ => by kernel_rfl, v4 := fun _ => by kernel_rfl, t5 := by kernel_rfl, a5 := fun _ => by kernel_rfl, z5 := fun _ => by kernel_rfl, v5 := fun _ => by kernel_rfl, t9 := by kernel_rfl, a9 := fun _ => by kernel_rfl, z9 := fun _ => by kernel_rfl, v9 := fun _ => by kernel_rfl, t12 := by kernel_rfl, a12 := fun _ => by kernel_rfl, z12 := fun _ => by kernel_rfl, v12 := fun _ => by kernel_rfl, t46 := by kernel_rfl, a46 := fun _ => by kernel_rfl, z46 := fun _ => by kernel_rfl, v46 := fun _ => by kernel_rfl, t53 := by kernel_rfl, a53 := fun _ => by kernel_rfl, z53 := fun _ => by kernel_rfl, v53 := fun _ => by kernel_rfl, t119 := by kernel_rfl, a119 := fun _ => by kernel_rfl, z119 := fun _ => by kernel_rfl, t138 := by kernel_rfl, a138 := fun _ => by kernel_rfl, z138 := fun _ => by kernel_rfl, v138 := fun _ => by kernel_rfl, t139 := by kernel_rfl, a139 := fun _ => by kernel_rfl, z139 := fun _ => by kernel_rfl, v139 := fun _ => by kernel_rfl, g3 := by kernel_rfl, g4 := by kernel_rfl }
theorem first_tab : ((List.range 256).all fun c => Nat.beq ((gl0.getD c 0).toNat) (Lib.firstT c) && Nat.beq gl0.length 256) = true := by kernel_rfl
theorem acc_tab : ((List.range 16).all fun c => Nat.beq ((gl1.getD c (0, 0)).1.toNat) (Lib.accLo c) && Nat.beq ((gl1.getD c (0, 0)).2.toNat) (Lib.accHi c) && Nat.beq gl1.length 16) = true := by kernel_rfl
theorem rep_pairs {K : Kn} : ∀ {xs : List (UInt8 × UInt8)} {vs : List Value}, RepL (RepC K (.st (.pair .u8 .u8))) xs vs → ∀ i x, xs[i]? = some x → vs[2 * i]? = some (.int .u8 (n8 x.1)) ∧ vs[2 * i + 1]? = some (.int .u8 (n8 x.2))
  | [], vs, h, i, x, hx => by simp at hx
  | y :: xs, vs, ⟨c1, c2, e, h1, h2⟩, i, x, hx => by
    obtain ⟨d1, d2, e1, e2, e3⟩ := h1
    have e2 : d1 = [.int .u8 (n8 y.1)] := e2
    have e3 : d2 = [.int .u8 (n8 y.2)] := e3
    subst e2
    subst e3
    subst e1
    subst e
    cases i with
    | zero => simp at hx; subst hx; exact ⟨rfl, rfl⟩
    | succ i =>
      have := rep_pairs h2 i x (by simpa using hx)
      rw [show 2 * (i + 1) = 2 * i + 1 + 1 by omega]
      simpa using this
theorem tabsV {K : Kn} {w : World} (hg : GlobOk E K) (hk : ∀ b o v, K b o = some v → ∃ cs e fz, w.heap[b]? = some (.cells cs e fz) ∧ cs[o]? = some v) : Lib.Utf8Tabs 0 1 w := by
  have cell : ∀ {b o : Nat} {v : Value}, K b o = some v → w.cell? ⟨b, o, none⟩ = some v := fun {b o v} h => by
    obtain ⟨cs, e, fz, h1, h2⟩ := hk b o v h
    rw [cell_row h1]
    exact h2
  constructor
  · obtain ⟨cs, ⟨_, r2⟩, r3⟩ := hg.1 0 _ _ (show lkG E.gl 0 = some ⟨.arr 256 .u8, gl0⟩ from by kernel_rfl)
    have hcs := repL_u8_cells r2
    intro c hc
    have ht := List.all_eq_true.1 first_tab c (List.mem_range.2 hc)
    simp only [Bool.and_eq_true] at ht
    have ht1 := Nat.eq_of_beq_eq_true ht.1
    have ht2 := Nat.eq_of_beq_eq_true ht.2
    have hlt : c < gl0.length := by rw [ht2]; exact hc
    refine cell (r3 c _ ?_)
    rw [hcs, List.getElem?_map, List.getElem?_eq_getElem hlt]
    have : gl0.getD c 0 = gl0[c] := by simp [hlt]
    rw [this] at ht1
    simp [ht1]
  · obtain ⟨cs, ⟨_, r2⟩, r3⟩ := hg.1 1 _ _ (show lkG E.gl 1 = some ⟨.arr 16 (.st (.pair .u8 .u8)), gl1⟩ from by kernel_rfl)
    intro c hc
    have ht := List.all_eq_true.1 acc_tab c (List.mem_range.2 hc)
    simp only [Bool.and_eq_true] at ht
    have ht1 := Nat.eq_of_beq_eq_true ht.1.1
    have ht2 := Nat.eq_of_beq_eq_true ht.1.2
    have ht3 := Nat.eq_of_beq_eq_true ht.2
    have hlt : c < gl1.length := by rw [ht3]; exact hc
    obtain ⟨q1, q2⟩ := rep_pairs r2 c _ (List.getElem?_eq_getElem hlt)
    have : gl1.getD c (0, 0) = gl1[c] := by simp [hlt]
    rw [this] at ht1 ht2
    refine ⟨cell (r3 _ _ (by rw [q1]; unfold n8; rw [ht1])), cell (r3 _ _ (by rw [q2]; unfold n8; rw [ht2]))⟩
theorem khV (N : Nat) : ConOk E ⟨160, [.k (.v .str [])], [.v .bool []], hand_utf8_ValidString N⟩ := by
  intro x r h w K H γ args hEnt
  obtain ⟨hgd, h⟩ := grd_some (show grd (catOk (len x)) (some (Lib.validD x)) = some r from h)
  injection h with h
  subst h
  have hgd : (x.length : Int) ≤ 9223372036854775807 := of_decide_eq_true hgd
  right
  have hs : args.size = 1 := hEnt.size
  have s0 := (hEnt.slots 0 0 (.val (.one (.v .str x))) rfl).2
  have s0 : args.getD 0 undef = .string (bst x) := by simpa [RepSV, RepV, RepCell, RepC] using s0
  have ha : args = #[.string (bst x)] := by
    apply Array.ext
    · simpa using hs
    · intro i h1 h3
      simp at h3
      subst h3
      have : args.getD 0 undef = args[0] := by simp [Array.getD, hs]
      rw [← this, s0]
      rfl
  subst ha
  have hsz : (bst x).size = x.length := bst_size x
  refine ⟨by
    unfold callFunc
    simp only [program, Sem.run_bind, Sem.run, Result.andThen_ok, show E.P.funcs[160]? = some Tryz.f160 from by kernel_rfl]
    rfl, ?_⟩
  have hT := tabsV hEnt.glob hEnt.hp.kok
  refine (Any.utf8_ValidString laysV (bst x) w (by rw [hsz]; omega) hT).mono fun e w' he => ?_
  obtain ⟨rfl, hb⟩ := he
  intro tk _
  refine ⟨γ, obs (W.start [.k (.v .str [])] x), K, [], [], ?_, ⟨rfl, rfl⟩, fun j => by simp, fun i o ho => ?_, fun γ2 _ => rfl⟩
  · have hn : ∀ j, obs (W.start [.k (.v .str [])] x) j = none := fun j => rfl
    refine ⟨hb.os, hb.tape, hb.output, hb.size, fun b hlt _ => ⟨hb.block b hlt, fun _ => rfl⟩, Kn.le.refl K, fun b o v hv => ?_, fun j o g hj => (by rw [hn] at hj; cases hj), fun j o g hj => (by rw [hn] at hj; cases hj), fun i j p q g g' hi => (by rw [hn] at hi; cases hi)⟩
    obtain ⟨cs, ee, fz, h1, h2⟩ := hEnt.hp.kok b o v hv
    exact ⟨cs, ee, fz, by rw [hb.block b (Array.getElem?_eq_some_iff.1 h1).1]; exact h1, h2⟩
  · have ho : ([] : List Ob)[i]? = some o := ho
    simp at ho
end Go.Mo
end

section
/-
  Functions of the library, by its own contracts. The numbers are printed by a program.
-/
set_option linter.all false
namespace Go.Mo
open Go Go.W Go.Proofs Go.Shelf Go.RowKit
set_option maxRecDepth 100000
def rhoC : Ren := ⟨fun n => match n with | 143 => 218 | 144 => 165 | 217 => 261 | 219 => 240 | 224 => 244 | 225 => 245 | 266 => 270 | 267 => 262 | 314 => 271 | n => n, fun n => match n with | 46 => 207 | 51 => 262 | 146 => 263 | 22 => 191 | 27 => 235 | 28 => 146 | 31 => 189 | 38 => 43 | 39 => 187 | 40 => 194 | 41 => 220 | 47 => 272 | 52 => 276 | 53 => 254 | 54 => 255 | 55 => 260 | 63 => 195 | 64 => 227 | 70 => 228 | 71 => 229 | 72 => 230 | 74 => 231 | 75 => 232 | 76 => 233 | 77 => 234 | 79 => 247 | 80 => 140 | 81 => 285 | 83 => 252 | 84 => 183 | 97 => 248 | 98 => 165 | 99 => 166 | 103 => 221 | 104 => 141 | 105 => 98 | 107 => 159 | 109 => 237 | 110 => 238 | 111 => 271 | 114 => 261 | 115 => 241 | 119 => 223 | 126 => 267 | 127 => 259 | 131 => 89 | 136 => 222 | 137 => 224 | 138 => 225 | 139 => 226 | 147 => 264 | 148 => 265 | 149 => 266 | 151 => 277 | 164 => 273 | 165 => 274 | 166 => 239 | 171 => 253 | 172 => 256 | 173 => 257 | 174 => 258 | 179 => 203 | 180 => 275 | 211 => 268 | 212 => 269 | 213 => 270 | 217 => 99 | 232 => 278 | 233 => 279 | 238 => 280 | 239 => 281 | 240 => 282 | 241 => 283 | 242 => 284 | 243 => 286 | 244 => 287 | 245 => 288 | 246 => 289 | 247 => 290 | 248 => 291 | 249 => 292 | n => n, fun n => match n with | 1 => 2 | 3 => 0 | 4 => 1 | 17 => 3 | 18 => 4 | 19 => 5 | n => n⟩
theorem laysC : Lays.n144 Tryz.prog rhoC := { mixed := by kernel_rfl, f143 := by kernel_rfl, f144 := by kernel_rfl, f217 := by kernel_rfl, f219 := by kernel_rfl, f224 := by kernel_rfl, f225 := by kernel_rfl, f266 := by kernel_rfl, f267 := by kernel_rfl, f314 := by kernel_rfl, t3 := by kernel_rfl, a3 := fun _ => by kernel_rfl, z3 := fun _ => by kernel_rfl, v3 := fun _ => by kernel_rfl, t4 := by kernel_rfl, a4 := fun _ => by kernel_rfl, z4 := fun _ => by kernel_rfl, v4 := fun _ => by kernel_rfl, t5 := by kernel_rfl, a5 := fun _ => by kernel_rfl, z5 := fun _ => by kernel_rfl, v5 := fun _ => by kernel_rfl, t9 := by kernel_rfl, a9 := fun _ => by kernel_rfl, z9 := fun _ => by kernel_rfl, v9 := fun _ => by kernel_rfl, t46 := by kernel_rfl, a46 := fun _ => by kernel_rfl, z46 := fun _ => by kernel_rfl, v46 := fun _ => by kernel_rfl, t51 := by kernel_rfl, a51 := fun _ => by kernel_rfl, z51 := fun _ => by kernel_rfl, v51 := fun _ => by kernel_rfl, t146 := by kernel_rfl, a146 := fun _ => by kernel_rfl, z146 := fun _ => by kernel_rfl, v146 := fun _ => by kernel_rfl, g1 := by kernel_rfl }
theorem khContains (N : Nat) : ConOk E ⟨165, [.k (.v .str []), .k (.v .str [])], [.v .bool []], hand_strings_Contains N⟩ :=
  con_ssb (fn := Tryz.f165) _ (show E.P.funcs[165]? = some Tryz.f165 from by kernel_rfl) (by kernel_rfl) (by kernel_rfl) fun x r h w K hG hk => by
    obtain ⟨hb, h⟩ := grd_some h
    injection h with h
    subst h
    have hb : x.1.length < 4294967281 := of_decide_eq_true hb
    obtain ⟨m, hm⟩ := hG.2 2 (by kernel_rfl)
    obtain ⟨cs, e, fz, h1, h2⟩ := hk _ _ _ hm
    exact Any.strings_Contains laysC (bst x.1) (bst x.2) m w (by rw [bst_size]; exact hb) (by
      show w.cell? ⟨2, 0, none⟩ = _
      rw [cell_row h1]
      exact h2)
end Go.Mo
end

section
/-
  The environment is sound; contracts by hand.
-/
namespace Go.Mo
open Go Go.W Go.Proofs
set_option maxRecDepth 100000
theorem nzOk : NzOk E.P 225 := nz_ok (show E.P.funcs[225]? = some Tryz.f225 from by kernel_rfl) (by kernel_rfl) (by kernel_rfl) (by kernel_rfl) (show Extern.find Tryz.f225 = some (Extern.BytealgMakeNoZero.makeNoZero #[3] #[37]) from by kernel_rfl) (by kernel_rfl)
theorem envOk : EnvOk E := ⟨chk, mixed, fun z h => (by injection h with h; subst h; exact nzOk), fun z t h => (by injection h with h; injection h with h1 h2; subst h1; subst h2; exact bsOk)⟩
theorem kh_utf8_ValidString (N : Nat) : ConOk E ⟨160, ps_utf8_ValidString, rs_utf8_ValidString, utf8_ValidString N⟩ := khV N
theorem kh_bytealg_IndexByteString (N : Nat) : ConOk E ⟨270, ps_bytealg_IndexByteString, rs_bytealg_IndexByteString, bytealg_IndexByteString N⟩ := W.kh_IndexByteString (show E.P.funcs[270]? = some Tryz.f270 from by kernel_rfl) (by kernel_rfl) (by kernel_rfl) (by kernel_rfl) (show Extern.find Tryz.f270 = some Extern.BytealgIndexByte.indexByte from by kernel_rfl) N
theorem kh_strings_Builder_copyCheck (N : Nat) : ConOk E ⟨239, ps_strings_Builder_copyCheck, rs_strings_Builder_copyCheck, strings_Builder_copyCheck N⟩ := W.kh_copyCheck (show CcOk E.P 239 230 from ccOk) N
theorem kh_strings_Contains (N : Nat) : ConOk E ⟨165, ps_strings_Contains, rs_strings_Contains, strings_Contains N⟩ := khContains N
theorem kh_bytealg_IndexByte (N : Nat) : ConOk E ⟨180, ps_bytealg_IndexByte, rs_bytealg_IndexByte, bytealg_IndexByte N⟩ := W.kh_IndexByte (show E.P.funcs[180]? = some Tryz.f180 from by kernel_rfl) (by kernel_rfl) (by kernel_rfl) (by kernel_rfl) (show Extern.find Tryz.f180 = some Extern.BytealgIndexByte.indexByte from by kernel_rfl) N
end Go.Mo
end

section
/-
  The functions do what their models say. Printed by a program.
-/
namespace Go.Mo
open Go Go.W Go.Proofs
noncomputable section
set_option maxRecDepth 100000
def a_utf8_word_string : Ann := .lf
theorem x_utf8_word_string (N : Nat) : execF E [] N Tryz.f214 a_utf8_word_string ps_utf8_word_string rs_utf8_word_string = utf8_word_string N := by kernel_rfl

def a_charset_place : Ann := (.sq .lf (.sq .lf (.jn ⟨[], [], [], []⟩ (.sq .lf (.lp ⟨[1, 9], [], [.s 5, .o 5], [.v (.int .i64) [], .i]⟩ .lf)) .lf)))
theorem x_charset_place (N : Nat) : execF E [] N Tryz.f215 a_charset_place ps_charset_place rs_charset_place = charset_place N := by kernel_rfl
def a_charset_Index : Ann := .lf
theorem x_charset_Index (N : Nat) : execF E [⟨215, ps_charset_place, rs_charset_place, charset_place N⟩] N Tryz.f161 a_charset_Index ps_charset_Index rs_charset_Index = charset_Index N := by kernel_rfl
def a_charset_Valid : Ann := (.sq .lf (.sq .lf (.jn ⟨[], [], [], []⟩ (.sq .lf (.lp ⟨[9], [], [.o 7], [.i]⟩ .lf)) .lf)))
theorem x_charset_Valid (N : Nat) : execF E [⟨160, ps_utf8_ValidString, rs_utf8_ValidString, utf8_ValidString N⟩, ⟨161, ps_charset_Index, rs_charset_Index, charset_Index N⟩] N Tryz.f97 a_charset_Valid ps_charset_Valid rs_charset_Valid = charset_Valid N := by kernel_rfl
def a_style_Valid : Ann := .lf
theorem x_style_Valid (N : Nat) : execF E [] N Tryz.f109 a_style_Valid ps_style_Valid rs_style_Valid = style_Valid N := by kernel_rfl
def a_style_alike : Ann := .lf
theorem x_style_alike (N : Nat) : execF E [] N Tryz.f110 a_style_alike ps_style_alike rs_style_alike = style_alike N := by kernel_rfl
def a_style_Check : Ann := (.sq .lf (.sq .lf (.jn ⟨[], [], [], []⟩ (.sq .lf (.lp ⟨[1, 10, 11], [2], [.s 12], [.v (.int .i64) []]⟩ .lf)) .lf)))
theorem x_style_Check (N : Nat) : execF E [⟨97, ps_charset_Valid, rs_charset_Valid, charset_Valid N⟩, ⟨109, ps_style_Valid, rs_style_Valid, style_Valid N⟩, ⟨110, ps_style_alike, rs_style_alike, style_alike N⟩] N Tryz.f53 a_style_Check ps_style_Check rs_style_Check = style_Check N := by kernel_rfl
def a_stl_colorByte : Ann := .lf
theorem x_stl_colorByte (N : Nat) : execF E [] N Tryz.f54 a_stl_colorByte ps_stl_colorByte rs_stl_colorByte = stl_colorByte N := by kernel_rfl
def a_stl_on : Ann := .lf
theorem x_stl_on (N : Nat) : execF E [] N Tryz.f55 a_stl_on ps_stl_on rs_stl_on = stl_on N := by kernel_rfl
def a_latin_Carries : Ann := .lf
theorem x_latin_Carries (N : Nat) : execF E [⟨161, ps_charset_Index, rs_charset_Index, charset_Index N⟩] N Tryz.f170 a_latin_Carries ps_latin_Carries rs_latin_Carries = latin_Carries N := by kernel_rfl
def a_latin_accented : Ann := .lf
theorem x_latin_accented (N : Nat) : execF E [] N Tryz.f117 a_latin_accented ps_latin_accented rs_latin_accented = latin_accented N := by kernel_rfl
def a_charset_Upper : Ann := (.sq .lf (.sq (.sq .lf (.sq .lf (.jn ⟨[0], [], [.s 7], [.v (.bool) []]⟩ .lf .lf))) .lf))
theorem x_charset_Upper (N : Nat) : execF E [⟨161, ps_charset_Index, rs_charset_Index, charset_Index N⟩] N Tryz.f172 a_charset_Upper ps_charset_Upper rs_charset_Upper = charset_Upper N := by kernel_rfl

def a_stringslite_IndexByte : Ann := .lf
theorem x_stringslite_IndexByte (N : Nat) : execF E [⟨270, ps_bytealg_IndexByteString, rs_bytealg_IndexByteString, bytealg_IndexByteString N⟩] N Tryz.f261 a_stringslite_IndexByte ps_stringslite_IndexByte rs_stringslite_IndexByte = stringslite_IndexByte N := by kernel_rfl
def a_strings_IndexByte : Ann := .lf
theorem x_strings_IndexByte (N : Nat) : execF E [⟨261, ps_stringslite_IndexByte, rs_stringslite_IndexByte, stringslite_IndexByte N⟩] N Tryz.f242 a_strings_IndexByte ps_strings_IndexByte rs_strings_IndexByte = strings_IndexByte N := by kernel_rfl
def a_utf8_ValidRune : Ann := .lf
theorem x_utf8_ValidRune (N : Nat) : execF E [] N Tryz.f243 a_utf8_ValidRune ps_utf8_ValidRune rs_utf8_ValidRune = utf8_ValidRune N := by kernel_rfl
def a_bytealg_Cutover : Ann := .lf
theorem x_bytealg_Cutover (N : Nat) : execF E [] N Tryz.f244 a_bytealg_Cutover ps_bytealg_Cutover rs_bytealg_Cutover = bytealg_Cutover N := by kernel_rfl
def a_strings_IndexRune : Ann := (.sq .lf (.jn ⟨[0, 1], [], [.s 160], [.v (.bool) []]⟩ .lf (.sq .lf (.sq .lf (.sq (.jn ⟨[], [], [], []⟩ (.sq .lf (.lp ⟨[175], [], [.o 8], [.i]⟩ .lf)) .lf) (.sq .lf (.sq .lf (.sq (.sq .lf (.sq .lf (.sq .lf (.sq .lf (.jn ⟨[], [], [], []⟩ (.lp ⟨[0, 1, 7, 8], [], [.s 9, .s 10], [.v (.int .i64) [], .v (.int .i64) []]⟩ (.sq .lf (.sq (.jn ⟨[0, 1, 7, 8, 10], [], [.s 9], [.v (.int .i64) []]⟩ .lf (.jn ⟨[8, 9], [], [], []⟩ (.sq .lf (.lp ⟨[0, 1, 7, 8, 9, 10], [], [.s 12], [.v (.int .i64) []]⟩ .lf)) .lf)) .lf))) .lf))))) .lf))))))))
theorem x_strings_IndexRune (N : Nat) : execF E [⟨242, ps_strings_IndexByte, rs_strings_IndexByte, strings_IndexByte N⟩, ⟨243, ps_utf8_ValidRune, rs_utf8_ValidRune, utf8_ValidRune N⟩, ⟨244, ps_bytealg_Cutover, rs_bytealg_Cutover, bytealg_Cutover N⟩] N Tryz.f220 a_strings_IndexRune ps_strings_IndexRune rs_strings_IndexRune = strings_IndexRune N := by kernel_rfl
def a_strings_ContainsRune : Ann := .lf
theorem x_strings_ContainsRune (N : Nat) : execF E [⟨220, ps_strings_IndexRune, rs_strings_IndexRune, strings_IndexRune N⟩] N Tryz.f171 a_strings_ContainsRune ps_strings_ContainsRune rs_strings_ContainsRune = strings_ContainsRune N := by kernel_rfl
def a_charset_Base : Ann := .lf
theorem x_charset_Base (N : Nat) : execF E [⟨161, ps_charset_Index, rs_charset_Index, charset_Index N⟩] N Tryz.f119 a_charset_Base ps_charset_Base rs_charset_Base = charset_Base N := by kernel_rfl
def a_latin_Put : Ann := (.sq .lf (.sq .lf (.sq .lf (.sq .lf (.jn ⟨[0], [], [], []⟩ (.sq .lf (.lp ⟨[0, 15], [], [.s 3, .o 9], [.v (.int .i64) [], .i]⟩ .lf)) (.jn ⟨[], [], [], []⟩ (.sq .lf (.lp ⟨[0], [], [.s 6], [.v (.u8) []]⟩ .lf)) .lf))))))
theorem x_latin_Put (N : Nat) : execF E [⟨170, ps_latin_Carries, rs_latin_Carries, latin_Carries N⟩, ⟨117, ps_latin_accented, rs_latin_accented, latin_accented N⟩, ⟨172, ps_charset_Upper, rs_charset_Upper, charset_Upper N⟩, ⟨171, ps_strings_ContainsRune, rs_strings_ContainsRune, strings_ContainsRune N⟩, ⟨119, ps_charset_Base, rs_charset_Base, charset_Base N⟩] N Tryz.f111 a_latin_Put ps_latin_Put rs_latin_Put = latin_Put N := by kernel_rfl
def a_latin_Encode : Ann := (.sq .lf (.sq .lf (.sq .lf (.jn ⟨[], [], [.s 4], [.v (.slice (.u8)) [0]]⟩ (.sq .lf (.lp ⟨[11], [], [.s 4, .o 9], [.v (.slice (.u8)) [0], .i]⟩ .lf)) .lf))))
theorem x_latin_Encode (N : Nat) : execF E [⟨97, ps_charset_Valid, rs_charset_Valid, charset_Valid N⟩, ⟨111, ps_latin_Put, rs_latin_Put, latin_Put N⟩] N Tryz.f56 a_latin_Encode ps_latin_Encode rs_latin_Encode = latin_Encode N := by kernel_rfl
def a_stl_Text : Ann := (.sq .lf (.sq .lf (.jn ⟨[], [], [.s 4], [.v (.slice (.u8)) [0]]⟩ (.sq .lf (.lp ⟨[13, 14], [], [.s 4, .s 15], [.v (.slice (.u8)) [0], .v (.int .i64) []]⟩ (.sq .lf (.sq .lf (.jn ⟨[13, 14, 15], [], [.s 4], [.v (.slice (.u8)) [0]]⟩ (.sq .lf (.sq .lf (.jn ⟨[6, 13, 14, 15], [14], [.s 4], [.v (.slice (.u8)) [0]]⟩ .lf (.sq .lf (.sq .lf (.lp ⟨[8, 13, 14, 15, 31, 32], [], [.s 4, .s 33, .o 25], [.v (.slice (.u8)) [0], .v (.int .i64) [], .b 51 (.st (.pair (.u8) (.pair (.bool) (.bool)))) []]⟩ (.sq .lf (.sq .lf (.sq (.sq .lf (.jn ⟨[8, 10, 13, 14, 15, 31, 32, 33], [36, 25], [.s 4], [.v (.slice (.u8)) [0]]⟩ .lf (.jn ⟨[8, 10, 13, 14, 15, 31, 32, 33], [36, 25], [.s 4], [.v (.slice (.u8)) [0]]⟩ .lf (.jn ⟨[8, 10, 13, 14, 15, 31, 32, 33], [36, 25], [.s 4], [.v (.slice (.u8)) [0]]⟩ .lf .lf)))) .lf))))))))) .lf))))) .lf)))
theorem x_stl_Text (N : Nat) : execF E [⟨53, ps_style_Check, rs_style_Check, style_Check N⟩, ⟨54, ps_stl_colorByte, rs_stl_colorByte, stl_colorByte N⟩, ⟨55, ps_stl_on, rs_stl_on, stl_on N⟩, ⟨56, ps_latin_Encode, rs_latin_Encode, latin_Encode N⟩] N Tryz.f20 a_stl_Text ps_stl_Text rs_stl_Text = stl_Text N := by kernel_rfl
def a_slices_Equal_Lbyte_byte : Ann := (.sq .lf (.sq .lf (.jn ⟨[], [], [], []⟩ (.sq .lf (.lp ⟨[0, 1, 12], [], [.s 13], [.v (.int .i64) []]⟩ .lf)) .lf)))
theorem x_slices_Equal_Lbyte_byte (N : Nat) : execF E [] N Tryz.f24 a_slices_Equal_Lbyte_byte ps_slices_Equal_Lbyte_byte rs_slices_Equal_Lbyte_byte = slices_Equal_Lbyte_byte N := by kernel_rfl
def a_lines_Name : Ann := (.sq .lf (.sq .lf (.jn ⟨[], [], [], []⟩ (.sq .lf (.lp ⟨[0, 24], [], [.s 25], [.v (.int .i64) []]⟩ (.sq .lf (.sq .lf (.jn ⟨[0, 24, 25], [], [], []⟩ .lf .lf))))) .lf)))
theorem x_lines_Name (N : Nat) : execF E [] N Tryz.f98 a_lines_Name ps_lines_Name rs_lines_Name = lines_Name N := by kernel_rfl
def a_timebase_of : Ann := .lf
theorem x_timebase_of (N : Nat) : execF E [] N Tryz.f148 a_timebase_of ps_timebase_of rs_timebase_of = timebase_of N := by kernel_rfl
def a_timebase_Valid : Ann := .lf
theorem x_timebase_Valid (N : Nat) : execF E [⟨148, ps_timebase_of, rs_timebase_of, timebase_of N⟩] N Tryz.f146 a_timebase_Valid ps_timebase_Valid rs_timebase_Valid = timebase_Valid N := by kernel_rfl
def a_timebase_CanDrop : Ann := .lf
theorem x_timebase_CanDrop (N : Nat) : execF E [⟨148, ps_timebase_of, rs_timebase_of, timebase_of N⟩] N Tryz.f147 a_timebase_CanDrop ps_timebase_CanDrop rs_timebase_CanDrop = timebase_CanDrop N := by kernel_rfl
def a_document_rate : Ann := .lf
theorem x_document_rate (N : Nat) : execF E [⟨146, ps_timebase_Valid, rs_timebase_Valid, timebase_Valid N⟩, ⟨147, ps_timebase_CanDrop, rs_timebase_CanDrop, timebase_CanDrop N⟩] N Tryz.f99 a_document_rate ps_document_rate rs_document_rate = document_rate N := by kernel_rfl
def a_document_header : Ann := (.sq .lf (.jn ⟨[1], [2], [], []⟩ .lf .lf))
theorem x_document_header (N : Nat) : execF E [⟨97, ps_charset_Valid, rs_charset_Valid, charset_Valid N⟩, ⟨98, ps_lines_Name, rs_lines_Name, lines_Name N⟩, ⟨99, ps_document_rate, rs_document_rate, document_rate N⟩] N Tryz.f47 a_document_header ps_document_header rs_document_header = document_header N := by kernel_rfl
def a_region_from : Ann := .lf
theorem x_region_from (N : Nat) : execF E [] N Tryz.f162 a_region_from ps_region_from rs_region_from = region_from N := by kernel_rfl
def a_region_Check : Ann := .lf
theorem x_region_Check (N : Nat) : execF E [⟨98, ps_lines_Name, rs_lines_Name, lines_Name N⟩, ⟨162, ps_region_from, rs_region_from, region_from N⟩] N Tryz.f100 a_region_Check ps_region_Check rs_region_Check = region_Check N := by kernel_rfl
def a_region_CheckList : Ann := (.sq .lf (.sq .lf (.jn ⟨[], [], [], []⟩ (.sq .lf (.lp ⟨[0, 9, 10], [], [.s 11], [.v (.int .i64) []]⟩ (.sq .lf (.sq .lf (.sq (.sq .lf (.sq .lf (.jn ⟨[0, 3, 4, 9, 10, 11], [14], [], []⟩ .lf .lf))) .lf))))) .lf)))
theorem x_region_CheckList (N : Nat) : execF E [⟨100, ps_region_Check, rs_region_Check, region_Check N⟩] N Tryz.f48 a_region_CheckList ps_region_CheckList rs_region_CheckList = region_CheckList N := by kernel_rfl
def a_region_Default : Ann := .lf
theorem x_region_Default (N : Nat) : execF E [] N Tryz.f149 a_region_Default ps_region_Default rs_region_Default = region_Default N := by kernel_rfl
def a_region_Find : Ann := (.sq .lf (.sq .lf (.jn ⟨[4], [2], [], []⟩ (.sq .lf (.lp ⟨[1, 4, 11, 12], [2], [.s 13], [.v (.int .i64) []]⟩ .lf)) .lf)))
theorem x_region_Find (N : Nat) : execF E [⟨149, ps_region_Default, rs_region_Default, region_Default N⟩] N Tryz.f81 a_region_Find ps_region_Find rs_region_Find = region_Find N := by kernel_rfl
def a_event_spans : Ann := .lf
theorem x_event_spans (N : Nat) : execF E [] N Tryz.f101 a_event_spans ps_event_spans rs_event_spans = event_spans N := by kernel_rfl
def a_event_kinds : Ann := .lf
theorem x_event_kinds (N : Nat) : execF E [] N Tryz.f163 a_event_kinds ps_event_kinds rs_event_kinds = event_kinds N := by kernel_rfl
def a_event_KindName : Ann := .lf
theorem x_event_KindName (N : Nat) : execF E [⟨163, ps_event_kinds, rs_event_kinds, event_kinds N⟩] N Tryz.f102 a_event_KindName ps_event_KindName rs_event_KindName = event_KindName N := by kernel_rfl

def a_strings_Builder_WriteString : Ann := .lf
theorem x_strings_Builder_WriteString (N : Nat) : execF E [⟨239, ps_strings_Builder_copyCheck, rs_strings_Builder_copyCheck, strings_Builder_copyCheck N⟩] N Tryz.f216 a_strings_Builder_WriteString ps_strings_Builder_WriteString rs_strings_Builder_WriteString = strings_Builder_WriteString N := by kernel_rfl
def a_style_Plain : Ann := (.sq .lf (.sq .lf (.jn ⟨[3], [], [.o 5], [.b 230 (.st (.pair (.nptr) (.slice (.u8)))) [1]]⟩ (.sq .lf (.lp ⟨[3, 7, 8], [], [.s 9, .o 5], [.v (.int .i64) [], .b 230 (.st (.pair (.nptr) (.slice (.u8)))) [1]]⟩ .lf)) .lf)))
theorem x_style_Plain (N : Nat) : execF E [⟨216, ps_strings_Builder_WriteString, rs_strings_Builder_WriteString, strings_Builder_WriteString N⟩] N Tryz.f164 a_style_Plain ps_style_Plain rs_style_Plain = style_Plain N := by kernel_rfl
def a_bytealg_hashStr_string : Ann := (.sq .lf (.sq .lf (.jn ⟨[0], [], [.s 4], [.v (.int .u32) []]⟩ (.sq .lf (.lp ⟨[0], [], [.s 4, .s 5], [.v (.int .u32) [], .v (.int .i64) []]⟩ .lf)) (.sq .lf (.jn ⟨[4], [], [.s 6], [.v (.int .u32) []]⟩ (.sq .lf (.lp ⟨[4], [], [.s 6, .s 7, .s 8], [.v (.int .u32) [], .v (.int .u32) [], .v (.int .i64) []]⟩ .lf)) .lf)))))
theorem x_bytealg_hashStr_string (N : Nat) : execF E [] N Tryz.f271 a_bytealg_hashStr_string ps_bytealg_hashStr_string rs_bytealg_hashStr_string = bytealg_hashStr_string N := by kernel_rfl
def a_bytealg_IndexRabinKarp_string : Ann := (.sq .lf (.sq .lf (.sq .lf (.sq .lf (.jn ⟨[0, 1, 5, 6, 7], [], [.s 8], [.v (.int .u32) []]⟩ (.sq .lf (.lp ⟨[0, 1, 5, 6, 7], [], [.s 8, .s 9], [.v (.int .u32) [], .v (.int .i64) []]⟩ .lf)) (.jn ⟨[0, 1, 5, 6, 7, 8], [], [], []⟩ .lf (.jn ⟨[], [], [], []⟩ (.sq .lf (.lp ⟨[0, 1, 5, 6, 7], [], [.s 8, .s 10], [.v (.int .u32) [], .v (.int .i64) []]⟩ .lf)) .lf)))))))
theorem x_bytealg_IndexRabinKarp_string (N : Nat) : execF E [⟨271, ps_bytealg_hashStr_string, rs_bytealg_hashStr_string, bytealg_hashStr_string N⟩] N Tryz.f262 a_bytealg_IndexRabinKarp_string ps_bytealg_IndexRabinKarp_string rs_bytealg_IndexRabinKarp_string = bytealg_IndexRabinKarp_string N := by kernel_rfl
def a_stringslite_Index : Ann := .lf
theorem x_stringslite_Index (N : Nat) : execF E [⟨261, ps_stringslite_IndexByte, rs_stringslite_IndexByte, stringslite_IndexByte N⟩, ⟨244, ps_bytealg_Cutover, rs_bytealg_Cutover, bytealg_Cutover N⟩, ⟨262, ps_bytealg_IndexRabinKarp_string, rs_bytealg_IndexRabinKarp_string, bytealg_IndexRabinKarp_string N⟩] N Tryz.f240 a_stringslite_Index ps_stringslite_Index rs_stringslite_Index = stringslite_Index N := by kernel_rfl
def a_strings_Index : Ann := .lf
theorem x_strings_Index (N : Nat) : execF E [⟨240, ps_stringslite_Index, rs_stringslite_Index, stringslite_Index N⟩] N Tryz.f218 a_strings_Index ps_strings_Index rs_strings_Index = strings_Index N := by kernel_rfl

def a_utf8_RuneCountInString : Ann := (.sq .lf (.jn ⟨[], [], [.s 2], [.v (.int .i64) []]⟩ (.sq .lf (.lp ⟨[4], [], [.s 2, .o 4], [.v (.int .i64) [], .i]⟩ .lf)) .lf))
theorem x_utf8_RuneCountInString (N : Nat) : execF E [] N Tryz.f241 a_utf8_RuneCountInString ps_utf8_RuneCountInString rs_utf8_RuneCountInString = utf8_RuneCountInString N := by kernel_rfl
def a_charset_Len : Ann := .lf
theorem x_charset_Len (N : Nat) : execF E [⟨97, ps_charset_Valid, rs_charset_Valid, charset_Valid N⟩, ⟨241, ps_utf8_RuneCountInString, rs_utf8_RuneCountInString, utf8_RuneCountInString N⟩] N Tryz.f219 a_charset_Len ps_charset_Len rs_charset_Len = charset_Len N := by kernel_rfl
def a_style_Len : Ann := (.sq .lf (.sq .lf (.jn ⟨[], [], [.s 3], [.v (.int .i64) []]⟩ (.sq .lf (.lp ⟨[8, 9], [], [.s 3, .s 10], [.v (.int .i64) [], .v (.int .i64) []]⟩ .lf)) .lf)))
theorem x_style_Len (N : Nat) : execF E [⟨219, ps_charset_Len, rs_charset_Len, charset_Len N⟩] N Tryz.f166 a_style_Len ps_style_Len rs_style_Len = style_Len N := by kernel_rfl
def a_event_row : Ann := .lf
theorem x_event_row (N : Nat) : execF E [⟨53, ps_style_Check, rs_style_Check, style_Check N⟩, ⟨164, ps_style_Plain, rs_style_Plain, style_Plain N⟩, ⟨165, ps_strings_Contains, rs_strings_Contains, strings_Contains N⟩, ⟨166, ps_style_Len, rs_style_Len, style_Len N⟩] N Tryz.f103 a_event_row ps_event_row rs_event_row = event_row N := by kernel_rfl
def a_event_lens : Ann := (.sq .lf (.sq .lf (.jn ⟨[], [], [.s 3], [.v (.slice (.int .i64)) [0]]⟩ (.sq .lf (.lp ⟨[7, 8], [], [.s 3, .s 9], [.v (.slice (.int .i64)) [0], .v (.int .i64) []]⟩ .lf)) .lf)))
theorem x_event_lens (N : Nat) : execF E [⟨166, ps_style_Len, rs_style_Len, style_Len N⟩] N Tryz.f105 a_event_lens ps_event_lens rs_event_lens = event_lens N := by kernel_rfl
def a_region_usable : Ann := .lf
theorem x_region_usable (N : Nat) : execF E [⟨149, ps_region_Default, rs_region_Default, region_Default N⟩, ⟨100, ps_region_Check, rs_region_Check, region_Check N⟩] N Tryz.f167 a_region_usable ps_region_usable rs_region_usable = region_usable N := by kernel_rfl
def a_region_Place : Ann := (.sq .lf (.sq .lf (.sq .lf (.jn ⟨[1, 2], [2], [.s 6], [.v (.int .i64) []]⟩ .lf (.sq .lf (.jn ⟨[], [], [.s 7], [.v (.slice (.st (.pair (.int .i64) (.pair (.int .i64) (.int .i64))))) [0]]⟩ (.sq .lf (.lp ⟨[2, 6, 32, 33], [2], [.s 7, .s 34], [.v (.slice (.st (.pair (.int .i64) (.pair (.int .i64) (.int .i64))))) [0], .v (.int .i64) []]⟩ .lf)) .lf))))))
theorem x_region_Place (N : Nat) : execF E [⟨167, ps_region_usable, rs_region_usable, region_usable N⟩] N Tryz.f104 a_region_Place ps_region_Place rs_region_Place = region_Place N := by kernel_rfl
def a_event_Check : Ann := (.sq .lf (.sq .lf (.sq (.sq .lf (.sq .lf (.sq .lf (.sq .lf (.sq .lf (.sq .lf (.jn ⟨[2, 5], [12, 2], [.s 42], [.v (.bool) []]⟩ .lf .lf))))))) (.jn ⟨[2, 5], [12, 2], [], []⟩ (.sq .lf (.lp ⟨[2, 5, 64, 65], [12, 2], [.s 66], [.v (.int .i64) []]⟩ .lf)) .lf))))
theorem x_event_Check (N : Nat) : execF E [⟨81, ps_region_Find, rs_region_Find, region_Find N⟩, ⟨101, ps_event_spans, rs_event_spans, event_spans N⟩, ⟨102, ps_event_KindName, rs_event_KindName, event_KindName N⟩, ⟨98, ps_lines_Name, rs_lines_Name, lines_Name N⟩, ⟨103, ps_event_row, rs_event_row, event_row N⟩, ⟨105, ps_event_lens, rs_event_lens, event_lens N⟩, ⟨104, ps_region_Place, rs_region_Place, region_Place N⟩] N Tryz.f49 a_event_Check ps_event_Check rs_event_Check = event_Check N := by kernel_rfl
def a_cmp_isNaN_int64 : Ann := .lf
theorem x_cmp_isNaN_int64 (N : Nat) : execF E [] N Tryz.f168 a_cmp_isNaN_int64 ps_cmp_isNaN_int64 rs_cmp_isNaN_int64 = cmp_isNaN_int64 N := by kernel_rfl
def a_cmp_Compare_int64 : Ann := .lf
theorem x_cmp_Compare_int64 (N : Nat) : execF E [⟨168, ps_cmp_isNaN_int64, rs_cmp_isNaN_int64, cmp_isNaN_int64 N⟩] N Tryz.f107 a_cmp_Compare_int64 ps_cmp_Compare_int64 rs_cmp_Compare_int64 = cmp_Compare_int64 N := by kernel_rfl
def a_cmp_Or_int : Ann := (.sq .lf (.sq .lf (.jn ⟨[3], [], [], []⟩ (.sq .lf (.lp ⟨[3, 6, 7], [], [.s 8], [.v (.int .i64) []]⟩ .lf)) .lf)))
theorem x_cmp_Or_int (N : Nat) : execF E [] N Tryz.f106 a_cmp_Or_int ps_cmp_Or_int rs_cmp_Or_int = cmp_Or_int N := by kernel_rfl
def a_event_Less : Ann := .lf
theorem x_event_Less (N : Nat) : execF E [⟨107, ps_cmp_Compare_int64, rs_cmp_Compare_int64, cmp_Compare_int64 N⟩, ⟨106, ps_cmp_Or_int, rs_cmp_Or_int, cmp_Or_int N⟩] N Tryz.f50 a_event_Less ps_event_Less rs_event_Less = event_Less N := by kernel_rfl
def a_event_Len : Ann := (.sq .lf (.sq .lf (.jn ⟨[], [], [.s 3], [.v (.int .i64) []]⟩ (.sq .lf (.lp ⟨[12, 13], [12], [.s 3, .s 14], [.v (.int .i64) [], .v (.int .i64) []]⟩ .lf)) .lf)))
theorem x_event_Len (N : Nat) : execF E [⟨105, ps_event_lens, rs_event_lens, event_lens N⟩] N Tryz.f169 a_event_Len ps_event_Len rs_event_Len = event_Len N := by kernel_rfl
def a_document_anchored : Ann := .lf
theorem x_document_anchored (N : Nat) : execF E [⟨169, ps_event_Len, rs_event_Len, event_Len N⟩] N Tryz.f108 a_document_anchored ps_document_anchored rs_document_anchored = document_anchored N := by kernel_rfl
def a_document_comments : Ann := (.sq .lf (.sq .lf (.jn ⟨[], [], [.o 1], [.m (.int .i64) (.int .i64)]⟩ (.sq .lf (.lp ⟨[1, 2, 15, 16], [3], [.s 17, .o 1], [.v (.int .i64) [], .m (.int .i64) (.int .i64)]⟩ (.sq .lf (.sq .lf (.sq (.sq .lf (.sq .lf (.jn ⟨[1, 2, 6, 15, 16, 17], [1, 19, 3], [], []⟩ .lf .lf))) .lf))))) .lf)))
theorem x_document_comments (N : Nat) : execF E [⟨108, ps_document_anchored, rs_document_anchored, document_anchored N⟩, ⟨98, ps_lines_Name, rs_lines_Name, lines_Name N⟩, ⟨97, ps_charset_Valid, rs_charset_Valid, charset_Valid N⟩] N Tryz.f51 a_document_comments ps_document_comments rs_document_comments = document_comments N := by kernel_rfl
def a_document_Check : Ann := (.sq .lf (.sq .lf (.sq .lf (.sq .lf (.sq .lf (.jn ⟨[1, 5], [2], [.o 20], [.m (.int .i64) (.int .i64)]⟩ (.sq .lf (.lp ⟨[1, 5, 28, 29], [2], [.s 30, .o 20], [.v (.int .i64) [], .m (.int .i64) (.int .i64)]⟩ .lf)) .lf))))))
theorem x_document_Check (N : Nat) : execF E [⟨47, ps_document_header, rs_document_header, document_header N⟩, ⟨48, ps_region_CheckList, rs_region_CheckList, region_CheckList N⟩, ⟨49, ps_event_Check, rs_event_Check, event_Check N⟩, ⟨50, ps_event_Less, rs_event_Less, event_Less N⟩, ⟨51, ps_document_comments, rs_document_comments, document_comments N⟩] N Tryz.f18 a_document_Check ps_document_Check rs_document_Check = document_Check N := by kernel_rfl
def a_event_Spots : Ann := (.sq .lf (.sq .lf (.sq .lf (.sq .lf (.jn ⟨[6, 8], [20, 13], [], []⟩ (.sq .lf (.lp ⟨[6, 8, 22, 23], [20, 13], [.s 24], [.v (.int .i64) []]⟩ .lf)) .lf)))))
theorem x_event_Spots (N : Nat) : execF E [⟨81, ps_region_Find, rs_region_Find, region_Find N⟩, ⟨105, ps_event_lens, rs_event_lens, event_lens N⟩, ⟨104, ps_region_Place, rs_region_Place, region_Place N⟩] N Tryz.f80 a_event_Spots ps_event_Spots rs_event_Spots = event_Spots N := by kernel_rfl
def a_stl_placed : Ann := .lf
theorem x_stl_placed (N : Nat) : execF E [⟨80, ps_event_Spots, rs_event_Spots, event_Spots N⟩, ⟨81, ps_region_Find, rs_region_Find, region_Find N⟩] N Tryz.f33 a_stl_placed ps_stl_placed rs_stl_placed = stl_placed N := by kernel_rfl
def a_istrconv_small : Ann := .lf
theorem x_istrconv_small (N : Nat) : execF E [] N Tryz.f235 a_istrconv_small ps_istrconv_small rs_istrconv_small = istrconv_small N := by kernel_rfl
def a_bits_Len64 : Ann := (.sq .lf (.jn ⟨[], [], [.s 0, .s 2], [.v (.int .u64) [], .v (.int .i64) []]⟩ .lf (.jn ⟨[], [], [.s 0, .s 2], [.v (.int .u64) [], .v (.int .i64) []]⟩ .lf .lf)))
theorem x_bits_Len64 (N : Nat) : execF E [] N Tryz.f256 a_bits_Len64 ps_bits_Len64 rs_bits_Len64 = bits_Len64 N := by kernel_rfl
def a_istrconv_log10Pow2 : Ann := .lf
theorem x_istrconv_log10Pow2 (N : Nat) : execF E [] N Tryz.f255 a_istrconv_log10Pow2 ps_istrconv_log10Pow2 rs_istrconv_log10Pow2 = istrconv_log10Pow2 N := by kernel_rfl
def a_istrconv_bool2_int : Ann := .lf
theorem x_istrconv_bool2_int (N : Nat) : execF E [] N Tryz.f257 a_istrconv_bool2_int ps_istrconv_bool2_int rs_istrconv_bool2_int = istrconv_bool2_int N := by kernel_rfl
def a_istrconv_isPowerOfTwo : Ann := .lf
theorem x_istrconv_isPowerOfTwo (N : Nat) : execF E [] N Tryz.f258 a_istrconv_isPowerOfTwo ps_istrconv_isPowerOfTwo rs_istrconv_isPowerOfTwo = istrconv_isPowerOfTwo N := by kernel_rfl
def a_bits_TrailingZeros32 : Ann := .lf
theorem x_bits_TrailingZeros32 (N : Nat) : execF E [] N Tryz.f268 a_bits_TrailingZeros32 ps_bits_TrailingZeros32 rs_bits_TrailingZeros32 = bits_TrailingZeros32 N := by kernel_rfl
def a_bits_TrailingZeros64 : Ann := .lf
theorem x_bits_TrailingZeros64 (N : Nat) : execF E [] N Tryz.f269 a_bits_TrailingZeros64 ps_bits_TrailingZeros64 rs_bits_TrailingZeros64 = bits_TrailingZeros64 N := by kernel_rfl
def a_bits_TrailingZeros : Ann := .lf
theorem x_bits_TrailingZeros (N : Nat) : execF E [⟨268, ps_bits_TrailingZeros32, rs_bits_TrailingZeros32, bits_TrailingZeros32 N⟩, ⟨269, ps_bits_TrailingZeros64, rs_bits_TrailingZeros64, bits_TrailingZeros64 N⟩] N Tryz.f259 a_bits_TrailingZeros ps_bits_TrailingZeros rs_bits_TrailingZeros = bits_TrailingZeros N := by kernel_rfl
def a_istrconv_FormatInt : Ann := .lf
theorem x_istrconv_FormatInt (N : Nat) : execF E [⟨235, ps_istrconv_small, rs_istrconv_small, istrconv_small N⟩] N Tryz.f210 a_istrconv_FormatInt ps_istrconv_FormatInt rs_istrconv_FormatInt = istrconv_FormatInt N := by kernel_rfl
def a_strconv_FormatInt : Ann := .lf
theorem x_strconv_FormatInt (N : Nat) : execF E [⟨210, ps_istrconv_FormatInt, rs_istrconv_FormatInt, istrconv_FormatInt N⟩] N Tryz.f150 a_strconv_FormatInt ps_strconv_FormatInt rs_strconv_FormatInt = strconv_FormatInt N := by kernel_rfl
def a_lines_Decimal : Ann := .lf
theorem x_lines_Decimal (N : Nat) : execF E [⟨150, ps_strconv_FormatInt, rs_strconv_FormatInt, strconv_FormatInt N⟩] N Tryz.f82 a_lines_Decimal ps_lines_Decimal rs_lines_Decimal = lines_Decimal N := by kernel_rfl
end
end Go.Mo
end
