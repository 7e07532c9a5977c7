/- The executor's words for what is known whole. -/
import Derived.Test.YtnmmomopnaglbaaGreatDoorSX3
import Derived.Test.YtnmmomopnaglbaaGreatDoorProg
import Derived.KernelRfl
namespace Go.Proofs.YtnmmomopnaglbaaGreatDoor.EB
open Go Go.SX Go.Proofs.YtnmmomopnaglbaaGreatDoor
set_option maxRecDepth 100000
def okl : List FuncId := [2, 3, 4, 5, 6, 7, 8, 9, 10, 11, 12, 13, 14, 15, 16, 17, 18, 19, 20, 21, 22, 23, 24, 25, 26, 27, 28, 29, 30, 31, 32, 33, 34, 35, 36, 37, 38, 39, 40, 41, 42, 43, 44, 45, 46, 47, 48, 49, 50, 51, 52, 53, 54, 55, 56, 57, 58, 59, 60, 61, 62, 63, 64, 65, 66, 67, 68, 69, 70, 71, 72, 73, 74, 75, 76, 77, 78, 79, 80, 81, 82, 83, 84, 85, 86, 87, 88, 89, 90, 91, 92, 93, 94, 95, 96, 97, 98, 99, 100, 101, 102, 103, 104, 105, 106, 107, 108, 109, 110, 111, 112, 113, 114, 115, 116, 117, 118, 119, 120, 121, 122, 123, 124, 125, 126, 127, 128, 129, 130, 131, 132, 133, 134, 135, 136, 137, 138, 139, 140, 141, 142, 143, 144, 145, 146, 147, 148, 149, 150, 151, 152, 153, 154, 155, 156, 157, 158, 159, 160, 161, 162, 163, 164, 165, 166, 167, 168, 169, 170, 171, 172, 173, 174, 175, 176, 177, 178, 179, 180, 181, 182, 183, 184, 185, 186, 187, 188, 189, 190, 191, 192, 193, 194, 195, 196, 197, 200, 201, 202, 204, 205, 206, 207, 208, 209, 210, 211, 212, 213, 214, 215, 216, 217, 218, 219, 220, 221, 222, 223, 224, 225, 226, 227, 228, 229, 230, 231, 233, 234, 235, 236, 237, 238, 239, 240, 241, 242, 243, 244, 245, 246, 247, 248, 249, 250, 251, 252, 276, 277, 278, 279, 280, 281]
def wr (f : FuncId) : List Nat := if [50, 87, 88, 119, 120, 122, 16, 28, 33, 36, 34, 62, 63, 86, 89, 113, 114, 150, 157, 158, 61].contains f = true then [0] else []
def cfg (l : List (FuncId × Pat)) : Cfg := { ok := okl, sums := sumsOf l, loops := [], tbl := 2, wr := wr }
def bodyOf (fn : Func) : Code := fn.body.getD .skip
def opsOf (c : Option Code) : Array Oper := match c with
  | some (.region _ ops _) => ops
  | _ => #[]
def loopOf (c : Option Code) : Code := match c with
  | some (.block _ (.loop b)) => b
  | _ => .skip
def blkOf (c : Option Code) : Code := match c with
  | some (.block _ b) => b
  | _ => .skip
def asgOf (c : Option Code) : Code := match c with
  | some (.block _ (.rangeFunc _ _ a _)) => a
  | _ => .skip
def opOf (ops : Array Oper) (i : Nat) : Oper := (ops[i]?).getD default
def rndOf (c : Option Code) : Code := match c with
  | some (.block _ (.rangeFunc _ _ _ b)) => b
  | _ => .skip
end Go.Proofs.YtnmmomopnaglbaaGreatDoor.EB
