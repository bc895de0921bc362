/- The program's trees as plain data; how they lie in cells. Made by program (mktree.py). -/
import Derived.Test.YtlanljjbcpepjaaAbWp
namespace Go.Ab
open Go

/-- A slice of strings. -/
abbrev lstS (l : List (List UInt8)) : AV := .lst (l.map fun s => [.str s])
def str (s : String) : List UInt8 := s.toUTF8.data.toList

inductive Ex where
  | mk (kind : Int) (n : Int) (name : List UInt8) (op : Int) (kids : List Ex)
def Ex.kind : Ex → Int | .mk x _ _ _ _ => x
def Ex.n : Ex → Int | .mk _ x _ _ _ => x
def Ex.name : Ex → List UInt8 | .mk _ _ x _ _ => x
def Ex.op : Ex → Int | .mk _ _ _ x _ => x
def Ex.kids : Ex → List Ex | .mk _ _ _ _ x => x
mutual
def Ex.cells : Ex → List AV
  | .mk a0 a1 a2 a3 a4 => [.int .i64 a0, .int .i64 a1, .str a2, .int .i64 a3, .lst (ExRows a4)]
def ExRows : List Ex → List (List AV)
  | [] => []
  | x :: xs => Ex.cells x :: ExRows xs
end
theorem ExRows_eq : ∀ l : List Ex, ExRows l = l.map Ex.cells
  | [] => rfl
  | x :: xs => by rw [ExRows, ExRows_eq xs]; rfl
theorem Ex.cells_eq (x : Ex) : x.cells = [.int .i64 x.kind, .int .i64 x.n, .str x.name, .int .i64 x.op, .lst (x.kids.map Ex.cells)] := by
  cases x
  simp only [Ex.cells, ExRows_eq, Ex.kind, Ex.n, Ex.name, Ex.op, Ex.kids]
theorem Ex.clen (x : Ex) : x.cells.length = 5 := by rw [Ex.cells_eq]; rfl
theorem Ex.c0 (x : Ex) : x.cells[0]? = some (.int .i64 x.kind) := by rw [Ex.cells_eq]; rfl
theorem Ex.c1 (x : Ex) : x.cells[1]? = some (.int .i64 x.n) := by rw [Ex.cells_eq]; rfl
theorem Ex.c2 (x : Ex) : x.cells[2]? = some (.str x.name) := by rw [Ex.cells_eq]; rfl
theorem Ex.c3 (x : Ex) : x.cells[3]? = some (.int .i64 x.op) := by rw [Ex.cells_eq]; rfl
theorem Ex.c4 (x : Ex) : x.cells[4]? = some (.lst (x.kids.map Ex.cells)) := by rw [Ex.cells_eq]; rfl
theorem Ex.whole (x : Ex) : aggA 5 x.cells = some (.agg x.cells) := by unfold aggA; rw [Ex.cells_eq]; rfl
theorem Ex.one (x : Ex) : x.cells.all AV.one = true := by rw [Ex.cells_eq]; rfl
inductive St where
  | mk (kind : Int) (name : List UInt8) (to : List UInt8) (n : Int) (at_ : Ex) (value : Ex) (args : List Ex) (thn : List St) (els : List St)
def St.kind : St → Int | .mk x _ _ _ _ _ _ _ _ => x
def St.name : St → List UInt8 | .mk _ x _ _ _ _ _ _ _ => x
def St.to : St → List UInt8 | .mk _ _ x _ _ _ _ _ _ => x
def St.n : St → Int | .mk _ _ _ x _ _ _ _ _ => x
def St.at_ : St → Ex | .mk _ _ _ _ x _ _ _ _ => x
def St.value : St → Ex | .mk _ _ _ _ _ x _ _ _ => x
def St.args : St → List Ex | .mk _ _ _ _ _ _ x _ _ => x
def St.thn : St → List St | .mk _ _ _ _ _ _ _ x _ => x
def St.els : St → List St | .mk _ _ _ _ _ _ _ _ x => x
mutual
def St.cells : St → List AV
  | .mk a0 a1 a2 a3 a4 a5 a6 a7 a8 => [.int .i64 a0, .str a1, .str a2, .int .i64 a3, .int .i64 a4.kind, .int .i64 a4.n, .str a4.name, .int .i64 a4.op, .lst (a4.kids.map Ex.cells), .int .i64 a5.kind, .int .i64 a5.n, .str a5.name, .int .i64 a5.op, .lst (a5.kids.map Ex.cells), .lst (a6.map Ex.cells), .lst (StRows a7), .lst (StRows a8)]
def StRows : List St → List (List AV)
  | [] => []
  | x :: xs => St.cells x :: StRows xs
end
theorem StRows_eq : ∀ l : List St, StRows l = l.map St.cells
  | [] => rfl
  | x :: xs => by rw [StRows, StRows_eq xs]; rfl
theorem St.cells_eq (x : St) : x.cells = [.int .i64 x.kind, .str x.name, .str x.to, .int .i64 x.n, .int .i64 x.at_.kind, .int .i64 x.at_.n, .str x.at_.name, .int .i64 x.at_.op, .lst (x.at_.kids.map Ex.cells), .int .i64 x.value.kind, .int .i64 x.value.n, .str x.value.name, .int .i64 x.value.op, .lst (x.value.kids.map Ex.cells), .lst (x.args.map Ex.cells), .lst (x.thn.map St.cells), .lst (x.els.map St.cells)] := by
  cases x
  simp only [St.cells, StRows_eq, St.kind, St.name, St.to, St.n, St.at_, St.value, St.args, St.thn, St.els]
theorem St.clen (x : St) : x.cells.length = 17 := by rw [St.cells_eq]; rfl
theorem St.c0 (x : St) : x.cells[0]? = some (.int .i64 x.kind) := by rw [St.cells_eq]; rfl
theorem St.c1 (x : St) : x.cells[1]? = some (.str x.name) := by rw [St.cells_eq]; rfl
theorem St.c2 (x : St) : x.cells[2]? = some (.str x.to) := by rw [St.cells_eq]; rfl
theorem St.c3 (x : St) : x.cells[3]? = some (.int .i64 x.n) := by rw [St.cells_eq]; rfl
theorem St.c4 (x : St) : x.cells[4]? = some (.int .i64 x.at_.kind) := by rw [St.cells_eq]; rfl
theorem St.c5 (x : St) : x.cells[5]? = some (.int .i64 x.at_.n) := by rw [St.cells_eq]; rfl
theorem St.c6 (x : St) : x.cells[6]? = some (.str x.at_.name) := by rw [St.cells_eq]; rfl
theorem St.c7 (x : St) : x.cells[7]? = some (.int .i64 x.at_.op) := by rw [St.cells_eq]; rfl
theorem St.c8 (x : St) : x.cells[8]? = some (.lst (x.at_.kids.map Ex.cells)) := by rw [St.cells_eq]; rfl
theorem St.c9 (x : St) : x.cells[9]? = some (.int .i64 x.value.kind) := by rw [St.cells_eq]; rfl
theorem St.c10 (x : St) : x.cells[10]? = some (.int .i64 x.value.n) := by rw [St.cells_eq]; rfl
theorem St.c11 (x : St) : x.cells[11]? = some (.str x.value.name) := by rw [St.cells_eq]; rfl
theorem St.c12 (x : St) : x.cells[12]? = some (.int .i64 x.value.op) := by rw [St.cells_eq]; rfl
theorem St.c13 (x : St) : x.cells[13]? = some (.lst (x.value.kids.map Ex.cells)) := by rw [St.cells_eq]; rfl
theorem St.c14 (x : St) : x.cells[14]? = some (.lst (x.args.map Ex.cells)) := by rw [St.cells_eq]; rfl
theorem St.c15 (x : St) : x.cells[15]? = some (.lst (x.thn.map St.cells)) := by rw [St.cells_eq]; rfl
theorem St.c16 (x : St) : x.cells[16]? = some (.lst (x.els.map St.cells)) := by rw [St.cells_eq]; rfl
theorem St.whole (x : St) : aggA 17 x.cells = some (.agg x.cells) := by unfold aggA; rw [St.cells_eq]; rfl
theorem St.one (x : St) : x.cells.all AV.one = true := by rw [St.cells_eq]; rfl
theorem St.part_at_ (x : St) : aggA 5 (x.cells.drop 4) = some (.agg x.at_.cells) := by unfold aggA; rw [St.cells_eq, Ex.cells_eq]; rfl
theorem St.part_value (x : St) : aggA 5 (x.cells.drop 9) = some (.agg x.value.cells) := by unfold aggA; rw [St.cells_eq, Ex.cells_eq]; rfl
structure Fu where
  name : List UInt8
  params : List (List UInt8)
  locals : List (List UInt8)
  body : List St
  value : Ex
def Fu.cells (x : Fu) : List AV := [.str x.name, lstS x.params, lstS x.locals, .lst (x.body.map St.cells), .int .i64 x.value.kind, .int .i64 x.value.n, .str x.value.name, .int .i64 x.value.op, .lst (x.value.kids.map Ex.cells)]
theorem Fu.cells_eq (x : Fu) : x.cells = [.str x.name, lstS x.params, lstS x.locals, .lst (x.body.map St.cells), .int .i64 x.value.kind, .int .i64 x.value.n, .str x.value.name, .int .i64 x.value.op, .lst (x.value.kids.map Ex.cells)] := rfl
theorem Fu.clen (x : Fu) : x.cells.length = 9 := by rw [Fu.cells_eq]; rfl
theorem Fu.c0 (x : Fu) : x.cells[0]? = some (.str x.name) := by rw [Fu.cells_eq]; rfl
theorem Fu.c1 (x : Fu) : x.cells[1]? = some (lstS x.params) := by rw [Fu.cells_eq]; rfl
theorem Fu.c2 (x : Fu) : x.cells[2]? = some (lstS x.locals) := by rw [Fu.cells_eq]; rfl
theorem Fu.c3 (x : Fu) : x.cells[3]? = some (.lst (x.body.map St.cells)) := by rw [Fu.cells_eq]; rfl
theorem Fu.c4 (x : Fu) : x.cells[4]? = some (.int .i64 x.value.kind) := by rw [Fu.cells_eq]; rfl
theorem Fu.c5 (x : Fu) : x.cells[5]? = some (.int .i64 x.value.n) := by rw [Fu.cells_eq]; rfl
theorem Fu.c6 (x : Fu) : x.cells[6]? = some (.str x.value.name) := by rw [Fu.cells_eq]; rfl
theorem Fu.c7 (x : Fu) : x.cells[7]? = some (.int .i64 x.value.op) := by rw [Fu.cells_eq]; rfl
theorem Fu.c8 (x : Fu) : x.cells[8]? = some (.lst (x.value.kids.map Ex.cells)) := by rw [Fu.cells_eq]; rfl
theorem Fu.whole (x : Fu) : aggA 9 x.cells = some (.agg x.cells) := by unfold aggA; rw [Fu.cells_eq]; rfl
theorem Fu.one (x : Fu) : x.cells.all AV.one = true := by rw [Fu.cells_eq]; rfl
theorem Fu.part_value (x : Fu) : aggA 5 (x.cells.drop 4) = some (.agg x.value.cells) := by unfold aggA; rw [Fu.cells_eq, Ex.cells_eq]; rfl
structure Ar where
  name : List UInt8
  len : Int
def Ar.cells (x : Ar) : List AV := [.str x.name, .int .i64 x.len]
theorem Ar.cells_eq (x : Ar) : x.cells = [.str x.name, .int .i64 x.len] := rfl
theorem Ar.clen (x : Ar) : x.cells.length = 2 := by rw [Ar.cells_eq]; rfl
theorem Ar.c0 (x : Ar) : x.cells[0]? = some (.str x.name) := by rw [Ar.cells_eq]; rfl
theorem Ar.c1 (x : Ar) : x.cells[1]? = some (.int .i64 x.len) := by rw [Ar.cells_eq]; rfl
theorem Ar.whole (x : Ar) : aggA 2 x.cells = some (.agg x.cells) := by unfold aggA; rw [Ar.cells_eq]; rfl
theorem Ar.one (x : Ar) : x.cells.all AV.one = true := by rw [Ar.cells_eq]; rfl
structure Pr where
  arrays : List Ar
  funcs : List Fu
def Pr.cells (x : Pr) : List AV := [.lst (x.arrays.map Ar.cells), .lst (x.funcs.map Fu.cells)]
theorem Pr.cells_eq (x : Pr) : x.cells = [.lst (x.arrays.map Ar.cells), .lst (x.funcs.map Fu.cells)] := rfl
theorem Pr.clen (x : Pr) : x.cells.length = 2 := by rw [Pr.cells_eq]; rfl
theorem Pr.c0 (x : Pr) : x.cells[0]? = some (.lst (x.arrays.map Ar.cells)) := by rw [Pr.cells_eq]; rfl
theorem Pr.c1 (x : Pr) : x.cells[1]? = some (.lst (x.funcs.map Fu.cells)) := by rw [Pr.cells_eq]; rfl
theorem Pr.whole (x : Pr) : aggA 2 x.cells = some (.agg x.cells) := by unfold aggA; rw [Pr.cells_eq]; rfl
theorem Pr.one (x : Pr) : x.cells.all AV.one = true := by rw [Pr.cells_eq]; rfl
structure Tk where
  kind : Int
  text : List UInt8
  at_ : Int
def Tk.cells (x : Tk) : List AV := [.int .i64 x.kind, .str x.text, .int .i64 x.at_]
theorem Tk.cells_eq (x : Tk) : x.cells = [.int .i64 x.kind, .str x.text, .int .i64 x.at_] := rfl
theorem Tk.clen (x : Tk) : x.cells.length = 3 := by rw [Tk.cells_eq]; rfl
theorem Tk.c0 (x : Tk) : x.cells[0]? = some (.int .i64 x.kind) := by rw [Tk.cells_eq]; rfl
theorem Tk.c1 (x : Tk) : x.cells[1]? = some (.str x.text) := by rw [Tk.cells_eq]; rfl
theorem Tk.c2 (x : Tk) : x.cells[2]? = some (.int .i64 x.at_) := by rw [Tk.cells_eq]; rfl
theorem Tk.whole (x : Tk) : aggA 3 x.cells = some (.agg x.cells) := by unfold aggA; rw [Tk.cells_eq]; rfl
theorem Tk.one (x : Tk) : x.cells.all AV.one = true := by rw [Tk.cells_eq]; rfl
end Go.Ab
