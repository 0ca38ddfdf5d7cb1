/- Towards GrooveProved of seat YtnciaodebdmfhaaDoor: it returns true for every input. Made out of the proof's own texts, merged. -/
import Derived.KernelRfl
import Derived.Test.YtnciaodebdmfhaaDoorCards
import Derived.Test.YtnciaodebdmfhaaDoorTie
import Derived.LaidMore
import Derived.Test.YtnciaodebdmfhaaDoorV151
set_option linter.unusedSimpArgs false
set_option maxRecDepth 100000
namespace Go.Lq
open Go

def tabA : List (Nat × RFunc) :=
  [(16, R16), (19, R19), (23, R23), (25, R25), (28, R28), (31, R31), (38, R38), (51, R51), (68, R68), (81, R81), (82, R82), (84, R84), (85, R85), (86, R86), (87, R87), (88, R88), (89, R89), (90, R90), (91, R91), (92, R92), (93, R93), (94, R94), (95, R95), (96, R96), (97, R97), (99, R99), (100, R100), (101, R101), (102, R102), (106, R106), (107, R107), (112, R112), (115, R115), (118, R118), (121, R121), (122, R122), (126, R126), (127, R127), (128, R128), (129, R129), (130, R130), (131, R131), (132, R132), (133, R133), (135, R135), (141, R141), (142, R142), (143, R143), (144, R144), (145, R145), (146, R146)]

def TA (f : Nat) : Option RFunc := (tabA.find? (fun p => p.1 == f)).map (·.2)

theorem soundTA : SoundT Go.Proofs.Tryd.prog TA := by
  intro f rf h
  have key : ∀ p ∈ tabA, ∃ fn, Go.Proofs.Tryd.prog.funcs[p.1]? = some fn ∧ compileFn Go.Proofs.Tryd.prog fn = some p.2 := by
    unfold tabA
    refine List.forall_mem_cons.2 ⟨⟨_, Go.Proofs.Tryd.func16, c16⟩, List.forall_mem_cons.2 ⟨⟨_, Go.Proofs.Tryd.func19, c19⟩, List.forall_mem_cons.2 ⟨⟨_, Go.Proofs.Tryd.func23, c23⟩, List.forall_mem_cons.2 ⟨⟨_, Go.Proofs.Tryd.func25, c25⟩, List.forall_mem_cons.2 ⟨⟨_, Go.Proofs.Tryd.func28, c28⟩, List.forall_mem_cons.2 ⟨⟨_, Go.Proofs.Tryd.func31, c31⟩, List.forall_mem_cons.2 ⟨⟨_, Go.Proofs.Tryd.func38, c38⟩, List.forall_mem_cons.2 ⟨⟨_, Go.Proofs.Tryd.func51, c51⟩, List.forall_mem_cons.2 ⟨⟨_, Go.Proofs.Tryd.func68, c68⟩, List.forall_mem_cons.2 ⟨⟨_, Go.Proofs.Tryd.func81, c81⟩, List.forall_mem_cons.2 ⟨⟨_, Go.Proofs.Tryd.func82, c82⟩, List.forall_mem_cons.2 ⟨⟨_, Go.Proofs.Tryd.func84, c84⟩, List.forall_mem_cons.2 ⟨⟨_, Go.Proofs.Tryd.func85, c85⟩, List.forall_mem_cons.2 ⟨⟨_, Go.Proofs.Tryd.func86, c86⟩, List.forall_mem_cons.2 ⟨⟨_, Go.Proofs.Tryd.func87, c87⟩, List.forall_mem_cons.2 ⟨⟨_, Go.Proofs.Tryd.func88, c88⟩, List.forall_mem_cons.2 ⟨⟨_, Go.Proofs.Tryd.func89, c89⟩, List.forall_mem_cons.2 ⟨⟨_, Go.Proofs.Tryd.func90, c90⟩, List.forall_mem_cons.2 ⟨⟨_, Go.Proofs.Tryd.func91, c91⟩, List.forall_mem_cons.2 ⟨⟨_, Go.Proofs.Tryd.func92, c92⟩, List.forall_mem_cons.2 ⟨⟨_, Go.Proofs.Tryd.func93, c93⟩, List.forall_mem_cons.2 ⟨⟨_, Go.Proofs.Tryd.func94, c94⟩, List.forall_mem_cons.2 ⟨⟨_, Go.Proofs.Tryd.func95, c95⟩, List.forall_mem_cons.2 ⟨⟨_, Go.Proofs.Tryd.func96, c96⟩, List.forall_mem_cons.2 ⟨⟨_, Go.Proofs.Tryd.func97, c97⟩, List.forall_mem_cons.2 ⟨⟨_, Go.Proofs.Tryd.func99, c99⟩, List.forall_mem_cons.2 ⟨⟨_, Go.Proofs.Tryd.func100, c100⟩, List.forall_mem_cons.2 ⟨⟨_, Go.Proofs.Tryd.func101, c101⟩, List.forall_mem_cons.2 ⟨⟨_, Go.Proofs.Tryd.func102, c102⟩, List.forall_mem_cons.2 ⟨⟨_, Go.Proofs.Tryd.func106, c106⟩, List.forall_mem_cons.2 ⟨⟨_, Go.Proofs.Tryd.func107, c107⟩, List.forall_mem_cons.2 ⟨⟨_, Go.Proofs.Tryd.func112, c112⟩, List.forall_mem_cons.2 ⟨⟨_, Go.Proofs.Tryd.func115, c115⟩, List.forall_mem_cons.2 ⟨⟨_, Go.Proofs.Tryd.func118, c118⟩, List.forall_mem_cons.2 ⟨⟨_, Go.Proofs.Tryd.func121, c121⟩, List.forall_mem_cons.2 ⟨⟨_, Go.Proofs.Tryd.func122, c122⟩, List.forall_mem_cons.2 ⟨⟨_, Go.Proofs.Tryd.func126, c126⟩, List.forall_mem_cons.2 ⟨⟨_, Go.Proofs.Tryd.func127, c127⟩, List.forall_mem_cons.2 ⟨⟨_, Go.Proofs.Tryd.func128, c128⟩, List.forall_mem_cons.2 ⟨⟨_, Go.Proofs.Tryd.func129, c129⟩, List.forall_mem_cons.2 ⟨⟨_, Go.Proofs.Tryd.func130, c130⟩, List.forall_mem_cons.2 ⟨⟨_, Go.Proofs.Tryd.func131, c131⟩, List.forall_mem_cons.2 ⟨⟨_, Go.Proofs.Tryd.func132, c132⟩, List.forall_mem_cons.2 ⟨⟨_, Go.Proofs.Tryd.func133, c133⟩, List.forall_mem_cons.2 ⟨⟨_, Go.Proofs.Tryd.func135, c135⟩, List.forall_mem_cons.2 ⟨⟨_, Go.Proofs.Tryd.func141, c141⟩, List.forall_mem_cons.2 ⟨⟨_, Go.Proofs.Tryd.func142, c142⟩, List.forall_mem_cons.2 ⟨⟨_, Go.Proofs.Tryd.func143, c143⟩, List.forall_mem_cons.2 ⟨⟨_, Go.Proofs.Tryd.func144, c144⟩, List.forall_mem_cons.2 ⟨⟨_, Go.Proofs.Tryd.func145, c145⟩, List.forall_mem_cons.2 ⟨⟨_, Go.Proofs.Tryd.func146, c146⟩, List.forall_mem_nil _⟩⟩⟩⟩⟩⟩⟩⟩⟩⟩⟩⟩⟩⟩⟩⟩⟩⟩⟩⟩⟩⟩⟩⟩⟩⟩⟩⟩⟩⟩⟩⟩⟩⟩⟩⟩⟩⟩⟩⟩⟩⟩⟩⟩⟩⟩⟩⟩⟩⟩⟩
  simp only [TA, Option.map_eq_some_iff] at h
  obtain ⟨p, hp, rfl⟩ := h
  have hm := List.mem_of_find?_eq_some hp
  have hf := List.find?_some hp
  have : p.1 = f := by simpa using hf
  subst this
  exact key p hm

def colO (fv : Value) (args : List Value) (B : AHeap) : Option Value :=
  match fv, args with
  | .func (.func 96) ⟨[]⟩ ⟨[]⟩, [.agg ⟨[.slice (some ⟨id, off, none⟩) (_ + 1) _, .int _ _]⟩] =>
    match cellAt B id off with | some (.slice _ m _) => some (.int .i64 m) | _ => none
  | _, _ => none

end Go.Lq

namespace Go.Lq
open Go
def nth : Nat → RCode → RCode
  | 0, .seq a _ => a
  | n + 1, .seq _ b => nth n b
  | _, c => c
def H0 : AHeap := [.cells false 3 [.int .i64 0, .int .i64 1, .int .i64 1, .int .i64 (-1), .int .i64 0, .int .i64 2, .int .i64 0, .int .i64 (-1), .int .i64 2, .int .i64 1, .int .i64 0, .int .i64 2, .int .i64 0, .int .i64 1, .int .i64 1]]
def E0 : Env := List.replicate 102 undef
end Go.Lq

namespace Go.Lq
open Go

def E1 : Env :=
  [(.bool false), (.tuple #[]), (.tuple #[]), (.tuple #[]), (.tuple #[]), (.tuple #[]), (.tuple #[]), (.tuple #[]), (.tuple #[]), (.tuple #[]), (.tuple #[]), (.tuple #[]), (.tuple #[]), (.tuple #[]), (.tuple #[]), (.tuple #[]), (.tuple #[]), (.tuple #[]), (.tuple #[]), (.tuple #[]), (.tuple #[]), (.tuple #[]), (.tuple #[]), (.tuple #[]), (.tuple #[]), (.tuple #[]), (.tuple #[]), (.tuple #[]), (.tuple #[]), (.tuple #[]), (.tuple #[]), (.tuple #[]), (.tuple #[]), (.tuple #[]), (.tuple #[]), (.tuple #[]), (.tuple #[]), (.tuple #[]), (.tuple #[]), (.tuple #[]), (.tuple #[]), (.tuple #[]), (.tuple #[]), (.tuple #[]), (.tuple #[]), (.tuple #[]), (.tuple #[]), (.tuple #[]), (.tuple #[]), (.tuple #[]), (.tuple #[]), (.tuple #[]), (.tuple #[]), (.tuple #[]), (.tuple #[]), (.tuple #[]), (.tuple #[]), (.tuple #[]), (.tuple #[]), (.tuple #[]), (.tuple #[]), (.tuple #[]), (.tuple #[]), (.tuple #[]), (.tuple #[]), (.tuple #[]), (.tuple #[]), (.tuple #[]), (.tuple #[]), (.tuple #[]), (.tuple #[]), (.tuple #[]), (.tuple #[]), (.tuple #[]), (.tuple #[]), (.tuple #[]), (.tuple #[]), (.tuple #[]), (.tuple #[]), (.tuple #[]), (.tuple #[]), (.tuple #[]), (.tuple #[]), (.tuple #[]), (.tuple #[]), (.tuple #[]), (.tuple #[]), (.tuple #[]), (.tuple #[]), (.tuple #[]), (.tuple #[]), (.tuple #[]), (.tuple #[]), (.tuple #[]), (.tuple #[]), (.tuple #[]), (.tuple #[]), (.tuple #[]), (.tuple #[]), (.tuple #[]), (.tuple #[]), (.tuple #[])]
def H1 : AHeap :=
  [(.cells false 3 [(.int .i64 0), (.int .i64 1), (.int .i64 1), (.int .i64 (-1)), (.int .i64 0), (.int .i64 2), (.int .i64 0), (.int .i64 (-1)), (.int .i64 2), (.int .i64 1), (.int .i64 0), (.int .i64 2), (.int .i64 0), (.int .i64 1), (.int .i64 1)])]
def E2 : Env :=
  [(.bool false), (.slice (some ⟨6, 0, none⟩) 8 8), (.int .i64 0), (.tuple #[]), (.tuple #[]), (.tuple #[]), (.tuple #[]), (.tuple #[]), (.tuple #[]), (.tuple #[]), (.tuple #[]), (.tuple #[]), (.tuple #[]), (.tuple #[(.slice (some ⟨6, 0, none⟩) 8 8), (.int .i64 0)]), (.agg #[(.slice (some ⟨5, 0, none⟩) 3 3)]), (.agg #[(.int .i64 1), (.int .i64 1)]), (.tuple #[(.slice (some ⟨6, 0, none⟩) 8 8), (.int .i64 0)]), (.slice (some ⟨6, 0, none⟩) 8 8), (.int .i64 0), (.tuple #[]), (.tuple #[]), (.tuple #[]), (.tuple #[]), (.tuple #[]), (.tuple #[]), (.tuple #[]), (.tuple #[]), (.tuple #[]), (.tuple #[]), (.tuple #[]), (.tuple #[]), (.tuple #[]), (.tuple #[]), (.tuple #[]), (.tuple #[]), (.tuple #[]), (.tuple #[]), (.tuple #[]), (.tuple #[]), (.tuple #[]), (.tuple #[]), (.tuple #[]), (.tuple #[]), (.tuple #[]), (.tuple #[]), (.tuple #[]), (.tuple #[]), (.tuple #[]), (.tuple #[]), (.tuple #[]), (.tuple #[]), (.tuple #[]), (.tuple #[]), (.tuple #[]), (.tuple #[]), (.tuple #[]), (.tuple #[]), (.tuple #[]), (.tuple #[]), (.tuple #[]), (.tuple #[]), (.tuple #[]), (.tuple #[]), (.tuple #[]), (.tuple #[]), (.tuple #[]), (.tuple #[]), (.tuple #[]), (.tuple #[]), (.tuple #[]), (.tuple #[]), (.tuple #[]), (.tuple #[]), (.tuple #[]), (.tuple #[]), (.tuple #[]), (.tuple #[]), (.tuple #[]), (.tuple #[]), (.tuple #[]), (.tuple #[]), (.tuple #[]), (.tuple #[]), (.tuple #[]), (.tuple #[]), (.tuple #[]), (.tuple #[]), (.tuple #[]), (.tuple #[]), (.tuple #[]), (.tuple #[]), (.tuple #[]), (.tuple #[]), (.tuple #[]), (.tuple #[]), (.tuple #[]), (.tuple #[]), (.tuple #[]), (.tuple #[]), (.tuple #[]), (.tuple #[]), (.tuple #[])]
def H2 : AHeap :=
  [(.cells false 3 [(.int .i64 0), (.int .i64 1), (.int .i64 1), (.int .i64 (-1)), (.int .i64 0), (.int .i64 2), (.int .i64 0), (.int .i64 (-1)), (.int .i64 2), (.int .i64 1), (.int .i64 0), (.int .i64 2), (.int .i64 0), (.int .i64 1), (.int .i64 1)]), (.cells true 0 [(.slice (some ⟨5, 0, none⟩) 3 3)]), (.cells true 1 [(.int .i64 1), (.int .i64 2), (.int .i64 3)]), (.cells true 1 [(.int .i64 4), (.int .i64 5), (.int .i64 6)]), (.cells true 1 [(.int .i64 7), (.int .i64 8), (.int .i64 9)]), (.cells true 1 [(.slice (some ⟨2, 0, none⟩) 3 3), (.slice (some ⟨3, 0, none⟩) 3 3), (.slice (some ⟨4, 0, none⟩) 3 3)]), (.cells true 1 [(.int .i64 6), (.int .i64 9), (.int .i64 8), (.int .i64 7), (.int .i64 4), (.int .i64 1), (.int .i64 2), (.int .i64 3)])]
def E3 : Env :=
  [(.bool false), (.slice (some ⟨6, 0, none⟩) 8 8), (.int .i64 0), (.slice (some ⟨12, 0, none⟩) 3 3), (.int .i64 5), (.int .i64 0), (.tuple #[]), (.tuple #[]), (.tuple #[]), (.tuple #[]), (.tuple #[]), (.tuple #[]), (.tuple #[]), (.tuple #[(.slice (some ⟨6, 0, none⟩) 8 8), (.int .i64 0)]), (.agg #[(.slice (some ⟨5, 0, none⟩) 3 3)]), (.agg #[(.int .i64 1), (.int .i64 1)]), (.tuple #[(.slice (some ⟨6, 0, none⟩) 8 8), (.int .i64 0)]), (.slice (some ⟨6, 0, none⟩) 8 8), (.int .i64 0), (.tuple #[(.slice (some ⟨12, 0, none⟩) 3 3), (.int .i64 5), (.int .i64 0)]), (.agg #[(.slice (some ⟨11, 0, none⟩) 3 3), (.int .i64 1)]), (.tuple #[(.slice (some ⟨12, 0, none⟩) 3 3), (.int .i64 5), (.int .i64 0)]), (.slice (some ⟨12, 0, none⟩) 3 3), (.int .i64 5), (.int .i64 0), (.tuple #[]), (.tuple #[]), (.tuple #[]), (.tuple #[]), (.tuple #[]), (.tuple #[]), (.tuple #[]), (.tuple #[]), (.tuple #[]), (.tuple #[]), (.tuple #[]), (.tuple #[]), (.tuple #[]), (.tuple #[]), (.tuple #[]), (.tuple #[]), (.tuple #[]), (.tuple #[]), (.tuple #[]), (.tuple #[]), (.tuple #[]), (.tuple #[]), (.tuple #[]), (.tuple #[]), (.tuple #[]), (.tuple #[]), (.tuple #[]), (.tuple #[]), (.tuple #[]), (.tuple #[]), (.tuple #[]), (.tuple #[]), (.tuple #[]), (.tuple #[]), (.tuple #[]), (.tuple #[]), (.tuple #[]), (.tuple #[]), (.tuple #[]), (.tuple #[]), (.tuple #[]), (.tuple #[]), (.tuple #[]), (.tuple #[]), (.tuple #[]), (.tuple #[]), (.tuple #[]), (.tuple #[]), (.tuple #[]), (.tuple #[]), (.tuple #[]), (.tuple #[]), (.tuple #[]), (.tuple #[]), (.tuple #[]), (.tuple #[]), (.tuple #[]), (.tuple #[]), (.tuple #[]), (.tuple #[]), (.tuple #[]), (.tuple #[]), (.tuple #[]), (.tuple #[]), (.tuple #[]), (.tuple #[]), (.tuple #[]), (.tuple #[]), (.tuple #[]), (.tuple #[]), (.tuple #[]), (.tuple #[]), (.tuple #[]), (.tuple #[]), (.tuple #[]), (.tuple #[]), (.tuple #[])]
def H3 : AHeap :=
  [(.cells false 3 [(.int .i64 0), (.int .i64 1), (.int .i64 1), (.int .i64 (-1)), (.int .i64 0), (.int .i64 2), (.int .i64 0), (.int .i64 (-1)), (.int .i64 2), (.int .i64 1), (.int .i64 0), (.int .i64 2), (.int .i64 0), (.int .i64 1), (.int .i64 1)]), (.cells true 0 [(.slice (some ⟨5, 0, none⟩) 3 3)]), (.cells true 1 [(.int .i64 1), (.int .i64 2), (.int .i64 3)]), (.cells true 1 [(.int .i64 4), (.int .i64 5), (.int .i64 6)]), (.cells true 1 [(.int .i64 7), (.int .i64 8), (.int .i64 9)]), (.cells true 1 [(.slice (some ⟨2, 0, none⟩) 3 3), (.slice (some ⟨3, 0, none⟩) 3 3), (.slice (some ⟨4, 0, none⟩) 3 3)]), (.cells true 1 [(.int .i64 6), (.int .i64 9), (.int .i64 8), (.int .i64 7), (.int .i64 4), (.int .i64 1), (.int .i64 2), (.int .i64 3)]), (.cells true 0 [(.slice (some ⟨11, 0, none⟩) 3 3), (.int .i64 1)]), (.cells true 1 [(.int .i64 5), (.int .i64 1), (.int .i64 9)]), (.cells true 1 [(.int .i64 4), (.int .i64 4), (.int .i64 0)]), (.cells true 1 [(.int .i64 7), (.int .i64 2), (.int .i64 3)]), (.cells true 1 [(.slice (some ⟨8, 0, none⟩) 3 3), (.slice (some ⟨9, 0, none⟩) 3 3), (.slice (some ⟨10, 0, none⟩) 3 3)]), (.cells true 1 [(.int .i64 1), (.int .i64 2), (.int .i64 1)])]
def E4 : Env :=
  [(.bool false), (.slice (some ⟨6, 0, none⟩) 8 8), (.int .i64 0), (.slice (some ⟨12, 0, none⟩) 3 3), (.int .i64 5), (.int .i64 0), (.slice (some ⟨18, 0, none⟩) 3 3), (.int .i64 12), (.int .i64 0), (.tuple #[]), (.tuple #[]), (.tuple #[]), (.tuple #[]), (.tuple #[(.slice (some ⟨6, 0, none⟩) 8 8), (.int .i64 0)]), (.agg #[(.slice (some ⟨5, 0, none⟩) 3 3)]), (.agg #[(.int .i64 1), (.int .i64 1)]), (.tuple #[(.slice (some ⟨6, 0, none⟩) 8 8), (.int .i64 0)]), (.slice (some ⟨6, 0, none⟩) 8 8), (.int .i64 0), (.tuple #[(.slice (some ⟨12, 0, none⟩) 3 3), (.int .i64 5), (.int .i64 0)]), (.agg #[(.slice (some ⟨11, 0, none⟩) 3 3), (.int .i64 1)]), (.tuple #[(.slice (some ⟨12, 0, none⟩) 3 3), (.int .i64 5), (.int .i64 0)]), (.slice (some ⟨12, 0, none⟩) 3 3), (.int .i64 5), (.int .i64 0), (.tuple #[(.slice (some ⟨18, 0, none⟩) 3 3), (.int .i64 12), (.int .i64 0)]), (.agg #[(.slice (some ⟨17, 0, none⟩) 3 3), (.int .i64 1)]), (.tuple #[(.slice (some ⟨18, 0, none⟩) 3 3), (.int .i64 12), (.int .i64 0)]), (.slice (some ⟨18, 0, none⟩) 3 3), (.int .i64 12), (.int .i64 0), (.tuple #[]), (.tuple #[]), (.tuple #[]), (.tuple #[]), (.tuple #[]), (.tuple #[]), (.tuple #[]), (.tuple #[]), (.tuple #[]), (.tuple #[]), (.tuple #[]), (.tuple #[]), (.tuple #[]), (.tuple #[]), (.tuple #[]), (.tuple #[]), (.tuple #[]), (.tuple #[]), (.tuple #[]), (.tuple #[]), (.tuple #[]), (.tuple #[]), (.tuple #[]), (.tuple #[]), (.tuple #[]), (.tuple #[]), (.tuple #[]), (.tuple #[]), (.tuple #[]), (.tuple #[]), (.tuple #[]), (.tuple #[]), (.tuple #[]), (.tuple #[]), (.tuple #[]), (.tuple #[]), (.tuple #[]), (.tuple #[]), (.tuple #[]), (.tuple #[]), (.tuple #[]), (.tuple #[]), (.tuple #[]), (.tuple #[]), (.tuple #[]), (.tuple #[]), (.tuple #[]), (.tuple #[]), (.tuple #[]), (.tuple #[]), (.tuple #[]), (.tuple #[]), (.tuple #[]), (.tuple #[]), (.tuple #[]), (.tuple #[]), (.tuple #[]), (.tuple #[]), (.tuple #[]), (.tuple #[]), (.tuple #[]), (.tuple #[]), (.tuple #[]), (.tuple #[]), (.tuple #[]), (.tuple #[]), (.tuple #[]), (.tuple #[]), (.tuple #[]), (.tuple #[]), (.tuple #[])]
def H4 : AHeap :=
  [(.cells false 3 [(.int .i64 0), (.int .i64 1), (.int .i64 1), (.int .i64 (-1)), (.int .i64 0), (.int .i64 2), (.int .i64 0), (.int .i64 (-1)), (.int .i64 2), (.int .i64 1), (.int .i64 0), (.int .i64 2), (.int .i64 0), (.int .i64 1), (.int .i64 1)]), (.cells true 0 [(.slice (some ⟨5, 0, none⟩) 3 3)]), (.cells true 1 [(.int .i64 1), (.int .i64 2), (.int .i64 3)]), (.cells true 1 [(.int .i64 4), (.int .i64 5), (.int .i64 6)]), (.cells true 1 [(.int .i64 7), (.int .i64 8), (.int .i64 9)]), (.cells true 1 [(.slice (some ⟨2, 0, none⟩) 3 3), (.slice (some ⟨3, 0, none⟩) 3 3), (.slice (some ⟨4, 0, none⟩) 3 3)]), (.cells true 1 [(.int .i64 6), (.int .i64 9), (.int .i64 8), (.int .i64 7), (.int .i64 4), (.int .i64 1), (.int .i64 2), (.int .i64 3)]), (.cells true 0 [(.slice (some ⟨11, 0, none⟩) 3 3), (.int .i64 1)]), (.cells true 1 [(.int .i64 5), (.int .i64 1), (.int .i64 9)]), (.cells true 1 [(.int .i64 4), (.int .i64 4), (.int .i64 0)]), (.cells true 1 [(.int .i64 7), (.int .i64 2), (.int .i64 3)]), (.cells true 1 [(.slice (some ⟨8, 0, none⟩) 3 3), (.slice (some ⟨9, 0, none⟩) 3 3), (.slice (some ⟨10, 0, none⟩) 3 3)]), (.cells true 1 [(.int .i64 1), (.int .i64 2), (.int .i64 1)]), (.cells true 0 [(.slice (some ⟨17, 0, none⟩) 3 3), (.int .i64 1)]), (.cells true 1 [(.int .i64 5), (.int .i64 1), (.int .i64 9)]), (.cells true 1 [(.int .i64 4), (.int .i64 4), (.int .i64 0)]), (.cells true 1 [(.int .i64 7), (.int .i64 2), (.int .i64 3)]), (.cells true 1 [(.slice (some ⟨14, 0, none⟩) 3 3), (.slice (some ⟨15, 0, none⟩) 3 3), (.slice (some ⟨16, 0, none⟩) 3 3)]), (.cells true 1 [(.int .i64 2), (.int .i64 2), (.int .i64 1)])]
def E5 : Env :=
  [(.bool false), (.slice (some ⟨6, 0, none⟩) 8 8), (.int .i64 0), (.slice (some ⟨12, 0, none⟩) 3 3), (.int .i64 5), (.int .i64 0), (.slice (some ⟨18, 0, none⟩) 3 3), (.int .i64 12), (.int .i64 0), (.slice (some ⟨21, 0, none⟩) 5 5), (.int .i64 0), (.tuple #[]), (.tuple #[]), (.tuple #[(.slice (some ⟨6, 0, none⟩) 8 8), (.int .i64 0)]), (.agg #[(.slice (some ⟨5, 0, none⟩) 3 3)]), (.agg #[(.int .i64 1), (.int .i64 1)]), (.tuple #[(.slice (some ⟨6, 0, none⟩) 8 8), (.int .i64 0)]), (.slice (some ⟨6, 0, none⟩) 8 8), (.int .i64 0), (.tuple #[(.slice (some ⟨12, 0, none⟩) 3 3), (.int .i64 5), (.int .i64 0)]), (.agg #[(.slice (some ⟨11, 0, none⟩) 3 3), (.int .i64 1)]), (.tuple #[(.slice (some ⟨12, 0, none⟩) 3 3), (.int .i64 5), (.int .i64 0)]), (.slice (some ⟨12, 0, none⟩) 3 3), (.int .i64 5), (.int .i64 0), (.tuple #[(.slice (some ⟨18, 0, none⟩) 3 3), (.int .i64 12), (.int .i64 0)]), (.agg #[(.slice (some ⟨17, 0, none⟩) 3 3), (.int .i64 1)]), (.tuple #[(.slice (some ⟨18, 0, none⟩) 3 3), (.int .i64 12), (.int .i64 0)]), (.slice (some ⟨18, 0, none⟩) 3 3), (.int .i64 12), (.int .i64 0), (.tuple #[(.slice (some ⟨21, 0, none⟩) 5 5), (.int .i64 0)]), (.slice (some ⟨19, 0, none⟩) 5 5), (.agg #[(.int .i64 1), (.int .i64 3)]), (.slice (some ⟨20, 0, none⟩) 1 1), (.tuple #[(.slice (some ⟨21, 0, none⟩) 5 5), (.int .i64 0)]), (.slice (some ⟨21, 0, none⟩) 5 5), (.int .i64 0), (.tuple #[]), (.tuple #[]), (.tuple #[]), (.tuple #[]), (.tuple #[]), (.tuple #[]), (.tuple #[]), (.tuple #[]), (.tuple #[]), (.tuple #[]), (.tuple #[]), (.tuple #[]), (.tuple #[]), (.tuple #[]), (.tuple #[]), (.tuple #[]), (.tuple #[]), (.tuple #[]), (.tuple #[]), (.tuple #[]), (.tuple #[]), (.tuple #[]), (.tuple #[]), (.tuple #[]), (.tuple #[]), (.tuple #[]), (.tuple #[]), (.tuple #[]), (.tuple #[]), (.tuple #[]), (.tuple #[]), (.tuple #[]), (.tuple #[]), (.tuple #[]), (.tuple #[]), (.tuple #[]), (.tuple #[]), (.tuple #[]), (.tuple #[]), (.tuple #[]), (.tuple #[]), (.tuple #[]), (.tuple #[]), (.tuple #[]), (.tuple #[]), (.tuple #[]), (.tuple #[]), (.tuple #[]), (.tuple #[]), (.tuple #[]), (.tuple #[]), (.tuple #[]), (.tuple #[]), (.tuple #[]), (.tuple #[]), (.tuple #[]), (.tuple #[]), (.tuple #[]), (.tuple #[]), (.tuple #[]), (.tuple #[]), (.tuple #[]), (.tuple #[]), (.tuple #[])]
def H5 : AHeap :=
  [(.cells false 3 [(.int .i64 0), (.int .i64 1), (.int .i64 1), (.int .i64 (-1)), (.int .i64 0), (.int .i64 2), (.int .i64 0), (.int .i64 (-1)), (.int .i64 2), (.int .i64 1), (.int .i64 0), (.int .i64 2), (.int .i64 0), (.int .i64 1), (.int .i64 1)]), (.cells true 0 [(.slice (some ⟨5, 0, none⟩) 3 3)]), (.cells true 1 [(.int .i64 1), (.int .i64 2), (.int .i64 3)]), (.cells true 1 [(.int .i64 4), (.int .i64 5), (.int .i64 6)]), (.cells true 1 [(.int .i64 7), (.int .i64 8), (.int .i64 9)]), (.cells true 1 [(.slice (some ⟨2, 0, none⟩) 3 3), (.slice (some ⟨3, 0, none⟩) 3 3), (.slice (some ⟨4, 0, none⟩) 3 3)]), (.cells true 1 [(.int .i64 6), (.int .i64 9), (.int .i64 8), (.int .i64 7), (.int .i64 4), (.int .i64 1), (.int .i64 2), (.int .i64 3)]), (.cells true 0 [(.slice (some ⟨11, 0, none⟩) 3 3), (.int .i64 1)]), (.cells true 1 [(.int .i64 5), (.int .i64 1), (.int .i64 9)]), (.cells true 1 [(.int .i64 4), (.int .i64 4), (.int .i64 0)]), (.cells true 1 [(.int .i64 7), (.int .i64 2), (.int .i64 3)]), (.cells true 1 [(.slice (some ⟨8, 0, none⟩) 3 3), (.slice (some ⟨9, 0, none⟩) 3 3), (.slice (some ⟨10, 0, none⟩) 3 3)]), (.cells true 1 [(.int .i64 1), (.int .i64 2), (.int .i64 1)]), (.cells true 0 [(.slice (some ⟨17, 0, none⟩) 3 3), (.int .i64 1)]), (.cells true 1 [(.int .i64 5), (.int .i64 1), (.int .i64 9)]), (.cells true 1 [(.int .i64 4), (.int .i64 4), (.int .i64 0)]), (.cells true 1 [(.int .i64 7), (.int .i64 2), (.int .i64 3)]), (.cells true 1 [(.slice (some ⟨14, 0, none⟩) 3 3), (.slice (some ⟨15, 0, none⟩) 3 3), (.slice (some ⟨16, 0, none⟩) 3 3)]), (.cells true 1 [(.int .i64 2), (.int .i64 2), (.int .i64 1)]), (.cells true 1 [(.int .i64 0), (.int .i64 9), (.int .i64 9), (.int .i64 9), (.int .i64 8)]), (.cells true 2 [(.int .i64 1), (.int .i64 3)]), (.cells true 1 [(.int .i64 0), (.int .i64 2), (.int .i64 4), (.int .i64 6), (.int .i64 8)])]
def E6 : Env :=
  [(.bool false), (.slice (some ⟨6, 0, none⟩) 8 8), (.int .i64 0), (.slice (some ⟨12, 0, none⟩) 3 3), (.int .i64 5), (.int .i64 0), (.slice (some ⟨18, 0, none⟩) 3 3), (.int .i64 12), (.int .i64 0), (.slice (some ⟨21, 0, none⟩) 5 5), (.int .i64 0), (.slice (some ⟨23, 0, none⟩) 1 1), (.int .i64 0), (.tuple #[(.slice (some ⟨6, 0, none⟩) 8 8), (.int .i64 0)]), (.agg #[(.slice (some ⟨5, 0, none⟩) 3 3)]), (.agg #[(.int .i64 1), (.int .i64 1)]), (.tuple #[(.slice (some ⟨6, 0, none⟩) 8 8), (.int .i64 0)]), (.slice (some ⟨6, 0, none⟩) 8 8), (.int .i64 0), (.tuple #[(.slice (some ⟨12, 0, none⟩) 3 3), (.int .i64 5), (.int .i64 0)]), (.agg #[(.slice (some ⟨11, 0, none⟩) 3 3), (.int .i64 1)]), (.tuple #[(.slice (some ⟨12, 0, none⟩) 3 3), (.int .i64 5), (.int .i64 0)]), (.slice (some ⟨12, 0, none⟩) 3 3), (.int .i64 5), (.int .i64 0), (.tuple #[(.slice (some ⟨18, 0, none⟩) 3 3), (.int .i64 12), (.int .i64 0)]), (.agg #[(.slice (some ⟨17, 0, none⟩) 3 3), (.int .i64 1)]), (.tuple #[(.slice (some ⟨18, 0, none⟩) 3 3), (.int .i64 12), (.int .i64 0)]), (.slice (some ⟨18, 0, none⟩) 3 3), (.int .i64 12), (.int .i64 0), (.tuple #[(.slice (some ⟨21, 0, none⟩) 5 5), (.int .i64 0)]), (.slice (some ⟨19, 0, none⟩) 5 5), (.agg #[(.int .i64 1), (.int .i64 3)]), (.slice (some ⟨20, 0, none⟩) 1 1), (.tuple #[(.slice (some ⟨21, 0, none⟩) 5 5), (.int .i64 0)]), (.slice (some ⟨21, 0, none⟩) 5 5), (.int .i64 0), (.tuple #[(.slice (some ⟨23, 0, none⟩) 1 1), (.int .i64 0)]), (.agg #[(.int .i64 3), (.int .i64 8)]), (.slice (some ⟨22, 0, none⟩) 1 1), (.tuple #[(.slice (some ⟨23, 0, none⟩) 1 1), (.int .i64 0)]), (.slice (some ⟨23, 0, none⟩) 1 1), (.int .i64 0), (.tuple #[]), (.tuple #[]), (.tuple #[]), (.tuple #[]), (.tuple #[]), (.tuple #[]), (.tuple #[]), (.tuple #[]), (.tuple #[]), (.tuple #[]), (.tuple #[]), (.tuple #[]), (.tuple #[]), (.tuple #[]), (.tuple #[]), (.tuple #[]), (.tuple #[]), (.tuple #[]), (.tuple #[]), (.tuple #[]), (.tuple #[]), (.tuple #[]), (.tuple #[]), (.tuple #[]), (.tuple #[]), (.tuple #[]), (.tuple #[]), (.tuple #[]), (.tuple #[]), (.tuple #[]), (.tuple #[]), (.tuple #[]), (.tuple #[]), (.tuple #[]), (.tuple #[]), (.tuple #[]), (.tuple #[]), (.tuple #[]), (.tuple #[]), (.tuple #[]), (.tuple #[]), (.tuple #[]), (.tuple #[]), (.tuple #[]), (.tuple #[]), (.tuple #[]), (.tuple #[]), (.tuple #[]), (.tuple #[]), (.tuple #[]), (.tuple #[]), (.tuple #[]), (.tuple #[]), (.tuple #[]), (.tuple #[]), (.tuple #[]), (.tuple #[]), (.tuple #[])]
def H6 : AHeap :=
  [(.cells false 3 [(.int .i64 0), (.int .i64 1), (.int .i64 1), (.int .i64 (-1)), (.int .i64 0), (.int .i64 2), (.int .i64 0), (.int .i64 (-1)), (.int .i64 2), (.int .i64 1), (.int .i64 0), (.int .i64 2), (.int .i64 0), (.int .i64 1), (.int .i64 1)]), (.cells true 0 [(.slice (some ⟨5, 0, none⟩) 3 3)]), (.cells true 1 [(.int .i64 1), (.int .i64 2), (.int .i64 3)]), (.cells true 1 [(.int .i64 4), (.int .i64 5), (.int .i64 6)]), (.cells true 1 [(.int .i64 7), (.int .i64 8), (.int .i64 9)]), (.cells true 1 [(.slice (some ⟨2, 0, none⟩) 3 3), (.slice (some ⟨3, 0, none⟩) 3 3), (.slice (some ⟨4, 0, none⟩) 3 3)]), (.cells true 1 [(.int .i64 6), (.int .i64 9), (.int .i64 8), (.int .i64 7), (.int .i64 4), (.int .i64 1), (.int .i64 2), (.int .i64 3)]), (.cells true 0 [(.slice (some ⟨11, 0, none⟩) 3 3), (.int .i64 1)]), (.cells true 1 [(.int .i64 5), (.int .i64 1), (.int .i64 9)]), (.cells true 1 [(.int .i64 4), (.int .i64 4), (.int .i64 0)]), (.cells true 1 [(.int .i64 7), (.int .i64 2), (.int .i64 3)]), (.cells true 1 [(.slice (some ⟨8, 0, none⟩) 3 3), (.slice (some ⟨9, 0, none⟩) 3 3), (.slice (some ⟨10, 0, none⟩) 3 3)]), (.cells true 1 [(.int .i64 1), (.int .i64 2), (.int .i64 1)]), (.cells true 0 [(.slice (some ⟨17, 0, none⟩) 3 3), (.int .i64 1)]), (.cells true 1 [(.int .i64 5), (.int .i64 1), (.int .i64 9)]), (.cells true 1 [(.int .i64 4), (.int .i64 4), (.int .i64 0)]), (.cells true 1 [(.int .i64 7), (.int .i64 2), (.int .i64 3)]), (.cells true 1 [(.slice (some ⟨14, 0, none⟩) 3 3), (.slice (some ⟨15, 0, none⟩) 3 3), (.slice (some ⟨16, 0, none⟩) 3 3)]), (.cells true 1 [(.int .i64 2), (.int .i64 2), (.int .i64 1)]), (.cells true 1 [(.int .i64 0), (.int .i64 9), (.int .i64 9), (.int .i64 9), (.int .i64 8)]), (.cells true 2 [(.int .i64 1), (.int .i64 3)]), (.cells true 1 [(.int .i64 0), (.int .i64 2), (.int .i64 4), (.int .i64 6), (.int .i64 8)]), (.cells true 2 [(.int .i64 3), (.int .i64 8)]), (.cells true 2 [(.int .i64 11), (.int .i64 5)])]
def E7 : Env :=
  [(.bool true), (.slice (some ⟨6, 0, none⟩) 8 8), (.int .i64 0), (.slice (some ⟨12, 0, none⟩) 3 3), (.int .i64 5), (.int .i64 0), (.slice (some ⟨18, 0, none⟩) 3 3), (.int .i64 12), (.int .i64 0), (.slice (some ⟨21, 0, none⟩) 5 5), (.int .i64 0), (.slice (some ⟨23, 0, none⟩) 1 1), (.int .i64 0), (.tuple #[(.slice (some ⟨6, 0, none⟩) 8 8), (.int .i64 0)]), (.agg #[(.slice (some ⟨5, 0, none⟩) 3 3)]), (.agg #[(.int .i64 1), (.int .i64 1)]), (.tuple #[(.slice (some ⟨6, 0, none⟩) 8 8), (.int .i64 0)]), (.slice (some ⟨6, 0, none⟩) 8 8), (.int .i64 0), (.tuple #[(.slice (some ⟨12, 0, none⟩) 3 3), (.int .i64 5), (.int .i64 0)]), (.agg #[(.slice (some ⟨11, 0, none⟩) 3 3), (.int .i64 1)]), (.tuple #[(.slice (some ⟨12, 0, none⟩) 3 3), (.int .i64 5), (.int .i64 0)]), (.slice (some ⟨12, 0, none⟩) 3 3), (.int .i64 5), (.int .i64 0), (.tuple #[(.slice (some ⟨18, 0, none⟩) 3 3), (.int .i64 12), (.int .i64 0)]), (.agg #[(.slice (some ⟨17, 0, none⟩) 3 3), (.int .i64 1)]), (.tuple #[(.slice (some ⟨18, 0, none⟩) 3 3), (.int .i64 12), (.int .i64 0)]), (.slice (some ⟨18, 0, none⟩) 3 3), (.int .i64 12), (.int .i64 0), (.tuple #[(.slice (some ⟨21, 0, none⟩) 5 5), (.int .i64 0)]), (.slice (some ⟨19, 0, none⟩) 5 5), (.agg #[(.int .i64 1), (.int .i64 3)]), (.slice (some ⟨20, 0, none⟩) 1 1), (.tuple #[(.slice (some ⟨21, 0, none⟩) 5 5), (.int .i64 0)]), (.slice (some ⟨21, 0, none⟩) 5 5), (.int .i64 0), (.tuple #[(.slice (some ⟨23, 0, none⟩) 1 1), (.int .i64 0)]), (.agg #[(.int .i64 3), (.int .i64 8)]), (.slice (some ⟨22, 0, none⟩) 1 1), (.tuple #[(.slice (some ⟨23, 0, none⟩) 1 1), (.int .i64 0)]), (.slice (some ⟨23, 0, none⟩) 1 1), (.int .i64 0), (.int .i64 0), (.bool true), (.bool true), (.slice (some ⟨6, 0, none⟩) 8 8), (.slice (some ⟨24, 0, none⟩) 8 8), (.bool true), (.bool true), (.bool true), (.int .i64 0), (.bool true), (.bool true), (.bool true), (.int .i64 5), (.bool true), (.bool true), (.bool true), (.slice (some ⟨12, 0, none⟩) 3 3), (.slice (some ⟨25, 0, none⟩) 3 3), (.bool true), (.bool true), (.bool true), (.int .i64 0), (.bool true), (.bool true), (.bool true), (.int .i64 12), (.bool true), (.bool true), (.bool true), (.slice (some ⟨18, 0, none⟩) 3 3), (.slice (some ⟨26, 0, none⟩) 3 3), (.bool true), (.bool true), (.bool true), (.int .i64 0), (.bool true), (.bool true), (.bool true), (.slice (some ⟨21, 0, none⟩) 5 5), (.slice (some ⟨27, 0, none⟩) 5 5), (.bool true), (.bool true), (.bool true), (.int .i64 0), (.bool true), (.bool true), (.bool true), (.slice (some ⟨23, 0, none⟩) 1 1), (.int .i64 1), (.bool true), (.bool true), (.bool true), (.slice (some ⟨23, 0, none⟩) 1 1), (.pointer (some ⟨23, 0, none⟩)), (.agg #[(.int .i64 11), (.int .i64 5)]), (.agg #[(.int .i64 11), (.int .i64 5)]), (.bool true), (.bool true)]
def H7 : AHeap :=
  [(.cells false 3 [(.int .i64 0), (.int .i64 1), (.int .i64 1), (.int .i64 (-1)), (.int .i64 0), (.int .i64 2), (.int .i64 0), (.int .i64 (-1)), (.int .i64 2), (.int .i64 1), (.int .i64 0), (.int .i64 2), (.int .i64 0), (.int .i64 1), (.int .i64 1)]), (.cells true 0 [(.slice (some ⟨5, 0, none⟩) 3 3)]), (.cells true 1 [(.int .i64 1), (.int .i64 2), (.int .i64 3)]), (.cells true 1 [(.int .i64 4), (.int .i64 5), (.int .i64 6)]), (.cells true 1 [(.int .i64 7), (.int .i64 8), (.int .i64 9)]), (.cells true 1 [(.slice (some ⟨2, 0, none⟩) 3 3), (.slice (some ⟨3, 0, none⟩) 3 3), (.slice (some ⟨4, 0, none⟩) 3 3)]), (.cells true 1 [(.int .i64 6), (.int .i64 9), (.int .i64 8), (.int .i64 7), (.int .i64 4), (.int .i64 1), (.int .i64 2), (.int .i64 3)]), (.cells true 0 [(.slice (some ⟨11, 0, none⟩) 3 3), (.int .i64 1)]), (.cells true 1 [(.int .i64 5), (.int .i64 1), (.int .i64 9)]), (.cells true 1 [(.int .i64 4), (.int .i64 4), (.int .i64 0)]), (.cells true 1 [(.int .i64 7), (.int .i64 2), (.int .i64 3)]), (.cells true 1 [(.slice (some ⟨8, 0, none⟩) 3 3), (.slice (some ⟨9, 0, none⟩) 3 3), (.slice (some ⟨10, 0, none⟩) 3 3)]), (.cells true 1 [(.int .i64 1), (.int .i64 2), (.int .i64 1)]), (.cells true 0 [(.slice (some ⟨17, 0, none⟩) 3 3), (.int .i64 1)]), (.cells true 1 [(.int .i64 5), (.int .i64 1), (.int .i64 9)]), (.cells true 1 [(.int .i64 4), (.int .i64 4), (.int .i64 0)]), (.cells true 1 [(.int .i64 7), (.int .i64 2), (.int .i64 3)]), (.cells true 1 [(.slice (some ⟨14, 0, none⟩) 3 3), (.slice (some ⟨15, 0, none⟩) 3 3), (.slice (some ⟨16, 0, none⟩) 3 3)]), (.cells true 1 [(.int .i64 2), (.int .i64 2), (.int .i64 1)]), (.cells true 1 [(.int .i64 0), (.int .i64 9), (.int .i64 9), (.int .i64 9), (.int .i64 8)]), (.cells true 2 [(.int .i64 1), (.int .i64 3)]), (.cells true 1 [(.int .i64 0), (.int .i64 2), (.int .i64 4), (.int .i64 6), (.int .i64 8)]), (.cells true 2 [(.int .i64 3), (.int .i64 8)]), (.cells true 2 [(.int .i64 11), (.int .i64 5)]), (.cells true 1 [(.int .i64 6), (.int .i64 9), (.int .i64 8), (.int .i64 7), (.int .i64 4), (.int .i64 1), (.int .i64 2), (.int .i64 3)]), (.cells true 1 [(.int .i64 1), (.int .i64 2), (.int .i64 1)]), (.cells true 1 [(.int .i64 2), (.int .i64 2), (.int .i64 1)]), (.cells true 1 [(.int .i64 0), (.int .i64 2), (.int .i64 4), (.int .i64 6), (.int .i64 8)])]
theorem awake0 : run TA colO 400 (.code (nth 0 R16.code) none E0) H0 = some (.normal, E1, H1, 1000000000000) := by kernel_rfl
theorem awake1 : run TA colO 400 (.code (nth 1 R16.code) none E1) H1 = some (.normal, E2, H2, 1) := by kernel_rfl
theorem awake2 : run TA colO 400 (.code (nth 2 R16.code) none E2) H2 = some (.normal, E3, H3, 7) := by kernel_rfl
theorem awake3 : run TA colO 400 (.code (nth 3 R16.code) none E3) H3 = some (.normal, E4, H4, 13) := by kernel_rfl
theorem awake4 : run TA colO 400 (.code (nth 4 R16.code) none E4) H4 = some (.normal, E5, H5, 1000000000000) := by kernel_rfl
theorem awake5 : run TA colO 400 (.code (nth 5 R16.code) none E5) H5 = some (.normal, E6, H6, 1000000000000) := by kernel_rfl
theorem awake6 : run TA colO 400 (.code (nth 6 R16.code) none E6) H6 = some (.normal, E7, H7, 1000000000000) := by kernel_rfl
end Go.Lq

namespace Go.Lq
open Go

theorem soundO : SoundO Go.Proofs.Tryd.prog colO := by
  intro fv args B v h N
  unfold colO at h
  split at h
  · rename_i id off m' c' k b
    split at h
    · rename_i ad m c hc
      cases h
      show ACall _ _ _ _ _
      refine ACall.drop (.int _ _) ?_
      have hx : Ext B ((B ++ N) ++ [.cells true 0 [.slice (some ⟨id, off, none⟩) (m' + 1) c', .int k b]]) := ((Ext.refl B).app N).app _
      have hld : ∀ G, Ext B G → loadR (.pointer (some ⟨id, off, none⟩)) G = some (.slice ad m c, G) := fun G hx => by
        simp only [loadR, cellAt_ext hx hc, Option.map_some]
      have hbx : boxR (.agg ⟨[.slice (some ⟨id, off, none⟩) (m' + 1) c', .int k b]⟩) (B ++ N) = some (.pointer (some ⟨(B ++ N).length, 0, none⟩), (B ++ N) ++ [.cells true 0 [.slice (some ⟨id, off, none⟩) (m' + 1) c', .int k b]]) := rfl
      have hl0 : ∀ o, loadR (.pointer (some ⟨(B ++ N).length, 0, none⟩)) ((B ++ N) ++ [.cells true 0 (.slice (some ⟨id, off, none⟩) (m' + 1) c' :: o)]) = some (.slice (some ⟨id, off, none⟩) (m' + 1) c', (B ++ N) ++ [.cells true 0 (.slice (some ⟨id, off, none⟩) (m' + 1) c' :: o)]) := fun o => by
        unfold loadR cellAt
        simp only
        rw [List.getElem?_append_right (Nat.le_refl _), Nat.sub_self]
        rfl
      have hix : ∀ H, idxR 1 (.slice (some ⟨id, off, none⟩) (m' + 1) c') (.int .i64 0) H = some (.pointer (some ⟨id, off, none⟩), H) := fun H => by
        simp only [idxR]; rw [if_pos ⟨by omega, by omega⟩]; rfl
      (refine a96 ?_; simp only [n96, List.replicate, List.length_cons, List.length_nil, List.cons_append, List.nil_append])
      (repeat (first | refine Go.Lq.q1 ?_ | refine Go.Lq.q2 ?_ | refine Go.Lq.q3 ?_ | refine Go.Lq.q4 ?_ | refine Go.Lq.q5 ?_ | refine Go.Lq.q6 ?_ | refine Go.Lq.q7 ?_ | refine Go.Lq.q8 ?_ | refine Go.Lq.q9 ?_ | refine Go.Lq.qa ?_ | refine Go.Lq.qb ?_ | refine Go.Lq.qc ?_ | refine Go.Lq.qd ?_ | refine Go.Lq.qe (by decide) ?_ | refine Go.Lq.qf ?_ | refine Go.Lq.qg ?_)); (refine aops_until (by simp (disch := first | exact List.all_nil | omega | (simp only [go_sem]; done) | (simp only [ln, List.length_map]; omega) | (repeat' first | assumption | exact Ext.refl _ | refine Ext.app ?_ _)) only [go_sem, hbx]; rfl) ?_); (repeat (first | refine Go.Lq.q1 ?_ | refine Go.Lq.q2 ?_ | refine Go.Lq.q3 ?_ | refine Go.Lq.q4 ?_ | refine Go.Lq.q5 ?_ | refine Go.Lq.q6 ?_ | refine Go.Lq.q7 ?_ | refine Go.Lq.q8 ?_ | refine Go.Lq.q9 ?_ | refine Go.Lq.qa ?_ | refine Go.Lq.qb ?_ | refine Go.Lq.qc ?_ | refine Go.Lq.qd ?_ | refine Go.Lq.qe (by decide) ?_ | refine Go.Lq.qf ?_ | refine Go.Lq.qg ?_)); (refine aops_until (by simp (disch := first | exact List.all_nil | omega | (simp only [go_sem]; done) | (simp only [ln, List.length_map]; omega) | (repeat' first | assumption | exact Ext.refl _ | refine Ext.app ?_ _)) only [go_sem, hl0, hix, hld _ hx, Nat.zero_add, Nat.add_zero]; rfl) ?_); (repeat (first | refine Go.Lq.q1 ?_ | refine Go.Lq.q2 ?_ | refine Go.Lq.q3 ?_ | refine Go.Lq.q4 ?_ | refine Go.Lq.q5 ?_ | refine Go.Lq.q6 ?_ | refine Go.Lq.q7 ?_ | refine Go.Lq.q8 ?_ | refine Go.Lq.q9 ?_ | refine Go.Lq.qa ?_ | refine Go.Lq.qb ?_ | refine Go.Lq.qc ?_ | refine Go.Lq.qd ?_ | refine Go.Lq.qe (by decide) ?_ | refine Go.Lq.qf ?_ | refine Go.Lq.qg ?_))
      exact fin_1 ⟨rfl, ⟨_, rfl⟩⟩
    · cases h
  · cases h

theorem awp_run {n : Nat} {c : RCode} {ar : Option Nat} {e e' : Env} {H H' : AHeap} {x : AExit} {lo : Nat} {Q : AExit → Env → AHeap → Prop}
    (h : run TA colO n (.code c ar e) H = some (x, e', H', lo)) (k : Q x e' H') : AWP Go.Proofs.Tryd.prog ar c Q e H :=
  CodeSound.awp (run_sound mo soundTA soundO n _ _ _ _ _ _ h).2 k

theorem awake0_c : ACall Go.Proofs.Tryd.prog 16 [] H0 fun v H => v = .bool true ∧ H = H0 := by
  refine ACall.drop (.bool _) ?_
  refine a16 ?_
  show AWP _ _ _ _ E0 H0
  refine awp_seq (awp_run awake0 ?_)
  refine awp_seq (awp_run awake1 ?_)
  refine awp_seq (awp_run awake2 ?_)
  refine awp_seq (awp_run awake3 ?_)
  refine awp_seq (awp_run awake4 ?_)
  refine awp_seq (awp_run awake5 ?_)
  refine awp_seq (awp_run awake6 ?_)
  refine awp_ret ?_
  refine fin_1 ⟨rfl, ?_⟩
  exact ⟨H7.drop 1, rfl⟩

theorem own0 : OwnHeap H0 := by
  intro i x hx
  match i with
  | 0 =>
    simp only [H0, List.getElem?_cons_zero, Option.some.injEq] at hx
    subst hx
    intro v hv
    simp only [List.mem_cons, List.not_mem_nil, or_false] at hv
    rcases hv with rfl | rfl | rfl | rfl | rfl | rfl | rfl | rfl | rfl | rfl | rfl | rfl | rfl | rfl | rfl <;> exact .int _ _
  | i + 1 => simp [H0] at hx

theorem globals_size : Go.Proofs.Tryd.prog.globals.size = 1 := by kernel_rfl

/-- The examples of the document hold, wherever the directions lie as they lie at the start. -/
theorem awake_c {H : AHeap} (h : Ext H0 H) : ACall Go.Proofs.Tryd.prog 16 [] H fun v H' => v = .bool true ∧ H' = H := by
  obtain ⟨M, rfl⟩ := h
  exact ACall.frame (by rw [globals_size]; decide) own0 (fun x hx => by cases hx) (.bool _) awake0_c M
end Go.Lq

namespace Go.Lq
open Go Go.ChangeShapes Go.WideShapes Go.ChangeAt Go.RowKit
open Go.Proofs

theorem own_knob : ownKnob Tryd.prog.godebug = none := by kernel_rfl
theorem laid_out : laidOutB Tryd.prog = true := by kernel_rfl
theorem gSides : Tryd.prog.globalNamed "lacquer/groove.sides" = some 0 := by kernel_rfl
theorem tSides : (Tryd.prog.globals[0]?).map (·.type) = some 192 := by kernel_rfl
def laidAll : List (String × DataW Unit) := [("lacquer/groove.sides", YtnciaodebdmfhaaDoor.Rows.laid_lacquer_groove_sides)]

/-- The door's own heap meets the condition. -/
theorem door_met (os : Os) (args : Array Value) : laidMetH Tryd.prog laidAll ((World.doorLaid Tryd.prog 400 os).forCall (fun _ _ => 0) ⟨#[], args, []⟩).memory :=
  laidMetH_of_parts3 (fuel := 8) (laidMet_of_run' 8 (by kernel_rfl) (by kernel_rfl)) (by kernel_rfl) (by kernel_rfl)

theorem door_shaped (os : Os) (args : Array Value) : ((World.doorLaid Tryd.prog 400 os).forCall (fun _ _ => 0) ⟨#[], args, []⟩).Shaped Tryd.prog := World.shaped_of_RefB (by kernel_rfl) (by kernel_rfl)
theorem looks0 : false = Tryd.prog.looks [] := by kernel_rfl
theorem main_is : Tryd.prog.mainIs = some (true, "5f68fd69e0af613bfa7fdf941acadd7d0a75623a0094cac3c296381243e153e3".toList) := by kernel_rfl

/-- What the condition gives. -/
theorem of_laid {W : World} (h : laidMetH Tryd.prog laidAll W) : Laid W [⟨0, 0, 0⟩] H0 := by
  rw [MakeChecks.laidMetH_plain _ _ _ (by kernel_rfl)] at h
  obtain ⟨ps, ⟨g0, t0, cs0, f0, p0, q0, hg0, ht0, hv0, hd0, _, _⟩, _, _⟩ := h
  obtain rfl := Option.some.inj (gSides.symm.trans hg0)
  obtain rfl := Option.some.inj (tSides.symm.trans ht0)
  have hcs := flat_of 5 _ _ _ _ hd0 (by kernel_rfl)
  unfold World.var? at hv0
  rw [gSides] at hv0
  simp only [Option.bind_some] at hv0
  split at hv0
  · rename_i cs t fz hh
    cases hv0
    refine Laid.table (Laid.none W) hh (hcs.symm.trans (by rfl)) (fun v hv => ?_) 3 0
    simp only [List.mem_cons, List.not_mem_nil, or_false] at hv
    rcases hv with rfl | rfl | rfl | rfl | rfl | rfl | rfl | rfl | rfl | rfl | rfl | rfl | rfl | rfl | rfl <;> exact .int _ _
  · cases hv0

theorem globs : Tryd.prog.globals.size ≤ H0.length := by rw [globals_size]; decide
theorem glob_at : ∀ g, g < Tryd.prog.globals.size → ∃ r, ([⟨0, 0, 0⟩] : List ALoc)[g]? = some ⟨g, 0, r⟩ := fun g hg => by
  rw [globals_size] at hg
  have : g = 0 := by omega
  subst this
  exact ⟨0, rfl⟩
end Go.Lq

namespace Go.Lq
open Go

section
variable {H : AHeap}

theorem within_c (n lo hi : Int) : ACall Go.Proofs.Tryd.prog 86 [.int .i64 n, .int .i64 lo, .int .i64 hi] H fun v H' => v = .bool (decide (lo ≤ n ∧ n ≤ hi)) ∧ H' = H := by
  (refine a86 ?_; simp only [n86, List.replicate, List.length_cons, List.length_nil, List.cons_append, List.nil_append])
  (repeat (first | refine q1 ?_ | refine q2 ?_ | refine q3 ?_ | refine q4 ?_ | refine q5 ?_ | refine q6 ?_ | refine q7 ?_ | refine q8 ?_ | refine q9 ?_ | refine qa ?_ | refine qb ?_ | refine qc ?_ | refine qd ?_ | refine qe (by decide) ?_ | refine qf ?_ | refine qg ?_)); (refine aops_until (by simp (disch := first | exact List.all_nil | omega | (simp only [go_sem]; done) | (simp only [ln, List.length_map]; omega) | (repeat' first | assumption | exact Ext.refl _ | refine Ext.app ?_ _)) only [go_sem]; rfl) ?_); (repeat (first | refine q1 ?_ | refine q2 ?_ | refine q3 ?_ | refine q4 ?_ | refine q5 ?_ | refine q6 ?_ | refine q7 ?_ | refine q8 ?_ | refine q9 ?_ | refine qa ?_ | refine qb ?_ | refine qc ?_ | refine qd ?_ | refine qe (by decide) ?_ | refine qf ?_ | refine qg ?_))
  by_cases h : lo ≤ n
  · (refine aops_until (by simp (disch := first | exact List.all_nil | omega | (simp only [go_sem]; done) | (simp only [ln, List.length_map]; omega) | (repeat' first | assumption | exact Ext.refl _ | refine Ext.app ?_ _)) only [go_sem, h]; rfl) ?_)
    (repeat (first | refine q1 ?_ | refine q2 ?_ | refine q3 ?_ | refine q4 ?_ | refine q5 ?_ | refine q6 ?_ | refine q7 ?_ | refine q8 ?_ | refine q9 ?_ | refine qa ?_ | refine qb ?_ | refine qc ?_ | refine qd ?_ | refine qe (by decide) ?_ | refine qf ?_ | refine qg ?_))
    refine fin_1 ⟨?_, rfl⟩
    simp [h]
  · (refine aops_until (by simp (disch := first | exact List.all_nil | omega | (simp only [go_sem]; done) | (simp only [ln, List.length_map]; omega) | (repeat' first | assumption | exact Ext.refl _ | refine Ext.app ?_ _)) only [go_sem, h]; rfl) ?_)
    (repeat (first | refine q1 ?_ | refine q2 ?_ | refine q3 ?_ | refine q4 ?_ | refine q5 ?_ | refine q6 ?_ | refine q7 ?_ | refine q8 ?_ | refine q9 ?_ | refine qa ?_ | refine qb ?_ | refine qc ?_ | refine qd ?_ | refine qe (by decide) ?_ | refine qf ?_ | refine qg ?_))
    refine fin_1 ⟨?_, rfl⟩
    simp [h]

theorem bwithin_c (n lo hi : Int) : ACall Go.Proofs.Tryd.prog 22 [.int .i64 n, .int .i64 lo, .int .i64 hi] H fun v H' => v = .bool (decide (lo ≤ n ∧ n ≤ hi)) ∧ H' = H := by
  (refine a22 ?_; simp only [n22, List.replicate, List.length_cons, List.length_nil, List.cons_append, List.nil_append])
  (repeat (first | refine q1 ?_ | refine q2 ?_ | refine q3 ?_ | refine q4 ?_ | refine q5 ?_ | refine q6 ?_ | refine q7 ?_ | refine q8 ?_ | refine q9 ?_ | refine qa ?_ | refine qb ?_ | refine qc ?_ | refine qd ?_ | refine qe (by decide) ?_ | refine qf ?_ | refine qg ?_)); (refine aops_until (by simp (disch := first | exact List.all_nil | omega | (simp only [go_sem]; done) | (simp only [ln, List.length_map]; omega) | (repeat' first | assumption | exact Ext.refl _ | refine Ext.app ?_ _)) only [go_sem]; rfl) ?_); (repeat (first | refine q1 ?_ | refine q2 ?_ | refine q3 ?_ | refine q4 ?_ | refine q5 ?_ | refine q6 ?_ | refine q7 ?_ | refine q8 ?_ | refine q9 ?_ | refine qa ?_ | refine qb ?_ | refine qc ?_ | refine qd ?_ | refine qe (by decide) ?_ | refine qf ?_ | refine qg ?_))
  by_cases h : lo ≤ n
  · (refine aops_until (by simp (disch := first | exact List.all_nil | omega | (simp only [go_sem]; done) | (simp only [ln, List.length_map]; omega) | (repeat' first | assumption | exact Ext.refl _ | refine Ext.app ?_ _)) only [go_sem, h]; rfl) ?_)
    (repeat (first | refine q1 ?_ | refine q2 ?_ | refine q3 ?_ | refine q4 ?_ | refine q5 ?_ | refine q6 ?_ | refine q7 ?_ | refine q8 ?_ | refine q9 ?_ | refine qa ?_ | refine qb ?_ | refine qc ?_ | refine qd ?_ | refine qe (by decide) ?_ | refine qf ?_ | refine qg ?_))
    refine fin_1 ⟨?_, rfl⟩
    simp [h]
  · (refine aops_until (by simp (disch := first | exact List.all_nil | omega | (simp only [go_sem]; done) | (simp only [ln, List.length_map]; omega) | (repeat' first | assumption | exact Ext.refl _ | refine Ext.app ?_ _)) only [go_sem, h]; rfl) ?_)
    (repeat (first | refine q1 ?_ | refine q2 ?_ | refine q3 ?_ | refine q4 ?_ | refine q5 ?_ | refine q6 ?_ | refine q7 ?_ | refine q8 ?_ | refine q9 ?_ | refine qa ?_ | refine qb ?_ | refine qc ?_ | refine qd ?_ | refine qe (by decide) ?_ | refine qf ?_ | refine qg ?_))
    refine fin_1 ⟨?_, rfl⟩
    simp [h]

theorem isSized_c (n m : Int) (hm : -9223372036854775807 ≤ m ∧ m ≤ 9223372036854775807) : ACall Go.Proofs.Tryd.prog 95 [.int .i64 n, .int .i64 m] H fun v H' => v = .bool (decide (-m ≤ n ∧ n ≤ m)) ∧ H' = H := by
  (refine a95 ?_; simp only [n95, List.replicate, List.length_cons, List.length_nil, List.cons_append, List.nil_append])
  (repeat (first | refine q1 ?_ | refine q2 ?_ | refine q3 ?_ | refine q4 ?_ | refine q5 ?_ | refine q6 ?_ | refine q7 ?_ | refine q8 ?_ | refine q9 ?_ | refine qa ?_ | refine qb ?_ | refine qc ?_ | refine qd ?_ | refine qe (by decide) ?_ | refine qf ?_ | refine qg ?_)); (refine aops_until (by simp (disch := first | exact List.all_nil | omega | (simp only [go_sem]; done) | (simp only [ln, List.length_map]; omega) | (repeat' first | assumption | exact Ext.refl _ | refine Ext.app ?_ _)) only [go_sem]; rfl) ?_); (repeat (first | refine q1 ?_ | refine q2 ?_ | refine q3 ?_ | refine q4 ?_ | refine q5 ?_ | refine q6 ?_ | refine q7 ?_ | refine q8 ?_ | refine q9 ?_ | refine qa ?_ | refine qb ?_ | refine qc ?_ | refine qd ?_ | refine qe (by decide) ?_ | refine qf ?_ | refine qg ?_))
  (refine aops_until (by simp (disch := first | exact List.all_nil | omega | (simp only [go_sem]; done) | (simp only [ln, List.length_map]; omega) | (repeat' first | assumption | exact Ext.refl _ | refine Ext.app ?_ _)) only [go_sem]; rfl) ?_)
  refine aops_call_to (within_c _ _ _) ?_
  (refine aops_until (by simp (disch := first | exact List.all_nil | omega | (simp only [go_sem]; done) | (simp only [ln, List.length_map]; omega) | (repeat' first | assumption | exact Ext.refl _ | refine Ext.app ?_ _)) only [go_sem]; rfl) ?_)
  (repeat (first | refine q1 ?_ | refine q2 ?_ | refine q3 ?_ | refine q4 ?_ | refine q5 ?_ | refine q6 ?_ | refine q7 ?_ | refine q8 ?_ | refine q9 ?_ | refine qa ?_ | refine qb ?_ | refine qc ?_ | refine qd ?_ | refine qe (by decide) ?_ | refine qf ?_ | refine qg ?_))
  refine fin_1 ⟨?_, rfl⟩
  simp

theorem unless_c (b : Bool) (e : Int) : ACall Go.Proofs.Tryd.prog 85 [.bool b, .int .i64 e] H fun v H' => v = .int .i64 (if b then 0 else e) ∧ H' = H := by
  (refine a85 ?_; simp only [n85, List.replicate, List.length_cons, List.length_nil, List.cons_append, List.nil_append])
  (repeat (first | refine q1 ?_ | refine q2 ?_ | refine q3 ?_ | refine q4 ?_ | refine q5 ?_ | refine q6 ?_ | refine q7 ?_ | refine q8 ?_ | refine q9 ?_ | refine qa ?_ | refine qb ?_ | refine qc ?_ | refine qd ?_ | refine qe (by decide) ?_ | refine qf ?_ | refine qg ?_)); (refine aops_until (by simp (disch := first | exact List.all_nil | omega | (simp only [go_sem]; done) | (simp only [ln, List.length_map]; omega) | (repeat' first | assumption | exact Ext.refl _ | refine Ext.app ?_ _)) only [go_sem]; rfl) ?_); (repeat (first | refine q1 ?_ | refine q2 ?_ | refine q3 ?_ | refine q4 ?_ | refine q5 ?_ | refine q6 ?_ | refine q7 ?_ | refine q8 ?_ | refine q9 ?_ | refine qa ?_ | refine qb ?_ | refine qc ?_ | refine qd ?_ | refine qe (by decide) ?_ | refine qf ?_ | refine qg ?_)); (refine aops_until (by simp (disch := first | exact List.all_nil | omega | (simp only [go_sem]; done) | (simp only [ln, List.length_map]; omega) | (repeat' first | assumption | exact Ext.refl _ | refine Ext.app ?_ _)) only [go_sem]; rfl) ?_); (repeat (first | refine q1 ?_ | refine q2 ?_ | refine q3 ?_ | refine q4 ?_ | refine q5 ?_ | refine q6 ?_ | refine q7 ?_ | refine q8 ?_ | refine q9 ?_ | refine qa ?_ | refine qb ?_ | refine qc ?_ | refine qd ?_ | refine qe (by decide) ?_ | refine qf ?_ | refine qg ?_))
  cases b with
  | true =>
    refine cond_t rfl ?_
    (repeat (first | refine q1 ?_ | refine q2 ?_ | refine q3 ?_ | refine q4 ?_ | refine q5 ?_ | refine q6 ?_ | refine q7 ?_ | refine q8 ?_ | refine q9 ?_ | refine qa ?_ | refine qb ?_ | refine qc ?_ | refine qd ?_ | refine qe (by decide) ?_ | refine qf ?_ | refine qg ?_)); (refine aops_until (by simp (disch := first | exact List.all_nil | omega | (simp only [go_sem]; done) | (simp only [ln, List.length_map]; omega) | (repeat' first | assumption | exact Ext.refl _ | refine Ext.app ?_ _)) only [go_sem]; rfl) ?_); (repeat (first | refine q1 ?_ | refine q2 ?_ | refine q3 ?_ | refine q4 ?_ | refine q5 ?_ | refine q6 ?_ | refine q7 ?_ | refine q8 ?_ | refine q9 ?_ | refine qa ?_ | refine qb ?_ | refine qc ?_ | refine qd ?_ | refine qe (by decide) ?_ | refine qf ?_ | refine qg ?_))
    exact fin_1 ⟨rfl, rfl⟩
  | false =>
    refine cond_f rfl ?_
    (repeat (first | refine q1 ?_ | refine q2 ?_ | refine q3 ?_ | refine q4 ?_ | refine q5 ?_ | refine q6 ?_ | refine q7 ?_ | refine q8 ?_ | refine q9 ?_ | refine qa ?_ | refine qb ?_ | refine qc ?_ | refine qd ?_ | refine qe (by decide) ?_ | refine qf ?_ | refine qg ?_)); (refine aops_until (by simp (disch := first | exact List.all_nil | omega | (simp only [go_sem]; done) | (simp only [ln, List.length_map]; omega) | (repeat' first | assumption | exact Ext.refl _ | refine Ext.app ?_ _)) only [go_sem]; rfl) ?_); (repeat (first | refine q1 ?_ | refine q2 ?_ | refine q3 ?_ | refine q4 ?_ | refine q5 ?_ | refine q6 ?_ | refine q7 ?_ | refine q8 ?_ | refine q9 ?_ | refine qa ?_ | refine qb ?_ | refine qc ?_ | refine qd ?_ | refine qe (by decide) ?_ | refine qf ?_ | refine qg ?_))
    exact fin_1 ⟨rfl, rfl⟩

/-- The first error. -/
def firstErr (l : List Int) : Int := (l.find? (fun e => decide (e ≠ 0))).getD 0

theorem firstErr_nil : firstErr [] = 0 := rfl
theorem firstErr_z (l : List Int) : firstErr (0 :: l) = firstErr l := by simp [firstErr]
theorem firstErr_e {e : Int} (h : e ≠ 0) (l : List Int) : firstErr (e :: l) = e := by simp [firstErr, h]
theorem ite_tt {α : Type} (a b : α) : (if true = true then a else b) = a := rfl
theorem ite_ft {α : Type} (a b : α) : (if false = true then a else b) = b := rfl
attribute [go_sem] firstErr_nil firstErr_z firstErr_e ite_tt ite_ft if_true if_false

theorem first_c {l : List Int} {v : Value} (hl : Ints H l v) (hb : l.length ≤ 1000000) : ACall Go.Proofs.Tryd.prog 84 [v] H fun v H' => v = .int .i64 (firstErr l) ∧ H' = H := by
  (refine a84 ?_; simp only [n84, List.replicate, List.length_cons, List.length_nil, List.cons_append, List.nil_append])
  (repeat (first | refine q1 ?_ | refine q2 ?_ | refine q3 ?_ | refine q4 ?_ | refine q5 ?_ | refine q6 ?_ | refine q7 ?_ | refine q8 ?_ | refine q9 ?_ | refine qa ?_ | refine qb ?_ | refine qc ?_ | refine qd ?_ | refine qe (by decide) ?_ | refine qf ?_ | refine qg ?_)); (refine aops_until (by simp (disch := first | exact List.all_nil | omega | (simp only [go_sem]; done) | (simp only [ln, List.length_map]; omega) | (repeat' first | assumption | exact Ext.refl _ | refine Ext.app ?_ _)) only [go_sem]; rfl) ?_); (repeat (first | refine q1 ?_ | refine q2 ?_ | refine q3 ?_ | refine q4 ?_ | refine q5 ?_ | refine q6 ?_ | refine q7 ?_ | refine q8 ?_ | refine q9 ?_ | refine qa ?_ | refine qb ?_ | refine qc ?_ | refine qd ?_ | refine qe (by decide) ?_ | refine qf ?_ | refine qg ?_)); (refine aops_until (by simp (disch := first | exact List.all_nil | omega | (simp only [go_sem]; done) | (simp only [ln, List.length_map]; omega) | (repeat' first | assumption | exact Ext.refl _ | refine Ext.app ?_ _)) only [go_sem, hl.len, hl.idx, hl.load]; rfl) ?_); (repeat (first | refine q1 ?_ | refine q2 ?_ | refine q3 ?_ | refine q4 ?_ | refine q5 ?_ | refine q6 ?_ | refine q7 ?_ | refine q8 ?_ | refine q9 ?_ | refine qa ?_ | refine qb ?_ | refine qc ?_ | refine qd ?_ | refine qe (by decide) ?_ | refine qf ?_ | refine qg ?_))
  refine awp_loop_n [true, false, true, false, false, true, true, true, false, false, false, false, false, false, false] l.length (fun i e H' => H' = H ∧ e = [v, junk, .int .i64 0, junk, junk, v, .int .i64 l.length, .int .i64 i, junk, junk, junk, junk, junk, junk, junk] ∧ ∀ j < i, l.getD j 0 = 0) ?_ ?_
  · exact ⟨rfl, rfl, by omega⟩
  · rintro i e H' hi ⟨rfl, rfl, hp⟩
    (repeat (first | refine q1 ?_ | refine q2 ?_ | refine q3 ?_ | refine q4 ?_ | refine q5 ?_ | refine q6 ?_ | refine q7 ?_ | refine q8 ?_ | refine q9 ?_ | refine qa ?_ | refine qb ?_ | refine qc ?_ | refine qd ?_ | refine qe (by decide) ?_ | refine qf ?_ | refine qg ?_)); (refine aops_until (by simp (disch := first | exact List.all_nil | omega | (simp only [go_sem]; done) | (simp only [ln, List.length_map]; omega) | (repeat' first | assumption | exact Ext.refl _ | refine Ext.app ?_ _)) only [go_sem, hl.len, hl.idx, hl.load]; rfl) ?_); (repeat (first | refine q1 ?_ | refine q2 ?_ | refine q3 ?_ | refine q4 ?_ | refine q5 ?_ | refine q6 ?_ | refine q7 ?_ | refine q8 ?_ | refine q9 ?_ | refine qa ?_ | refine qb ?_ | refine qc ?_ | refine qd ?_ | refine qe (by decide) ?_ | refine qf ?_ | refine qg ?_))
    refine cond_p rfl (fun hlt => ?_) (fun hge => ?_)
    · (repeat (first | refine q1 ?_ | refine q2 ?_ | refine q3 ?_ | refine q4 ?_ | refine q5 ?_ | refine q6 ?_ | refine q7 ?_ | refine q8 ?_ | refine q9 ?_ | refine qa ?_ | refine qb ?_ | refine qc ?_ | refine qd ?_ | refine qe (by decide) ?_ | refine qf ?_ | refine qg ?_)); (refine aops_until (by simp (disch := first | exact List.all_nil | omega | (simp only [go_sem]; done) | (simp only [ln, List.length_map]; omega) | (repeat' first | assumption | exact Ext.refl _ | refine Ext.app ?_ _)) only [go_sem, hl.len, hl.idx, hl.load]; rfl) ?_); (repeat (first | refine q1 ?_ | refine q2 ?_ | refine q3 ?_ | refine q4 ?_ | refine q5 ?_ | refine q6 ?_ | refine q7 ?_ | refine q8 ?_ | refine q9 ?_ | refine qa ?_ | refine qb ?_ | refine qc ?_ | refine qd ?_ | refine qe (by decide) ?_ | refine qf ?_ | refine qg ?_)); (refine aops_until (by simp (disch := first | exact List.all_nil | omega | (simp only [go_sem]; done) | (simp only [ln, List.length_map]; omega) | (repeat' first | assumption | exact Ext.refl _ | refine Ext.app ?_ _)) only [go_sem]; rfl) ?_); (repeat (first | refine q1 ?_ | refine q2 ?_ | refine q3 ?_ | refine q4 ?_ | refine q5 ?_ | refine q6 ?_ | refine q7 ?_ | refine q8 ?_ | refine q9 ?_ | refine qa ?_ | refine qb ?_ | refine qc ?_ | refine qd ?_ | refine qe (by decide) ?_ | refine qf ?_ | refine qg ?_))
      refine cond_p rfl (fun hne => ?_) (fun heq => ?_)
      · (repeat (first | refine q1 ?_ | refine q2 ?_ | refine q3 ?_ | refine q4 ?_ | refine q5 ?_ | refine q6 ?_ | refine q7 ?_ | refine q8 ?_ | refine q9 ?_ | refine qa ?_ | refine qb ?_ | refine qc ?_ | refine qd ?_ | refine qe (by decide) ?_ | refine qf ?_ | refine qg ?_)); (refine aops_until (by simp (disch := first | exact List.all_nil | omega | (simp only [go_sem]; done) | (simp only [ln, List.length_map]; omega) | (repeat' first | assumption | exact Ext.refl _ | refine Ext.app ?_ _)) only [go_sem]; rfl) ?_); (repeat (first | refine q1 ?_ | refine q2 ?_ | refine q3 ?_ | refine q4 ?_ | refine q5 ?_ | refine q6 ?_ | refine q7 ?_ | refine q8 ?_ | refine q9 ?_ | refine qa ?_ | refine qb ?_ | refine qc ?_ | refine qd ?_ | refine qe (by decide) ?_ | refine qf ?_ | refine qg ?_))
        refine fin_1 ⟨?_, rfl⟩
        unfold firstErr
        rw [find_at (d := 0) (i := i) (by omega) (fun j hj => by simpa using hp j hj) (by simpa using hne)]
        rfl
      · (repeat (first | refine q1 ?_ | refine q2 ?_ | refine q3 ?_ | refine q4 ?_ | refine q5 ?_ | refine q6 ?_ | refine q7 ?_ | refine q8 ?_ | refine q9 ?_ | refine qa ?_ | refine qb ?_ | refine qc ?_ | refine qd ?_ | refine qe (by decide) ?_ | refine qf ?_ | refine qg ?_)); (refine aops_until (by simp (disch := first | exact List.all_nil | omega | (simp only [go_sem]; done) | (simp only [ln, List.length_map]; omega) | (repeat' first | assumption | exact Ext.refl _ | refine Ext.app ?_ _)) only [go_sem]; rfl) ?_); (repeat (first | refine q1 ?_ | refine q2 ?_ | refine q3 ?_ | refine q4 ?_ | refine q5 ?_ | refine q6 ?_ | refine q7 ?_ | refine q8 ?_ | refine q9 ?_ | refine qa ?_ | refine qb ?_ | refine qc ?_ | refine qd ?_ | refine qe (by decide) ?_ | refine qf ?_ | refine qg ?_))
        refine ⟨by omega, rfl, ?_, fun j hj => ?_⟩
        · simp [forget]
        · by_cases h : j = i
          · subst h; simpa using heq
          · exact hp j (by omega)
    · (repeat (first | refine q1 ?_ | refine q2 ?_ | refine q3 ?_ | refine q4 ?_ | refine q5 ?_ | refine q6 ?_ | refine q7 ?_ | refine q8 ?_ | refine q9 ?_ | refine qa ?_ | refine qb ?_ | refine qc ?_ | refine qd ?_ | refine qe (by decide) ?_ | refine qf ?_ | refine qg ?_)); (refine aops_until (by simp (disch := first | exact List.all_nil | omega | (simp only [go_sem]; done) | (simp only [ln, List.length_map]; omega) | (repeat' first | assumption | exact Ext.refl _ | refine Ext.app ?_ _)) only [go_sem]; rfl) ?_); (repeat (first | refine q1 ?_ | refine q2 ?_ | refine q3 ?_ | refine q4 ?_ | refine q5 ?_ | refine q6 ?_ | refine q7 ?_ | refine q8 ?_ | refine q9 ?_ | refine qa ?_ | refine qb ?_ | refine qc ?_ | refine qd ?_ | refine qe (by decide) ?_ | refine qf ?_ | refine qg ?_))
      refine fin_1 ⟨?_, rfl⟩
      unfold firstErr
      rw [find_none (d := 0) (fun j hj => by simpa using hp j (by omega))]
      rfl

/-- A function value that answers of numbers by p, and leaves the heap. -/
def Asks (fv : Value) (p : Int → Bool) : Prop := ∀ n H, AInvoke Go.Proofs.Tryd.prog fv [.int .i64 n] H fun v H' => v = .bool (p n) ∧ H' = H

theorem indexFunc_c {l : List Int} {v fv : Value} {p : Int → Bool} (hl : Ints H l v) (hf : Asks fv p) (hb : l.length ≤ 1000000000) :
    ACall Go.Proofs.Tryd.prog 133 [v, fv] H fun v H' => (∃ i : Int, v = .int .i64 i ∧ (l.any p = decide (0 ≤ i))) ∧ H' = H := by
  (refine a133 ?_; simp only [n133, List.replicate, List.length_cons, List.length_nil, List.cons_append, List.nil_append])
  (repeat (first | refine q1 ?_ | refine q2 ?_ | refine q3 ?_ | refine q4 ?_ | refine q5 ?_ | refine q6 ?_ | refine q7 ?_ | refine q8 ?_ | refine q9 ?_ | refine qa ?_ | refine qb ?_ | refine qc ?_ | refine qd ?_ | refine qe (by decide) ?_ | refine qf ?_ | refine qg ?_)); (refine aops_until (by simp (disch := first | exact List.all_nil | omega | (simp only [go_sem]; done) | (simp only [ln, List.length_map]; omega) | (repeat' first | assumption | exact Ext.refl _ | refine Ext.app ?_ _)) only [go_sem]; rfl) ?_); (repeat (first | refine q1 ?_ | refine q2 ?_ | refine q3 ?_ | refine q4 ?_ | refine q5 ?_ | refine q6 ?_ | refine q7 ?_ | refine q8 ?_ | refine q9 ?_ | refine qa ?_ | refine qb ?_ | refine qc ?_ | refine qd ?_ | refine qe (by decide) ?_ | refine qf ?_ | refine qg ?_)); (refine aops_until (by simp (disch := first | exact List.all_nil | omega | (simp only [go_sem]; done) | (simp only [ln, List.length_map]; omega) | (repeat' first | assumption | exact Ext.refl _ | refine Ext.app ?_ _)) only [go_sem, hl.len, hl.idx, hl.load]; rfl) ?_); (repeat (first | refine q1 ?_ | refine q2 ?_ | refine q3 ?_ | refine q4 ?_ | refine q5 ?_ | refine q6 ?_ | refine q7 ?_ | refine q8 ?_ | refine q9 ?_ | refine qa ?_ | refine qb ?_ | refine qc ?_ | refine qd ?_ | refine qe (by decide) ?_ | refine qf ?_ | refine qg ?_))
  refine awp_loop_n [true, true, false, false, true, false, true, true, true, false, false, false, false, false, false, false, false, false, false] l.length (fun i e H' => H' = H ∧ e = [v, fv, junk, junk, .int .i64 0, junk, v, .int .i64 l.length, .int .i64 i, junk, junk, junk, junk, junk, junk, junk, junk, junk, junk] ∧ ∀ j < i, p (l.getD j 0) = false) ?_ ?_
  · exact ⟨rfl, rfl, by omega⟩
  · rintro i e H' hi ⟨rfl, rfl, hp⟩
    (repeat (first | refine q1 ?_ | refine q2 ?_ | refine q3 ?_ | refine q4 ?_ | refine q5 ?_ | refine q6 ?_ | refine q7 ?_ | refine q8 ?_ | refine q9 ?_ | refine qa ?_ | refine qb ?_ | refine qc ?_ | refine qd ?_ | refine qe (by decide) ?_ | refine qf ?_ | refine qg ?_)); (refine aops_until (by simp (disch := first | exact List.all_nil | omega | (simp only [go_sem]; done) | (simp only [ln, List.length_map]; omega) | (repeat' first | assumption | exact Ext.refl _ | refine Ext.app ?_ _)) only [go_sem, hl.len, hl.idx, hl.load]; rfl) ?_); (repeat (first | refine q1 ?_ | refine q2 ?_ | refine q3 ?_ | refine q4 ?_ | refine q5 ?_ | refine q6 ?_ | refine q7 ?_ | refine q8 ?_ | refine q9 ?_ | refine qa ?_ | refine qb ?_ | refine qc ?_ | refine qd ?_ | refine qe (by decide) ?_ | refine qf ?_ | refine qg ?_))
    refine cond_p rfl (fun hlt => ?_) (fun hge => ?_)
    · (repeat (first | refine q1 ?_ | refine q2 ?_ | refine q3 ?_ | refine q4 ?_ | refine q5 ?_ | refine q6 ?_ | refine q7 ?_ | refine q8 ?_ | refine q9 ?_ | refine qa ?_ | refine qb ?_ | refine qc ?_ | refine qd ?_ | refine qe (by decide) ?_ | refine qf ?_ | refine qg ?_)); (refine aops_until (by simp (disch := first | exact List.all_nil | omega | (simp only [go_sem]; done) | (simp only [ln, List.length_map]; omega) | (repeat' first | assumption | exact Ext.refl _ | refine Ext.app ?_ _)) only [go_sem, hl.len, hl.idx, hl.load]; rfl) ?_); (repeat (first | refine q1 ?_ | refine q2 ?_ | refine q3 ?_ | refine q4 ?_ | refine q5 ?_ | refine q6 ?_ | refine q7 ?_ | refine q8 ?_ | refine q9 ?_ | refine qa ?_ | refine qb ?_ | refine qc ?_ | refine qd ?_ | refine qe (by decide) ?_ | refine qf ?_ | refine qg ?_)); (refine aops_until (by simp (disch := first | exact List.all_nil | omega | (simp only [go_sem]; done) | (simp only [ln, List.length_map]; omega) | (repeat' first | assumption | exact Ext.refl _ | refine Ext.app ?_ _)) only [go_sem, hl.len, hl.idx, hl.load]; rfl) ?_)
      refine aops_call_to (hf _ _) ?_
      (refine aops_until (by simp (disch := first | exact List.all_nil | omega | (simp only [go_sem]; done) | (simp only [ln, List.length_map]; omega) | (repeat' first | assumption | exact Ext.refl _ | refine Ext.app ?_ _)) only [go_sem]; rfl) ?_); (repeat (first | refine q1 ?_ | refine q2 ?_ | refine q3 ?_ | refine q4 ?_ | refine q5 ?_ | refine q6 ?_ | refine q7 ?_ | refine q8 ?_ | refine q9 ?_ | refine qa ?_ | refine qb ?_ | refine qc ?_ | refine qd ?_ | refine qe (by decide) ?_ | refine qf ?_ | refine qg ?_))
      cases hq : p (l.getD i 0) with
      | true =>
        refine cond_t (by rw [← hq]; rfl) ?_
        (repeat (first | refine q1 ?_ | refine q2 ?_ | refine q3 ?_ | refine q4 ?_ | refine q5 ?_ | refine q6 ?_ | refine q7 ?_ | refine q8 ?_ | refine q9 ?_ | refine qa ?_ | refine qb ?_ | refine qc ?_ | refine qd ?_ | refine qe (by decide) ?_ | refine qf ?_ | refine qg ?_)); (refine aops_until (by simp (disch := first | exact List.all_nil | omega | (simp only [go_sem]; done) | (simp only [ln, List.length_map]; omega) | (repeat' first | assumption | exact Ext.refl _ | refine Ext.app ?_ _)) only [go_sem]; rfl) ?_); (repeat (first | refine q1 ?_ | refine q2 ?_ | refine q3 ?_ | refine q4 ?_ | refine q5 ?_ | refine q6 ?_ | refine q7 ?_ | refine q8 ?_ | refine q9 ?_ | refine qa ?_ | refine qb ?_ | refine qc ?_ | refine qd ?_ | refine qe (by decide) ?_ | refine qf ?_ | refine qg ?_))
        refine fin_1 ⟨⟨i, rfl, ?_⟩, rfl⟩
        rw [any_at (d := 0) (i := i) (by omega) hq]
        simp
      | false =>
        refine cond_f (by rw [← hq]; rfl) ?_
        (repeat (first | refine q1 ?_ | refine q2 ?_ | refine q3 ?_ | refine q4 ?_ | refine q5 ?_ | refine q6 ?_ | refine q7 ?_ | refine q8 ?_ | refine q9 ?_ | refine qa ?_ | refine qb ?_ | refine qc ?_ | refine qd ?_ | refine qe (by decide) ?_ | refine qf ?_ | refine qg ?_)); (refine aops_until (by simp (disch := first | exact List.all_nil | omega | (simp only [go_sem]; done) | (simp only [ln, List.length_map]; omega) | (repeat' first | assumption | exact Ext.refl _ | refine Ext.app ?_ _)) only [go_sem]; rfl) ?_); (repeat (first | refine q1 ?_ | refine q2 ?_ | refine q3 ?_ | refine q4 ?_ | refine q5 ?_ | refine q6 ?_ | refine q7 ?_ | refine q8 ?_ | refine q9 ?_ | refine qa ?_ | refine qb ?_ | refine qc ?_ | refine qd ?_ | refine qe (by decide) ?_ | refine qf ?_ | refine qg ?_))
        refine ⟨by omega, rfl, ?_, fun j hj => ?_⟩
        · simp [forget]
        · by_cases h : j = i
          · subst h; exact hq
          · exact hp j (by omega)
    · (repeat (first | refine q1 ?_ | refine q2 ?_ | refine q3 ?_ | refine q4 ?_ | refine q5 ?_ | refine q6 ?_ | refine q7 ?_ | refine q8 ?_ | refine q9 ?_ | refine qa ?_ | refine qb ?_ | refine qc ?_ | refine qd ?_ | refine qe (by decide) ?_ | refine qf ?_ | refine qg ?_)); (refine aops_until (by simp (disch := first | exact List.all_nil | omega | (simp only [go_sem]; done) | (simp only [ln, List.length_map]; omega) | (repeat' first | assumption | exact Ext.refl _ | refine Ext.app ?_ _)) only [go_sem]; rfl) ?_); (repeat (first | refine q1 ?_ | refine q2 ?_ | refine q3 ?_ | refine q4 ?_ | refine q5 ?_ | refine q6 ?_ | refine q7 ?_ | refine q8 ?_ | refine q9 ?_ | refine qa ?_ | refine qb ?_ | refine qc ?_ | refine qd ?_ | refine qe (by decide) ?_ | refine qf ?_ | refine qg ?_))
      refine fin_1 ⟨⟨-1, rfl, ?_⟩, rfl⟩
      rw [any_none (d := 0) fun j hj => hp j (by omega)]
      simp

theorem containsFunc_c {l : List Int} {v fv : Value} {p : Int → Bool} (hl : Ints H l v) (hf : Asks fv p) (hb : l.length ≤ 1000000000) :
    ACall Go.Proofs.Tryd.prog 115 [v, fv] H fun v H' => v = .bool (l.any p) ∧ H' = H := by
  (refine a115 ?_; simp only [n115, List.replicate, List.length_cons, List.length_nil, List.cons_append, List.nil_append])
  (repeat (first | refine q1 ?_ | refine q2 ?_ | refine q3 ?_ | refine q4 ?_ | refine q5 ?_ | refine q6 ?_ | refine q7 ?_ | refine q8 ?_ | refine q9 ?_ | refine qa ?_ | refine qb ?_ | refine qc ?_ | refine qd ?_ | refine qe (by decide) ?_ | refine qf ?_ | refine qg ?_)); (refine aops_until (by simp (disch := first | exact List.all_nil | omega | (simp only [go_sem]; done) | (simp only [ln, List.length_map]; omega) | (repeat' first | assumption | exact Ext.refl _ | refine Ext.app ?_ _)) only [go_sem]; rfl) ?_); (repeat (first | refine q1 ?_ | refine q2 ?_ | refine q3 ?_ | refine q4 ?_ | refine q5 ?_ | refine q6 ?_ | refine q7 ?_ | refine q8 ?_ | refine q9 ?_ | refine qa ?_ | refine qb ?_ | refine qc ?_ | refine qd ?_ | refine qe (by decide) ?_ | refine qf ?_ | refine qg ?_)); (refine aops_until (by simp (disch := first | exact List.all_nil | omega | (simp only [go_sem]; done) | (simp only [ln, List.length_map]; omega) | (repeat' first | assumption | exact Ext.refl _ | refine Ext.app ?_ _)) only [go_sem]; rfl) ?_)
  refine aops_call ((indexFunc_c hl hf hb).mono fun v1 H1 ⟨⟨i, h1, h2⟩, h3⟩ => ?_)
  subst h1; subst h3
  (refine aops_until (by simp (disch := first | exact List.all_nil | omega | (simp only [go_sem]; done) | (simp only [ln, List.length_map]; omega) | (repeat' first | assumption | exact Ext.refl _ | refine Ext.app ?_ _)) only [go_sem]; rfl) ?_); (repeat (first | refine q1 ?_ | refine q2 ?_ | refine q3 ?_ | refine q4 ?_ | refine q5 ?_ | refine q6 ?_ | refine q7 ?_ | refine q8 ?_ | refine q9 ?_ | refine qa ?_ | refine qb ?_ | refine qc ?_ | refine qd ?_ | refine qe (by decide) ?_ | refine qf ?_ | refine qg ?_))
  refine fin_1 ⟨?_, rfl⟩
  simp [h2]

def sizedB (m n : Int) : Bool := decide (-m ≤ n ∧ n ≤ m)

end
end Go.Lq

namespace Go.Lq
open Go

section
variable {H : AHeap}

theorem copyInts_c {l : List Int} {v : Value} (hl : Ints H l v) (hb : l.length ≤ 1000000000) :
    ACall Go.Proofs.Tryd.prog 32 [v] H fun v H1 => v = .slice (some ⟨H.length, 0, none⟩) l.length l.length ∧ H1 = H ++ [.cells true 1 (l.map (.int .i64))] := by
  refine ACall.tidyE (f := id) (sz := 1) (n := l.length) (vs := l.map (.int .i64)) wraps_id (closed_ints l) ?_
  (refine a32 ?_; simp only [n32, List.replicate, List.length_cons, List.length_nil, List.cons_append, List.nil_append])
  rcases hl with ⟨h1, h2⟩
  rcases h2 with ⟨rfl, hn⟩ | ⟨id, off, c, rfl, hc⟩
  · have : l = [] := List.length_eq_zero_iff.1 hn
    subst this
    have ha : appendA 1 8 (H ++ [.cells true 1 []]) (.slice (some ⟨H.length, 0, none⟩) 0 0) (.slice none 0 0) = some (.slice (some ⟨H.length, 0, none⟩) 0 0, H ++ [.cells true 1 []]) := rfl
    ((repeat (first | refine q1 ?_ | refine q2 ?_ | refine q3 ?_ | refine q4 ?_ | refine q5 ?_ | refine q6 ?_ | refine q7 ?_ | refine q8 ?_ | refine q9 ?_ | refine qa ?_ | refine qb ?_ | refine qc ?_ | refine qd ?_ | refine qe (by decide) ?_ | refine qf ?_ | refine qg ?_ | ((first | apply aops_all | apply adraw_all); (simp (disch := first | exact List.all_nil | omega | (simp only [go_sem]; done) | (simp only [ln, List.length_map]; omega) | (repeat' first | assumption | exact Ext.refl _ | refine Ext.app ?_ _)) only [go_sem, ha]; rfl)))); (try ((first | apply aops_until | apply adraw_until); (simp (disch := first | exact List.all_nil | omega | (simp only [go_sem]; done) | (simp only [ln, List.length_map]; omega) | (repeat' first | assumption | exact Ext.refl _ | refine Ext.app ?_ _)) only [go_sem, ha]; rfl))))
    exact fin_1 ⟨_, H.length, rfl, ⟨_, rfl⟩, rfl, Nat.le_refl _, by simp⟩
  · by_cases hn : l.length = 0
    · have : l = [] := List.length_eq_zero_iff.1 hn
      subst this
      have ha : appendA 1 8 (H ++ [.cells true 1 []]) (.slice (some ⟨H.length, 0, none⟩) 0 0) (.slice (some ⟨id, off, none⟩) ([] : List Int).length c) = some (.slice (some ⟨H.length, 0, none⟩) 0 0, H ++ [.cells true 1 []]) := rfl
      ((repeat (first | refine q1 ?_ | refine q2 ?_ | refine q3 ?_ | refine q4 ?_ | refine q5 ?_ | refine q6 ?_ | refine q7 ?_ | refine q8 ?_ | refine q9 ?_ | refine qa ?_ | refine qb ?_ | refine qc ?_ | refine qd ?_ | refine qe (by decide) ?_ | refine qf ?_ | refine qg ?_ | ((first | apply aops_all | apply adraw_all); (simp (disch := first | exact List.all_nil | omega | (simp only [go_sem]; done) | (simp only [ln, List.length_map]; omega) | (repeat' first | assumption | exact Ext.refl _ | refine Ext.app ?_ _)) only [go_sem, ha]; rfl)))); (try ((first | apply aops_until | apply adraw_until); (simp (disch := first | exact List.all_nil | omega | (simp only [go_sem]; done) | (simp only [ln, List.length_map]; omega) | (repeat' first | assumption | exact Ext.refl _ | refine Ext.app ?_ _)) only [go_sem, ha]; rfl))))
      exact fin_1 ⟨_, H.length, rfl, ⟨_, rfl⟩, rfl, Nat.le_refl _, by simp⟩
    · have ha : appendA 1 8 (H ++ [.cells true 1 []]) (.slice (some ⟨H.length, 0, none⟩) 0 0) (.slice (some ⟨id, off, none⟩) l.length c) =
          some (.slice (some ⟨(H ++ [AObj.cells true 1 []]).length, 0, none⟩) l.length l.length, (H ++ [.cells true 1 []]) ++ [.cells true 1 (l.map (.int .i64))]) := by
        obtain ⟨k, hk⟩ : ∃ k, l.length = k + 1 := ⟨l.length - 1, by omega⟩
        have hc' := cellsAt_ext ⟨[AObj.cells true 1 []], rfl⟩ (hc (by omega))
        have hr : roomOk 8 (0 + l.length) = true := roomOk_of (by omega) (by omega)
        rw [hk] at hc' hr ⊢
        simp only [appendA, hc', isAtom_ints, hr, and_self, if_true]
      ((repeat (first | refine q1 ?_ | refine q2 ?_ | refine q3 ?_ | refine q4 ?_ | refine q5 ?_ | refine q6 ?_ | refine q7 ?_ | refine q8 ?_ | refine q9 ?_ | refine qa ?_ | refine qb ?_ | refine qc ?_ | refine qd ?_ | refine qe (by decide) ?_ | refine qf ?_ | refine qg ?_ | ((first | apply aops_all | apply adraw_all); (simp (disch := first | exact List.all_nil | omega | (simp only [go_sem]; done) | (simp only [ln, List.length_map]; omega) | (repeat' first | assumption | exact Ext.refl _ | refine Ext.app ?_ _)) only [go_sem, ha]; rfl)))); (try ((first | apply aops_until | apply adraw_until); (simp (disch := first | exact List.all_nil | omega | (simp only [go_sem]; done) | (simp only [ln, List.length_map]; omega) | (repeat' first | assumption | exact Ext.refl _ | refine Ext.app ?_ _)) only [go_sem, ha]; rfl))))
      refine fin_1 ?_
      exact ⟨_, (H ++ [AObj.cells true 1 []]).length, rfl, ⟨_, List.append_assoc _ _ _⟩, rfl, by simp, by simp⟩

theorem bints_c {a b : List Int} {va vb : Value} (ha : Ints H a va) (hb : Ints H b vb) (hl : a.length ≤ 1000000000) (_ : b.length ≤ 1000000000) : ACall Go.Proofs.Tryd.prog 28 [va, vb] H fun v H' => v = .bool (decide (a = b)) ∧ H' = H := by
  (refine a28 ?_; simp only [n28, List.replicate, List.length_cons, List.length_nil, List.cons_append, List.nil_append])
  ((repeat (first | refine q1 ?_ | refine q2 ?_ | refine q3 ?_ | refine q4 ?_ | refine q5 ?_ | refine q6 ?_ | refine q7 ?_ | refine q8 ?_ | refine q9 ?_ | refine qa ?_ | refine qb ?_ | refine qc ?_ | refine qd ?_ | refine qe (by decide) ?_ | refine qf ?_ | refine qg ?_ | ((first | apply aops_all | apply adraw_all); (simp (disch := first | exact List.all_nil | omega | (simp only [go_sem]; done) | (simp only [ln, List.length_map]; omega) | (repeat' first | assumption | exact Ext.refl _ | refine Ext.app ?_ _)) only [go_sem, ha.len, ha.idx, ha.load, hb.len, hb.idx, hb.load]; rfl)))); (try ((first | apply aops_until | apply adraw_until); (simp (disch := first | exact List.all_nil | omega | (simp only [go_sem]; done) | (simp only [ln, List.length_map]; omega) | (repeat' first | assumption | exact Ext.refl _ | refine Ext.app ?_ _)) only [go_sem, ha.len, ha.idx, ha.load, hb.len, hb.idx, hb.load]; rfl))))
  refine cond_p rfl (fun hlt => ?_) (fun hge => ?_)
  · ((repeat (first | refine q1 ?_ | refine q2 ?_ | refine q3 ?_ | refine q4 ?_ | refine q5 ?_ | refine q6 ?_ | refine q7 ?_ | refine q8 ?_ | refine q9 ?_ | refine qa ?_ | refine qb ?_ | refine qc ?_ | refine qd ?_ | refine qe (by decide) ?_ | refine qf ?_ | refine qg ?_ | ((first | apply aops_all | apply adraw_all); (simp (disch := first | exact List.all_nil | omega | (simp only [go_sem]; done) | (simp only [ln, List.length_map]; omega) | (repeat' first | assumption | exact Ext.refl _ | refine Ext.app ?_ _)) only [go_sem]; rfl)))); (try ((first | apply aops_until | apply adraw_until); (simp (disch := first | exact List.all_nil | omega | (simp only [go_sem]; done) | (simp only [ln, List.length_map]; omega) | (repeat' first | assumption | exact Ext.refl _ | refine Ext.app ?_ _)) only [go_sem]; rfl))))
    refine fin_1 ⟨?_, rfl⟩
    have : a ≠ b := fun h => hlt (by rw [h])
    simp [this]
  · ((repeat (first | refine q1 ?_ | refine q2 ?_ | refine q3 ?_ | refine q4 ?_ | refine q5 ?_ | refine q6 ?_ | refine q7 ?_ | refine q8 ?_ | refine q9 ?_ | refine qa ?_ | refine qb ?_ | refine qc ?_ | refine qd ?_ | refine qe (by decide) ?_ | refine qf ?_ | refine qg ?_ | ((first | apply aops_all | apply adraw_all); (simp (disch := first | exact List.all_nil | omega | (simp only [go_sem]; done) | (simp only [ln, List.length_map]; omega) | (repeat' first | assumption | exact Ext.refl _ | refine Ext.app ?_ _)) only [go_sem]; rfl)))); (try ((first | apply aops_until | apply adraw_until); (simp (disch := first | exact List.all_nil | omega | (simp only [go_sem]; done) | (simp only [ln, List.length_map]; omega) | (repeat' first | assumption | exact Ext.refl _ | refine Ext.app ?_ _)) only [go_sem]; rfl))))
    have hlen : a.length = b.length := by omega
    refine awp_loop_n [true, true, false, false, false, true, false, false, false, false, false, false, false, false, false, false, false, false, false, false, false, false, false, false, false, false] a.length (fun i e H' => H' = H ∧ e = [va, vb, junk, junk, junk, .int .i64 i, junk, junk, junk, junk, junk, junk, junk, junk, junk, junk, junk, junk, junk, junk, junk, junk, junk, junk, junk, junk] ∧ ∀ j < i, a.getD j 0 = b.getD j 0) ?_ ?_
    · exact ⟨rfl, rfl, by omega⟩
    · rintro i e H' hi ⟨rfl, rfl, hp⟩
      ((repeat (first | refine q1 ?_ | refine q2 ?_ | refine q3 ?_ | refine q4 ?_ | refine q5 ?_ | refine q6 ?_ | refine q7 ?_ | refine q8 ?_ | refine q9 ?_ | refine qa ?_ | refine qb ?_ | refine qc ?_ | refine qd ?_ | refine qe (by decide) ?_ | refine qf ?_ | refine qg ?_ | ((first | apply aops_all | apply adraw_all); (simp (disch := first | exact List.all_nil | omega | (simp only [go_sem]; done) | (simp only [ln, List.length_map]; omega) | (repeat' first | assumption | exact Ext.refl _ | refine Ext.app ?_ _)) only [go_sem, ha.len, ha.idx, ha.load, hb.len, hb.idx, hb.load]; rfl)))); (try ((first | apply aops_until | apply adraw_until); (simp (disch := first | exact List.all_nil | omega | (simp only [go_sem]; done) | (simp only [ln, List.length_map]; omega) | (repeat' first | assumption | exact Ext.refl _ | refine Ext.app ?_ _)) only [go_sem, ha.len, ha.idx, ha.load, hb.len, hb.idx, hb.load]; rfl))))
      refine cond_p rfl (fun hlt => ?_) (fun hge => ?_)
      · ((repeat (first | refine q1 ?_ | refine q2 ?_ | refine q3 ?_ | refine q4 ?_ | refine q5 ?_ | refine q6 ?_ | refine q7 ?_ | refine q8 ?_ | refine q9 ?_ | refine qa ?_ | refine qb ?_ | refine qc ?_ | refine qd ?_ | refine qe (by decide) ?_ | refine qf ?_ | refine qg ?_ | ((first | apply aops_all | apply adraw_all); (simp (disch := first | exact List.all_nil | omega | (simp only [go_sem]; done) | (simp only [ln, List.length_map]; omega) | (repeat' first | assumption | exact Ext.refl _ | refine Ext.app ?_ _)) only [go_sem, ha.len, ha.idx, ha.load, hb.len, hb.idx, hb.load]; rfl)))); (try ((first | apply aops_until | apply adraw_until); (simp (disch := first | exact List.all_nil | omega | (simp only [go_sem]; done) | (simp only [ln, List.length_map]; omega) | (repeat' first | assumption | exact Ext.refl _ | refine Ext.app ?_ _)) only [go_sem, ha.len, ha.idx, ha.load, hb.len, hb.idx, hb.load]; rfl))))
        refine cond_p rfl (fun hne => ?_) (fun heq => ?_)
        · ((repeat (first | refine q1 ?_ | refine q2 ?_ | refine q3 ?_ | refine q4 ?_ | refine q5 ?_ | refine q6 ?_ | refine q7 ?_ | refine q8 ?_ | refine q9 ?_ | refine qa ?_ | refine qb ?_ | refine qc ?_ | refine qd ?_ | refine qe (by decide) ?_ | refine qf ?_ | refine qg ?_ | ((first | apply aops_all | apply adraw_all); (simp (disch := first | exact List.all_nil | omega | (simp only [go_sem]; done) | (simp only [ln, List.length_map]; omega) | (repeat' first | assumption | exact Ext.refl _ | refine Ext.app ?_ _)) only [go_sem]; rfl)))); (try ((first | apply aops_until | apply adraw_until); (simp (disch := first | exact List.all_nil | omega | (simp only [go_sem]; done) | (simp only [ln, List.length_map]; omega) | (repeat' first | assumption | exact Ext.refl _ | refine Ext.app ?_ _)) only [go_sem]; rfl))))
          refine fin_1 ⟨?_, rfl⟩
          have : a ≠ b := fun h => hne (by rw [h])
          simp [this]
        · ((repeat (first | refine q1 ?_ | refine q2 ?_ | refine q3 ?_ | refine q4 ?_ | refine q5 ?_ | refine q6 ?_ | refine q7 ?_ | refine q8 ?_ | refine q9 ?_ | refine qa ?_ | refine qb ?_ | refine qc ?_ | refine qd ?_ | refine qe (by decide) ?_ | refine qf ?_ | refine qg ?_ | ((first | apply aops_all | apply adraw_all); (simp (disch := first | exact List.all_nil | omega | (simp only [go_sem]; done) | (simp only [ln, List.length_map]; omega) | (repeat' first | assumption | exact Ext.refl _ | refine Ext.app ?_ _)) only [go_sem]; rfl)))); (try ((first | apply aops_until | apply adraw_until); (simp (disch := first | exact List.all_nil | omega | (simp only [go_sem]; done) | (simp only [ln, List.length_map]; omega) | (repeat' first | assumption | exact Ext.refl _ | refine Ext.app ?_ _)) only [go_sem]; rfl))))
          refine ⟨by omega, rfl, by simp [forget], fun j hj => ?_⟩
          by_cases h : j = i
          · subst h; simpa using heq
          · exact hp j (by omega)
      · ((repeat (first | refine q1 ?_ | refine q2 ?_ | refine q3 ?_ | refine q4 ?_ | refine q5 ?_ | refine q6 ?_ | refine q7 ?_ | refine q8 ?_ | refine q9 ?_ | refine qa ?_ | refine qb ?_ | refine qc ?_ | refine qd ?_ | refine qe (by decide) ?_ | refine qf ?_ | refine qg ?_ | ((first | apply aops_all | apply adraw_all); (simp (disch := first | exact List.all_nil | omega | (simp only [go_sem]; done) | (simp only [ln, List.length_map]; omega) | (repeat' first | assumption | exact Ext.refl _ | refine Ext.app ?_ _)) only [go_sem]; rfl)))); (try ((first | apply aops_until | apply adraw_until); (simp (disch := first | exact List.all_nil | omega | (simp only [go_sem]; done) | (simp only [ln, List.length_map]; omega) | (repeat' first | assumption | exact Ext.refl _ | refine Ext.app ?_ _)) only [go_sem]; rfl))))
        refine fin_1 ⟨?_, rfl⟩
        have : a = b := ext_getD (d := 0) hlen fun j hj => hp j (by omega)
        simp [this]
end
theorem firstD {P : Program} {G : AHeap} {f : FuncId} {args : List Value} {v : Value} (h : ACall P f args G fun v1 H1 => v1 = v ∧ H1 = G) : ACall P f args G fun v1 H1 => v1 = v ∧ H1 = G ++ [] :=
  h.mono fun _ _ ⟨a, b⟩ => ⟨a, by simp [b]⟩

end Go.Lq


namespace Go.Lq
open Go
open Go.Proofs

section
variable {H : AHeap}

theorem copyLists_c {ll : List (List Int)} {vs : List Value} {v : Value} (hL : Lists H ll vs v) (hb : ll.length ≤ 1000000) (hr : ∀ i, i < ll.length → (ll.getD i []).length ≤ 1000000) :
    ACall Go.Proofs.Tryd.prog 44 [v] H fun v' H' => OwnL H H' ll v' ∧ Ext H H' := by
  (refine a44 ?_; simp only [n44, List.replicate, List.length_cons, List.length_nil, List.cons_append, List.nil_append])
  ((repeat (first | refine q1 ?_ | refine q2 ?_ | refine q3 ?_ | refine q4 ?_ | refine q5 ?_ | refine q6 ?_ | refine q7 ?_ | refine q8 ?_ | refine q9 ?_ | refine qa ?_ | refine qb ?_ | refine qc ?_ | refine qd ?_ | refine qe (by decide) ?_ | refine qf ?_ | refine qg ?_ | ((first | apply aops_all | apply adraw_all); (simp (disch := first | exact List.all_nil | omega | (simp only [go_sem]; done) | (simp only [ln, List.length_map]; omega) | (repeat' first | assumption | exact Ext.refl _ | refine Ext.app ?_ _)) only [go_sem]; rfl)))); (try ((first | apply aops_until | apply adraw_until); (simp (disch := first | exact List.all_nil | omega | (simp only [go_sem]; done) | (simp only [ln, List.length_map]; omega) | (repeat' first | assumption | exact Ext.refl _ | refine Ext.app ?_ _)) only [go_sem]; rfl))))
  refine awp_loop_n [true, false, false, true, true, false, false, false, false, false, false, false, false, false, false, false, false, false, false, false] ll.length (fun i e H' => ∃ v1, e = [v, junk, junk, v1, .int .i64 i, junk, junk, junk, junk, junk, junk, junk, junk, junk, junk, junk, junk, junk, junk, junk] ∧ OwnL H H' (ll.take i) v1 ∧ Ext H H') ?_ ?_
  · exact ⟨_, by simp [forget], OwnL.nil _ _, Ext.refl _⟩
  rintro i e H1 hi ⟨v1, rfl, ho, hx⟩
  have hL1 := hL.ext hx
  ((repeat (first | refine q1 ?_ | refine q2 ?_ | refine q3 ?_ | refine q4 ?_ | refine q5 ?_ | refine q6 ?_ | refine q7 ?_ | refine q8 ?_ | refine q9 ?_ | refine qa ?_ | refine qb ?_ | refine qc ?_ | refine qd ?_ | refine qe (by decide) ?_ | refine qf ?_ | refine qg ?_ | ((first | apply aops_all | apply adraw_all); (simp (disch := first | exact List.all_nil | omega | (simp only [go_sem]; done) | (simp only [ln, List.length_map]; omega) | (repeat' first | assumption | exact Ext.refl _ | refine Ext.app ?_ _)) only [go_sem, hL1.len, hL1.idx, hL1.load]; rfl)))); (try ((first | apply aops_until | apply adraw_until); (simp (disch := first | exact List.all_nil | omega | (simp only [go_sem]; done) | (simp only [ln, List.length_map]; omega) | (repeat' first | assumption | exact Ext.refl _ | refine Ext.app ?_ _)) only [go_sem, hL1.len, hL1.idx, hL1.load]; rfl))))
  refine cond_p rfl (fun hlt => ?_) (fun hge => ?_)
  · have hi' : i < ll.length := by omega
    ((repeat (first | refine q1 ?_ | refine q2 ?_ | refine q3 ?_ | refine q4 ?_ | refine q5 ?_ | refine q6 ?_ | refine q7 ?_ | refine q8 ?_ | refine q9 ?_ | refine qa ?_ | refine qb ?_ | refine qc ?_ | refine qd ?_ | refine qe (by decide) ?_ | refine qf ?_ | refine qg ?_ | ((first | apply aops_all | apply adraw_all); (simp (disch := first | exact List.all_nil | omega | (simp only [go_sem]; done) | (simp only [ln, List.length_map]; omega) | (repeat' first | assumption | exact Ext.refl _ | refine Ext.app ?_ _)) only [go_sem, hL1.len, hL1.idx, hL1.load]; rfl)))); (try ((first | apply aops_until | apply adraw_until); (simp (disch := first | exact List.all_nil | omega | (simp only [go_sem]; done) | (simp only [ln, List.length_map]; omega) | (repeat' first | assumption | exact Ext.refl _ | refine Ext.app ?_ _)) only [go_sem, hL1.len, hL1.idx, hL1.load]; rfl))))
    refine aops_call ((copyInts_c (hL1.row hi') (by have := hr i hi'; omega)).mono fun v2 H2 h => ?_)
    obtain ⟨rfl, rfl⟩ := h
    obtain ⟨v3, H3, ha, ho3, hx3⟩ := ho.push hx (by simp; omega) (ll.getD i [])
    ((repeat (first | refine q1 ?_ | refine q2 ?_ | refine q3 ?_ | refine q4 ?_ | refine q5 ?_ | refine q6 ?_ | refine q7 ?_ | refine q8 ?_ | refine q9 ?_ | refine qa ?_ | refine qb ?_ | refine qc ?_ | refine qd ?_ | refine qe (by decide) ?_ | refine qf ?_ | refine qg ?_ | ((first | apply aops_all | apply adraw_all); (simp (disch := first | exact List.all_nil | omega | (simp only [go_sem]; done) | (simp only [ln, List.length_map]; omega) | (repeat' first | assumption | exact Ext.refl _ | refine Ext.app ?_ _)) only [go_sem, ha, fillA_slice, isAtom_slice]; rfl)))); (try ((first | apply aops_until | apply adraw_until); (simp (disch := first | exact List.all_nil | omega | (simp only [go_sem]; done) | (simp only [ln, List.length_map]; omega) | (repeat' first | assumption | exact Ext.refl _ | refine Ext.app ?_ _)) only [go_sem, ha, fillA_slice, isAtom_slice]; rfl))))
    refine ⟨by omega, v3, by simp [forget], ?_, hx3⟩
    rw [take_succ_getD (d := []) hi']; exact ho3
  · have hit : ll.take i = ll := List.take_of_length_le (by omega)
    rw [hit] at ho
    ((repeat (first | refine q1 ?_ | refine q2 ?_ | refine q3 ?_ | refine q4 ?_ | refine q5 ?_ | refine q6 ?_ | refine q7 ?_ | refine q8 ?_ | refine q9 ?_ | refine qa ?_ | refine qb ?_ | refine qc ?_ | refine qd ?_ | refine qe (by decide) ?_ | refine qf ?_ | refine qg ?_ | ((first | apply aops_all | apply adraw_all); (simp (disch := first | exact List.all_nil | omega | (simp only [go_sem]; done) | (simp only [ln, List.length_map]; omega) | (repeat' first | assumption | exact Ext.refl _ | refine Ext.app ?_ _)) only [go_sem]; rfl)))); (try ((first | apply aops_until | apply adraw_until); (simp (disch := first | exact List.all_nil | omega | (simp only [go_sem]; done) | (simp only [ln, List.length_map]; omega) | (repeat' first | assumption | exact Ext.refl _ | refine Ext.app ?_ _)) only [go_sem]; rfl))))
    exact fin_1 ⟨ho, hx⟩

end
end Go.Lq

namespace Go.Lq
open Go
open Go.Proofs

def gridRow (w : Nat) (r : List Int) : Int := if r.length = w then (if r.all (fun n => decide (0 ≤ n ∧ n ≤ 255)) then 0 else 2) else 10
def gridGo (w : Nat) : List (List Int) → Int
  | [] => 0
  | r :: t => if gridRow w r = 0 then gridGo w t else gridRow w r
def gridErrL (rows cols : Int) (ll : List (List Int)) : Int :=
  if ll.length = 0 ∨ (ll.getD 0 []).length = 0 then 10 else if rows < ll.length ∨ cols < (ll.getD 0 []).length then 8 else gridGo (ll.getD 0 []).length ll
theorem gridGo_step {w : Nat} {ll : List (List Int)} {i : Nat} (h : i < ll.length) : gridGo w (ll.drop i) = if gridRow w (ll.getD i []) = 0 then gridGo w (ll.drop (i + 1)) else gridRow w (ll.getD i []) := by
  rw [drop_getD (d := []) h]; rfl
theorem gridGo_end {w : Nat} {ll : List (List Int)} {i : Nat} (h : ll.length ≤ i) : gridGo w (ll.drop i) = 0 := by rw [drop_end h]; rfl
theorem gridGo_all {w : Nat} : ∀ {ll : List (List Int)}, gridGo w ll = 0 → ∀ i, i < ll.length → gridRow w (ll.getD i []) = 0
  | [], _, i, hi => by simp at hi
  | r :: t, h, i, hi => by
    unfold gridGo at h
    by_cases hr : gridRow w r = 0
    · rw [if_pos hr] at h
      cases i with
      | zero => exact hr
      | succ i => simpa using gridGo_all h i (by simpa using hi)
    · rw [if_neg hr] at h; exact absurd h hr

section
variable {H : AHeap}
theorem grid_c {ll : List (List Int)} {vs : List Value} {v : Value} {rows cols : Int} (hL : Lists H ll vs v) (_hb : ll.length ≤ maxLen) (h1 : 0 ≤ rows ∧ rows ≤ 1000) (h2 : 0 ≤ cols ∧ cols ≤ 1000) :
    ACall Go.Proofs.Tryd.prog 56 [v, .int .i64 rows, .int .i64 cols] H fun v1 H1 => v1 = .bool (decide ((ll.length : Int) ≤ rows + 2 ∧ ∀ i : Nat, i < ll.length → ((ll.getD i []).length : Int) ≤ cols + 2)) ∧ H1 = H := by
  (refine a56 ?_; simp only [n56, List.replicate, List.length_cons, List.length_nil, List.cons_append, List.nil_append])
  ((repeat (first | refine q1 ?_ | refine q2 ?_ | refine q3 ?_ | refine q4 ?_ | refine q5 ?_ | refine q6 ?_ | refine q7 ?_ | refine q8 ?_ | refine q9 ?_ | refine qa ?_ | refine qb ?_ | refine qc ?_ | refine qd ?_ | refine qe (by decide) ?_ | refine qf ?_ | refine qg ?_ | ((first | apply aops_all | apply adraw_all); (simp (disch := first | exact List.all_nil | omega | (simp only [go_sem]; done) | (simp only [ln, List.length_map]; omega) | (repeat' first | assumption | exact Ext.refl _ | refine Ext.app ?_ _)) only [go_sem, hL.len, hL.idx, hL.load]; rfl)))); (try ((first | apply aops_until | apply adraw_until); (simp (disch := first | exact List.all_nil | omega | (simp only [go_sem]; done) | (simp only [ln, List.length_map]; omega) | (repeat' first | assumption | exact Ext.refl _ | refine Ext.app ?_ _)) only [go_sem, hL.len, hL.idx, hL.load]; rfl))))
  refine cond_p rfl (fun hl => ?_) (fun hl => ?_)
  · ((repeat (first | refine q1 ?_ | refine q2 ?_ | refine q3 ?_ | refine q4 ?_ | refine q5 ?_ | refine q6 ?_ | refine q7 ?_ | refine q8 ?_ | refine q9 ?_ | refine qa ?_ | refine qb ?_ | refine qc ?_ | refine qd ?_ | refine qe (by decide) ?_ | refine qf ?_ | refine qg ?_ | ((first | apply aops_all | apply adraw_all); (simp (disch := first | exact List.all_nil | omega | (simp only [go_sem]; done) | (simp only [ln, List.length_map]; omega) | (repeat' first | assumption | exact Ext.refl _ | refine Ext.app ?_ _)) only [go_sem]; rfl)))); (try ((first | apply aops_until | apply adraw_until); (simp (disch := first | exact List.all_nil | omega | (simp only [go_sem]; done) | (simp only [ln, List.length_map]; omega) | (repeat' first | assumption | exact Ext.refl _ | refine Ext.app ?_ _)) only [go_sem]; rfl))))
    exact fin_1 ⟨congrArg Value.bool (dec_f (fun h => by have := h.1; omega)).symm, rfl⟩
  ((repeat (first | refine q1 ?_ | refine q2 ?_ | refine q3 ?_ | refine q4 ?_ | refine q5 ?_ | refine q6 ?_ | refine q7 ?_ | refine q8 ?_ | refine q9 ?_ | refine qa ?_ | refine qb ?_ | refine qc ?_ | refine qd ?_ | refine qe (by decide) ?_ | refine qf ?_ | refine qg ?_ | ((first | apply aops_all | apply adraw_all); (simp (disch := first | exact List.all_nil | omega | (simp only [go_sem]; done) | (simp only [ln, List.length_map]; omega) | (repeat' first | assumption | exact Ext.refl _ | refine Ext.app ?_ _)) only [go_sem]; rfl)))); (try ((first | apply aops_until | apply adraw_until); (simp (disch := first | exact List.all_nil | omega | (simp only [go_sem]; done) | (simp only [ln, List.length_map]; omega) | (repeat' first | assumption | exact Ext.refl _ | refine Ext.app ?_ _)) only [go_sem]; rfl))))
  refine awp_loop_n [true, true, true, false, false, false, false, true, false, false, false, false, false, false, false, false, false, false, false, false, false, false, false, false, false, false, false] ll.length (fun i e H' => H = H' ∧ e = [v, .int .i64 rows, .int .i64 cols, junk, junk, junk, junk, .int .i64 i, junk, junk, junk, junk, junk, junk, junk, junk, junk, junk, junk, junk, junk, junk, junk, junk, junk, junk, junk] ∧ ∀ j : Nat, j < i → ((ll.getD j []).length : Int) ≤ cols + 2) ?_ ?_
  · exact ⟨rfl, by simp [forget], by omega⟩
  rintro i e H1 hi ⟨rfl, rfl, hbef⟩
  ((repeat (first | refine q1 ?_ | refine q2 ?_ | refine q3 ?_ | refine q4 ?_ | refine q5 ?_ | refine q6 ?_ | refine q7 ?_ | refine q8 ?_ | refine q9 ?_ | refine qa ?_ | refine qb ?_ | refine qc ?_ | refine qd ?_ | refine qe (by decide) ?_ | refine qf ?_ | refine qg ?_ | ((first | apply aops_all | apply adraw_all); (simp (disch := first | exact List.all_nil | omega | (simp only [go_sem]; done) | (simp only [ln, List.length_map]; omega) | (repeat' first | assumption | exact Ext.refl _ | refine Ext.app ?_ _)) only [go_sem, hL.len, hL.idx, hL.load]; rfl)))); (try ((first | apply aops_until | apply adraw_until); (simp (disch := first | exact List.all_nil | omega | (simp only [go_sem]; done) | (simp only [ln, List.length_map]; omega) | (repeat' first | assumption | exact Ext.refl _ | refine Ext.app ?_ _)) only [go_sem, hL.len, hL.idx, hL.load]; rfl))))
  refine cond_p rfl (fun hlt => ?_) (fun hge => ?_)
  · have hi' : i < ll.length := by omega
    have hrow := hL.row hi'
    ((repeat (first | refine q1 ?_ | refine q2 ?_ | refine q3 ?_ | refine q4 ?_ | refine q5 ?_ | refine q6 ?_ | refine q7 ?_ | refine q8 ?_ | refine q9 ?_ | refine qa ?_ | refine qb ?_ | refine qc ?_ | refine qd ?_ | refine qe (by decide) ?_ | refine qf ?_ | refine qg ?_ | ((first | apply aops_all | apply adraw_all); (simp (disch := first | exact List.all_nil | omega | (simp only [go_sem]; done) | (simp only [ln, List.length_map]; omega) | (repeat' first | assumption | exact Ext.refl _ | refine Ext.app ?_ _)) only [go_sem, hL.len, hL.idx, hL.load, hrow.len, hrow.idx, hrow.load]; rfl)))); (try ((first | apply aops_until | apply adraw_until); (simp (disch := first | exact List.all_nil | omega | (simp only [go_sem]; done) | (simp only [ln, List.length_map]; omega) | (repeat' first | assumption | exact Ext.refl _ | refine Ext.app ?_ _)) only [go_sem, hL.len, hL.idx, hL.load, hrow.len, hrow.idx, hrow.load]; rfl))))
    refine cond_p rfl (fun hw => ?_) (fun hw => ?_)
    · ((repeat (first | refine q1 ?_ | refine q2 ?_ | refine q3 ?_ | refine q4 ?_ | refine q5 ?_ | refine q6 ?_ | refine q7 ?_ | refine q8 ?_ | refine q9 ?_ | refine qa ?_ | refine qb ?_ | refine qc ?_ | refine qd ?_ | refine qe (by decide) ?_ | refine qf ?_ | refine qg ?_ | ((first | apply aops_all | apply adraw_all); (simp (disch := first | exact List.all_nil | omega | (simp only [go_sem]; done) | (simp only [ln, List.length_map]; omega) | (repeat' first | assumption | exact Ext.refl _ | refine Ext.app ?_ _)) only [go_sem]; rfl)))); (try ((first | apply aops_until | apply adraw_until); (simp (disch := first | exact List.all_nil | omega | (simp only [go_sem]; done) | (simp only [ln, List.length_map]; omega) | (repeat' first | assumption | exact Ext.refl _ | refine Ext.app ?_ _)) only [go_sem]; rfl))))
      exact fin_1 ⟨congrArg Value.bool (dec_f (fun h => by have := h.2 i hi'; omega)).symm, rfl⟩
    · ((repeat (first | refine q1 ?_ | refine q2 ?_ | refine q3 ?_ | refine q4 ?_ | refine q5 ?_ | refine q6 ?_ | refine q7 ?_ | refine q8 ?_ | refine q9 ?_ | refine qa ?_ | refine qb ?_ | refine qc ?_ | refine qd ?_ | refine qe (by decide) ?_ | refine qf ?_ | refine qg ?_ | ((first | apply aops_all | apply adraw_all); (simp (disch := first | exact List.all_nil | omega | (simp only [go_sem]; done) | (simp only [ln, List.length_map]; omega) | (repeat' first | assumption | exact Ext.refl _ | refine Ext.app ?_ _)) only [go_sem]; rfl)))); (try ((first | apply aops_until | apply adraw_until); (simp (disch := first | exact List.all_nil | omega | (simp only [go_sem]; done) | (simp only [ln, List.length_map]; omega) | (repeat' first | assumption | exact Ext.refl _ | refine Ext.app ?_ _)) only [go_sem]; rfl))))
      refine ⟨by omega, rfl, by simp [forget], fun j hj => ?_⟩
      by_cases hji : j = i
      · subst hji; omega
      · exact hbef j (by omega)
  · ((repeat (first | refine q1 ?_ | refine q2 ?_ | refine q3 ?_ | refine q4 ?_ | refine q5 ?_ | refine q6 ?_ | refine q7 ?_ | refine q8 ?_ | refine q9 ?_ | refine qa ?_ | refine qb ?_ | refine qc ?_ | refine qd ?_ | refine qe (by decide) ?_ | refine qf ?_ | refine qg ?_ | ((first | apply aops_all | apply adraw_all); (simp (disch := first | exact List.all_nil | omega | (simp only [go_sem]; done) | (simp only [ln, List.length_map]; omega) | (repeat' first | assumption | exact Ext.refl _ | refine Ext.app ?_ _)) only [go_sem]; rfl)))); (try ((first | apply aops_until | apply adraw_until); (simp (disch := first | exact List.all_nil | omega | (simp only [go_sem]; done) | (simp only [ln, List.length_map]; omega) | (repeat' first | assumption | exact Ext.refl _ | refine Ext.app ?_ _)) only [go_sem]; rfl))))
    exact fin_1 ⟨congrArg Value.bool (dec_t ⟨by omega, fun j hj => hbef j (by omega)⟩).symm, rfl⟩

theorem refGridErr_c {ll : List (List Int)} {vs : List Value} {v : Value} {rows cols : Int} (hL : Lists H ll vs v) (hb : ll.length ≤ 1000000000) (hr : ∀ i, i < ll.length → (ll.getD i []).length ≤ 1000000000) :
    ACall Go.Proofs.Tryd.prog 83 [v, .int .i64 rows, .int .i64 cols] H fun v1 H1 => v1 = .int .i64 (gridErrL rows cols ll) ∧ H1 = H := by
  (refine a83 ?_; simp only [n83, List.replicate, List.length_cons, List.length_nil, List.cons_append, List.nil_append])
  have z0 : (0 : Int).toNat = 0 := rfl
  by_cases h0 : ll.length = 0
  · have e1 : gridErrL rows cols ll = 10 := by unfold gridErrL; rw [if_pos (.inl h0)]
    ((repeat (first | refine q1 ?_ | refine q2 ?_ | refine q3 ?_ | refine q4 ?_ | refine q5 ?_ | refine q6 ?_ | refine q7 ?_ | refine q8 ?_ | refine q9 ?_ | refine qa ?_ | refine qb ?_ | refine qc ?_ | refine qd ?_ | refine qe (by decide) ?_ | refine qf ?_ | refine qg ?_ | ((first | apply aops_all | apply adraw_all); (simp (disch := first | exact List.all_nil | omega | (simp only [go_sem]; done) | (simp only [ln, List.length_map]; omega) | (repeat' first | assumption | exact Ext.refl _ | refine Ext.app ?_ _)) only [go_sem, hL.len, hL.idx, hL.load, dec_t (show (ll.length : Int) = 0 by omega)]; rfl)))); (try ((first | apply aops_until | apply adraw_until); (simp (disch := first | exact List.all_nil | omega | (simp only [go_sem]; done) | (simp only [ln, List.length_map]; omega) | (repeat' first | assumption | exact Ext.refl _ | refine Ext.app ?_ _)) only [go_sem, hL.len, hL.idx, hL.load, dec_t (show (ll.length : Int) = 0 by omega)]; rfl))))
    refine cond_t rfl ?_
    ((repeat (first | refine q1 ?_ | refine q2 ?_ | refine q3 ?_ | refine q4 ?_ | refine q5 ?_ | refine q6 ?_ | refine q7 ?_ | refine q8 ?_ | refine q9 ?_ | refine qa ?_ | refine qb ?_ | refine qc ?_ | refine qd ?_ | refine qe (by decide) ?_ | refine qf ?_ | refine qg ?_ | ((first | apply aops_all | apply adraw_all); (simp (disch := first | exact List.all_nil | omega | (simp only [go_sem]; done) | (simp only [ln, List.length_map]; omega) | (repeat' first | assumption | exact Ext.refl _ | refine Ext.app ?_ _)) only [go_sem]; rfl)))); (try ((first | apply aops_until | apply adraw_until); (simp (disch := first | exact List.all_nil | omega | (simp only [go_sem]; done) | (simp only [ln, List.length_map]; omega) | (repeat' first | assumption | exact Ext.refl _ | refine Ext.app ?_ _)) only [go_sem]; rfl))))
    exact fin_1 ⟨by rw [e1]; rfl, rfl⟩
  have hrow0 := hL.row (k := 0) (by omega)
  by_cases h1 : (ll.getD 0 []).length = 0
  · have e1 : gridErrL rows cols ll = 10 := by unfold gridErrL; rw [if_pos (.inr h1)]
    ((repeat (first | refine q1 ?_ | refine q2 ?_ | refine q3 ?_ | refine q4 ?_ | refine q5 ?_ | refine q6 ?_ | refine q7 ?_ | refine q8 ?_ | refine q9 ?_ | refine qa ?_ | refine qb ?_ | refine qc ?_ | refine qd ?_ | refine qe (by decide) ?_ | refine qf ?_ | refine qg ?_ | ((first | apply aops_all | apply adraw_all); (simp (disch := first | exact List.all_nil | omega | (simp only [go_sem]; done) | (simp only [ln, List.length_map]; omega) | (repeat' first | assumption | exact Ext.refl _ | refine Ext.app ?_ _)) only [go_sem, hL.len, hL.idx, hL.load, hrow0.len, hrow0.idx, hrow0.load, z0, dec_f (show ¬ (ll.length : Int) = 0 by omega), dec_t (show ((ll.getD 0 []).length : Int) = 0 by omega)]; rfl)))); (try ((first | apply aops_until | apply adraw_until); (simp (disch := first | exact List.all_nil | omega | (simp only [go_sem]; done) | (simp only [ln, List.length_map]; omega) | (repeat' first | assumption | exact Ext.refl _ | refine Ext.app ?_ _)) only [go_sem, hL.len, hL.idx, hL.load, hrow0.len, hrow0.idx, hrow0.load, z0, dec_f (show ¬ (ll.length : Int) = 0 by omega), dec_t (show ((ll.getD 0 []).length : Int) = 0 by omega)]; rfl))))
    refine cond_t rfl ?_
    ((repeat (first | refine q1 ?_ | refine q2 ?_ | refine q3 ?_ | refine q4 ?_ | refine q5 ?_ | refine q6 ?_ | refine q7 ?_ | refine q8 ?_ | refine q9 ?_ | refine qa ?_ | refine qb ?_ | refine qc ?_ | refine qd ?_ | refine qe (by decide) ?_ | refine qf ?_ | refine qg ?_ | ((first | apply aops_all | apply adraw_all); (simp (disch := first | exact List.all_nil | omega | (simp only [go_sem]; done) | (simp only [ln, List.length_map]; omega) | (repeat' first | assumption | exact Ext.refl _ | refine Ext.app ?_ _)) only [go_sem]; rfl)))); (try ((first | apply aops_until | apply adraw_until); (simp (disch := first | exact List.all_nil | omega | (simp only [go_sem]; done) | (simp only [ln, List.length_map]; omega) | (repeat' first | assumption | exact Ext.refl _ | refine Ext.app ?_ _)) only [go_sem]; rfl))))
    exact fin_1 ⟨by rw [e1]; rfl, rfl⟩
  ((repeat (first | refine q1 ?_ | refine q2 ?_ | refine q3 ?_ | refine q4 ?_ | refine q5 ?_ | refine q6 ?_ | refine q7 ?_ | refine q8 ?_ | refine q9 ?_ | refine qa ?_ | refine qb ?_ | refine qc ?_ | refine qd ?_ | refine qe (by decide) ?_ | refine qf ?_ | refine qg ?_ | ((first | apply aops_all | apply adraw_all); (simp (disch := first | exact List.all_nil | omega | (simp only [go_sem]; done) | (simp only [ln, List.length_map]; omega) | (repeat' first | assumption | exact Ext.refl _ | refine Ext.app ?_ _)) only [go_sem, hL.len, hL.idx, hL.load, hrow0.len, hrow0.idx, hrow0.load, z0, dec_f (show ¬ (ll.length : Int) = 0 by omega), dec_f (show ¬ ((ll.getD 0 []).length : Int) = 0 by omega)]; rfl)))); (try ((first | apply aops_until | apply adraw_until); (simp (disch := first | exact List.all_nil | omega | (simp only [go_sem]; done) | (simp only [ln, List.length_map]; omega) | (repeat' first | assumption | exact Ext.refl _ | refine Ext.app ?_ _)) only [go_sem, hL.len, hL.idx, hL.load, hrow0.len, hrow0.idx, hrow0.load, z0, dec_f (show ¬ (ll.length : Int) = 0 by omega), dec_f (show ¬ ((ll.getD 0 []).length : Int) = 0 by omega)]; rfl))))
  refine cond_f rfl ?_
  have g0 : ¬ (ll.length = 0 ∨ (ll.getD 0 []).length = 0) := by omega
  by_cases h2 : rows < ll.length
  · have e1 : gridErrL rows cols ll = 8 := by unfold gridErrL; rw [if_neg g0, if_pos (.inl h2)]
    ((repeat (first | refine q1 ?_ | refine q2 ?_ | refine q3 ?_ | refine q4 ?_ | refine q5 ?_ | refine q6 ?_ | refine q7 ?_ | refine q8 ?_ | refine q9 ?_ | refine qa ?_ | refine qb ?_ | refine qc ?_ | refine qd ?_ | refine qe (by decide) ?_ | refine qf ?_ | refine qg ?_ | ((first | apply aops_all | apply adraw_all); (simp (disch := first | exact List.all_nil | omega | (simp only [go_sem]; done) | (simp only [ln, List.length_map]; omega) | (repeat' first | assumption | exact Ext.refl _ | refine Ext.app ?_ _)) only [go_sem, hL.len, hL.idx, hL.load, dec_t h2]; rfl)))); (try ((first | apply aops_until | apply adraw_until); (simp (disch := first | exact List.all_nil | omega | (simp only [go_sem]; done) | (simp only [ln, List.length_map]; omega) | (repeat' first | assumption | exact Ext.refl _ | refine Ext.app ?_ _)) only [go_sem, hL.len, hL.idx, hL.load, dec_t h2]; rfl))))
    refine cond_t rfl ?_
    ((repeat (first | refine q1 ?_ | refine q2 ?_ | refine q3 ?_ | refine q4 ?_ | refine q5 ?_ | refine q6 ?_ | refine q7 ?_ | refine q8 ?_ | refine q9 ?_ | refine qa ?_ | refine qb ?_ | refine qc ?_ | refine qd ?_ | refine qe (by decide) ?_ | refine qf ?_ | refine qg ?_ | ((first | apply aops_all | apply adraw_all); (simp (disch := first | exact List.all_nil | omega | (simp only [go_sem]; done) | (simp only [ln, List.length_map]; omega) | (repeat' first | assumption | exact Ext.refl _ | refine Ext.app ?_ _)) only [go_sem]; rfl)))); (try ((first | apply aops_until | apply adraw_until); (simp (disch := first | exact List.all_nil | omega | (simp only [go_sem]; done) | (simp only [ln, List.length_map]; omega) | (repeat' first | assumption | exact Ext.refl _ | refine Ext.app ?_ _)) only [go_sem]; rfl))))
    exact fin_1 ⟨by rw [e1]; rfl, rfl⟩
  by_cases h3 : cols < (ll.getD 0 []).length
  · have e1 : gridErrL rows cols ll = 8 := by unfold gridErrL; rw [if_neg g0, if_pos (.inr h3)]
    ((repeat (first | refine q1 ?_ | refine q2 ?_ | refine q3 ?_ | refine q4 ?_ | refine q5 ?_ | refine q6 ?_ | refine q7 ?_ | refine q8 ?_ | refine q9 ?_ | refine qa ?_ | refine qb ?_ | refine qc ?_ | refine qd ?_ | refine qe (by decide) ?_ | refine qf ?_ | refine qg ?_ | ((first | apply aops_all | apply adraw_all); (simp (disch := first | exact List.all_nil | omega | (simp only [go_sem]; done) | (simp only [ln, List.length_map]; omega) | (repeat' first | assumption | exact Ext.refl _ | refine Ext.app ?_ _)) only [go_sem, hL.len, hL.idx, hL.load, hrow0.len, hrow0.idx, hrow0.load, z0, dec_f h2, dec_t h3]; rfl)))); (try ((first | apply aops_until | apply adraw_until); (simp (disch := first | exact List.all_nil | omega | (simp only [go_sem]; done) | (simp only [ln, List.length_map]; omega) | (repeat' first | assumption | exact Ext.refl _ | refine Ext.app ?_ _)) only [go_sem, hL.len, hL.idx, hL.load, hrow0.len, hrow0.idx, hrow0.load, z0, dec_f h2, dec_t h3]; rfl))))
    refine cond_t rfl ?_
    ((repeat (first | refine q1 ?_ | refine q2 ?_ | refine q3 ?_ | refine q4 ?_ | refine q5 ?_ | refine q6 ?_ | refine q7 ?_ | refine q8 ?_ | refine q9 ?_ | refine qa ?_ | refine qb ?_ | refine qc ?_ | refine qd ?_ | refine qe (by decide) ?_ | refine qf ?_ | refine qg ?_ | ((first | apply aops_all | apply adraw_all); (simp (disch := first | exact List.all_nil | omega | (simp only [go_sem]; done) | (simp only [ln, List.length_map]; omega) | (repeat' first | assumption | exact Ext.refl _ | refine Ext.app ?_ _)) only [go_sem]; rfl)))); (try ((first | apply aops_until | apply adraw_until); (simp (disch := first | exact List.all_nil | omega | (simp only [go_sem]; done) | (simp only [ln, List.length_map]; omega) | (repeat' first | assumption | exact Ext.refl _ | refine Ext.app ?_ _)) only [go_sem]; rfl))))
    exact fin_1 ⟨by rw [e1]; rfl, rfl⟩
  ((repeat (first | refine q1 ?_ | refine q2 ?_ | refine q3 ?_ | refine q4 ?_ | refine q5 ?_ | refine q6 ?_ | refine q7 ?_ | refine q8 ?_ | refine q9 ?_ | refine qa ?_ | refine qb ?_ | refine qc ?_ | refine qd ?_ | refine qe (by decide) ?_ | refine qf ?_ | refine qg ?_ | ((first | apply aops_all | apply adraw_all); (simp (disch := first | exact List.all_nil | omega | (simp only [go_sem]; done) | (simp only [ln, List.length_map]; omega) | (repeat' first | assumption | exact Ext.refl _ | refine Ext.app ?_ _)) only [go_sem, hL.len, hL.idx, hL.load, hrow0.len, hrow0.idx, hrow0.load, z0, dec_f h2, dec_f h3]; rfl)))); (try ((first | apply aops_until | apply adraw_until); (simp (disch := first | exact List.all_nil | omega | (simp only [go_sem]; done) | (simp only [ln, List.length_map]; omega) | (repeat' first | assumption | exact Ext.refl _ | refine Ext.app ?_ _)) only [go_sem, hL.len, hL.idx, hL.load, hrow0.len, hrow0.idx, hrow0.load, z0, dec_f h2, dec_f h3]; rfl))))
  refine cond_f rfl ?_
  ((repeat (first | refine q1 ?_ | refine q2 ?_ | refine q3 ?_ | refine q4 ?_ | refine q5 ?_ | refine q6 ?_ | refine q7 ?_ | refine q8 ?_ | refine q9 ?_ | refine qa ?_ | refine qb ?_ | refine qc ?_ | refine qd ?_ | refine qe (by decide) ?_ | refine qf ?_ | refine qg ?_ | ((first | apply aops_all | apply adraw_all); (simp (disch := first | exact List.all_nil | omega | (simp only [go_sem]; done) | (simp only [ln, List.length_map]; omega) | (repeat' first | assumption | exact Ext.refl _ | refine Ext.app ?_ _)) only [go_sem]; rfl)))); (try ((first | apply aops_until | apply adraw_until); (simp (disch := first | exact List.all_nil | omega | (simp only [go_sem]; done) | (simp only [ln, List.length_map]; omega) | (repeat' first | assumption | exact Ext.refl _ | refine Ext.app ?_ _)) only [go_sem]; rfl))))
  have e1 : gridErrL rows cols ll = gridGo (ll.getD 0 []).length ll := by unfold gridErrL; rw [if_neg g0, if_neg (by omega)]
  refine awp_loop_n [true, false, false, false, false, false, false, true, false, false, false, false, false, false, false, false, false, false, false, false, false, false, false, false, false, false, false, false, false, false, false, false, false, false, false, false, false, false, false, false, false, false, false, false, false, false, false, false, false, false, false, false, false, false, false, false, false, false, false, false, false, false, false, false, false] ll.length (fun i e H' => H = H' ∧ e = [v, junk, junk, junk, junk, junk, junk, .int .i64 i, junk, junk, junk, junk, junk, junk, junk, junk, junk, junk, junk, junk, junk, junk, junk, junk, junk, junk, junk, junk, junk, junk, junk, junk, junk, junk, junk, junk, junk, junk, junk, junk, junk, junk, junk, junk, junk, junk, junk, junk, junk, junk, junk, junk, junk, junk, junk, junk, junk, junk, junk, junk, junk, junk, junk, junk, junk] ∧ gridGo (ll.getD 0 []).length (ll.drop i) = gridGo (ll.getD 0 []).length ll) ?_ ?_
  · exact ⟨rfl, by simp [forget], rfl⟩
  rintro i e H1 hi ⟨rfl, rfl, hv⟩
  ((repeat (first | refine q1 ?_ | refine q2 ?_ | refine q3 ?_ | refine q4 ?_ | refine q5 ?_ | refine q6 ?_ | refine q7 ?_ | refine q8 ?_ | refine q9 ?_ | refine qa ?_ | refine qb ?_ | refine qc ?_ | refine qd ?_ | refine qe (by decide) ?_ | refine qf ?_ | refine qg ?_ | ((first | apply aops_all | apply adraw_all); (simp (disch := first | exact List.all_nil | omega | (simp only [go_sem]; done) | (simp only [ln, List.length_map]; omega) | (repeat' first | assumption | exact Ext.refl _ | refine Ext.app ?_ _)) only [go_sem, hL.len, hL.idx, hL.load]; rfl)))); (try ((first | apply aops_until | apply adraw_until); (simp (disch := first | exact List.all_nil | omega | (simp only [go_sem]; done) | (simp only [ln, List.length_map]; omega) | (repeat' first | assumption | exact Ext.refl _ | refine Ext.app ?_ _)) only [go_sem, hL.len, hL.idx, hL.load]; rfl))))
  refine cond_p rfl (fun hlt => ?_) (fun hge => ?_)
  · have hi' : i < ll.length := by omega
    have hrow := hL.row hi'
    have hrl := hr i hi'
    rw [gridGo_step hi'] at hv
    ((repeat (first | refine q1 ?_ | refine q2 ?_ | refine q3 ?_ | refine q4 ?_ | refine q5 ?_ | refine q6 ?_ | refine q7 ?_ | refine q8 ?_ | refine q9 ?_ | refine qa ?_ | refine qb ?_ | refine qc ?_ | refine qd ?_ | refine qe (by decide) ?_ | refine qf ?_ | refine qg ?_ | ((first | apply aops_all | apply adraw_all); (simp (disch := first | exact List.all_nil | omega | (simp only [go_sem]; done) | (simp only [ln, List.length_map]; omega) | (repeat' first | assumption | exact Ext.refl _ | refine Ext.app ?_ _)) only [go_sem, hL.len, hL.idx, hL.load, hrow.len, hrow.idx, hrow.load, hrow0.len, hrow0.idx, hrow0.load, z0]; rfl)))); (try ((first | apply aops_until | apply adraw_until); (simp (disch := first | exact List.all_nil | omega | (simp only [go_sem]; done) | (simp only [ln, List.length_map]; omega) | (repeat' first | assumption | exact Ext.refl _ | refine Ext.app ?_ _)) only [go_sem, hL.len, hL.idx, hL.load, hrow.len, hrow.idx, hrow.load, hrow0.len, hrow0.idx, hrow0.load, z0]; rfl))))
    refine cond_p rfl (fun hne => ?_) (fun heq => ?_)
    · have e3 : gridRow (ll.getD 0 []).length (ll.getD i []) = 10 := by unfold gridRow; rw [if_neg (by omega)]
      rw [e3, if_neg (by decide)] at hv
      ((repeat (first | refine q1 ?_ | refine q2 ?_ | refine q3 ?_ | refine q4 ?_ | refine q5 ?_ | refine q6 ?_ | refine q7 ?_ | refine q8 ?_ | refine q9 ?_ | refine qa ?_ | refine qb ?_ | refine qc ?_ | refine qd ?_ | refine qe (by decide) ?_ | refine qf ?_ | refine qg ?_ | ((first | apply aops_all | apply adraw_all); (simp (disch := first | exact List.all_nil | omega | (simp only [go_sem]; done) | (simp only [ln, List.length_map]; omega) | (repeat' first | assumption | exact Ext.refl _ | refine Ext.app ?_ _)) only [go_sem]; rfl)))); (try ((first | apply aops_until | apply adraw_until); (simp (disch := first | exact List.all_nil | omega | (simp only [go_sem]; done) | (simp only [ln, List.length_map]; omega) | (repeat' first | assumption | exact Ext.refl _ | refine Ext.app ?_ _)) only [go_sem]; rfl))))
      exact fin_1 ⟨by rw [e1, ← hv]; rfl, rfl⟩
    have hw : (ll.getD i []).length = (ll.getD 0 []).length := by omega
    ((repeat (first | refine q1 ?_ | refine q2 ?_ | refine q3 ?_ | refine q4 ?_ | refine q5 ?_ | refine q6 ?_ | refine q7 ?_ | refine q8 ?_ | refine q9 ?_ | refine qa ?_ | refine qb ?_ | refine qc ?_ | refine qd ?_ | refine qe (by decide) ?_ | refine qf ?_ | refine qg ?_ | ((first | apply aops_all | apply adraw_all); (simp (disch := first | exact List.all_nil | omega | (simp only [go_sem]; done) | (simp only [ln, List.length_map]; omega) | (repeat' first | assumption | exact Ext.refl _ | refine Ext.app ?_ _)) only [go_sem]; rfl)))); (try ((first | apply aops_until | apply adraw_until); (simp (disch := first | exact List.all_nil | omega | (simp only [go_sem]; done) | (simp only [ln, List.length_map]; omega) | (repeat' first | assumption | exact Ext.refl _ | refine Ext.app ?_ _)) only [go_sem]; rfl))))
    refine awp_loop_n [true, false, false, false, false, false, false, true, true, false, false, false, false, false, false, false, false, false, false, false, false, false, false, false, false, false, false, false, false, false, false, false, false, false, false, false, false, false, false, false, false, false, false, false, false, false, false, false, false, false, false, false, false, false, false, false, false, false, false, false, false, false, false, false, false] (ll.getD i []).length (fun j e H' => H = H' ∧ e = [v, junk, junk, junk, junk, junk, junk, .int .i64 i, .int .i64 j, junk, junk, junk, junk, junk, junk, junk, junk, junk, junk, junk, junk, junk, junk, junk, junk, junk, junk, junk, junk, junk, junk, junk, junk, junk, junk, junk, junk, junk, junk, junk, junk, junk, junk, junk, junk, junk, junk, junk, junk, junk, junk, junk, junk, junk, junk, junk, junk, junk, junk, junk, junk, junk, junk, junk, junk] ∧ ∀ k : Nat, k < j → 0 ≤ (ll.getD i []).getD k 0 ∧ (ll.getD i []).getD k 0 ≤ 255) ?_ ?_
    · exact ⟨rfl, by simp [forget], by omega⟩
    rintro j e H1 hj ⟨rfl, rfl, hbef⟩
    ((repeat (first | refine q1 ?_ | refine q2 ?_ | refine q3 ?_ | refine q4 ?_ | refine q5 ?_ | refine q6 ?_ | refine q7 ?_ | refine q8 ?_ | refine q9 ?_ | refine qa ?_ | refine qb ?_ | refine qc ?_ | refine qd ?_ | refine qe (by decide) ?_ | refine qf ?_ | refine qg ?_ | ((first | apply aops_all | apply adraw_all); (simp (disch := first | exact List.all_nil | omega | (simp only [go_sem]; done) | (simp only [ln, List.length_map]; omega) | (repeat' first | assumption | exact Ext.refl _ | refine Ext.app ?_ _)) only [go_sem, hL.len, hL.idx, hL.load, hrow.len, hrow.idx, hrow.load]; rfl)))); (try ((first | apply aops_until | apply adraw_until); (simp (disch := first | exact List.all_nil | omega | (simp only [go_sem]; done) | (simp only [ln, List.length_map]; omega) | (repeat' first | assumption | exact Ext.refl _ | refine Ext.app ?_ _)) only [go_sem, hL.len, hL.idx, hL.load, hrow.len, hrow.idx, hrow.load]; rfl))))
    refine cond_p rfl (fun hlt2 => ?_) (fun hge2 => ?_)
    · have hj' : j < (ll.getD i []).length := by omega
      ((repeat (first | refine q1 ?_ | refine q2 ?_ | refine q3 ?_ | refine q4 ?_ | refine q5 ?_ | refine q6 ?_ | refine q7 ?_ | refine q8 ?_ | refine q9 ?_ | refine qa ?_ | refine qb ?_ | refine qc ?_ | refine qd ?_ | refine qe (by decide) ?_ | refine qf ?_ | refine qg ?_ | ((first | apply aops_all | apply adraw_all); (simp (disch := first | exact List.all_nil | omega | (simp only [go_sem]; done) | (simp only [ln, List.length_map]; omega) | (repeat' first | assumption | exact Ext.refl _ | refine Ext.app ?_ _)) only [go_sem, hL.len, hL.idx, hL.load, hrow.len, hrow.idx, hrow.load]; rfl)))); (try ((first | apply aops_until | apply adraw_until); (simp (disch := first | exact List.all_nil | omega | (simp only [go_sem]; done) | (simp only [ln, List.length_map]; omega) | (repeat' first | assumption | exact Ext.refl _ | refine Ext.app ?_ _)) only [go_sem, hL.len, hL.idx, hL.load, hrow.len, hrow.idx, hrow.load]; rfl))))
      refine aops_call_to (bwithin_c _ _ _) ?_
      ((repeat (first | refine q1 ?_ | refine q2 ?_ | refine q3 ?_ | refine q4 ?_ | refine q5 ?_ | refine q6 ?_ | refine q7 ?_ | refine q8 ?_ | refine q9 ?_ | refine qa ?_ | refine qb ?_ | refine qc ?_ | refine qd ?_ | refine qe (by decide) ?_ | refine qf ?_ | refine qg ?_ | ((first | apply aops_all | apply adraw_all); (simp (disch := first | exact List.all_nil | omega | (simp only [go_sem]; done) | (simp only [ln, List.length_map]; omega) | (repeat' first | assumption | exact Ext.refl _ | refine Ext.app ?_ _)) only [go_sem]; rfl)))); (try ((first | apply aops_until | apply adraw_until); (simp (disch := first | exact List.all_nil | omega | (simp only [go_sem]; done) | (simp only [ln, List.length_map]; omega) | (repeat' first | assumption | exact Ext.refl _ | refine Ext.app ?_ _)) only [go_sem]; rfl))))
      refine cond_n rfl (fun hout => ?_) (fun hin => ?_)
      · have e3 : gridRow (ll.getD 0 []).length (ll.getD i []) = 2 := by
          unfold gridRow
          rw [if_pos hw, all_false hj' (dec_f hout)]; rfl
        rw [e3, if_neg (by decide)] at hv
        ((repeat (first | refine q1 ?_ | refine q2 ?_ | refine q3 ?_ | refine q4 ?_ | refine q5 ?_ | refine q6 ?_ | refine q7 ?_ | refine q8 ?_ | refine q9 ?_ | refine qa ?_ | refine qb ?_ | refine qc ?_ | refine qd ?_ | refine qe (by decide) ?_ | refine qf ?_ | refine qg ?_ | ((first | apply aops_all | apply adraw_all); (simp (disch := first | exact List.all_nil | omega | (simp only [go_sem]; done) | (simp only [ln, List.length_map]; omega) | (repeat' first | assumption | exact Ext.refl _ | refine Ext.app ?_ _)) only [go_sem]; rfl)))); (try ((first | apply aops_until | apply adraw_until); (simp (disch := first | exact List.all_nil | omega | (simp only [go_sem]; done) | (simp only [ln, List.length_map]; omega) | (repeat' first | assumption | exact Ext.refl _ | refine Ext.app ?_ _)) only [go_sem]; rfl))))
        exact fin_1 ⟨by rw [e1, ← hv]; rfl, rfl⟩
      · ((repeat (first | refine q1 ?_ | refine q2 ?_ | refine q3 ?_ | refine q4 ?_ | refine q5 ?_ | refine q6 ?_ | refine q7 ?_ | refine q8 ?_ | refine q9 ?_ | refine qa ?_ | refine qb ?_ | refine qc ?_ | refine qd ?_ | refine qe (by decide) ?_ | refine qf ?_ | refine qg ?_ | ((first | apply aops_all | apply adraw_all); (simp (disch := first | exact List.all_nil | omega | (simp only [go_sem]; done) | (simp only [ln, List.length_map]; omega) | (repeat' first | assumption | exact Ext.refl _ | refine Ext.app ?_ _)) only [go_sem]; rfl)))); (try ((first | apply aops_until | apply adraw_until); (simp (disch := first | exact List.all_nil | omega | (simp only [go_sem]; done) | (simp only [ln, List.length_map]; omega) | (repeat' first | assumption | exact Ext.refl _ | refine Ext.app ?_ _)) only [go_sem]; rfl))))
        refine ⟨by omega, rfl, by simp [forget], fun k hk => ?_⟩
        by_cases hkj : k = j
        · subst hkj; exact hin
        · exact hbef k (by omega)
    · have e3 : gridRow (ll.getD 0 []).length (ll.getD i []) = 0 := by
        have hall : (ll.getD i []).all (fun n => decide (0 ≤ n ∧ n ≤ 255)) = true := by
          rw [List.all_eq_true]
          intro x hx
          obtain ⟨k, hk, rfl⟩ := List.getElem_of_mem hx
          have := hbef k (by omega)
          rw [List.getD_eq_getElem?_getD, List.getElem?_eq_getElem hk] at this
          exact dec_t this
        unfold gridRow
        rw [if_pos hw, hall]; rfl
      rw [e3, if_pos rfl] at hv
      ((repeat (first | refine q1 ?_ | refine q2 ?_ | refine q3 ?_ | refine q4 ?_ | refine q5 ?_ | refine q6 ?_ | refine q7 ?_ | refine q8 ?_ | refine q9 ?_ | refine qa ?_ | refine qb ?_ | refine qc ?_ | refine qd ?_ | refine qe (by decide) ?_ | refine qf ?_ | refine qg ?_ | ((first | apply aops_all | apply adraw_all); (simp (disch := first | exact List.all_nil | omega | (simp only [go_sem]; done) | (simp only [ln, List.length_map]; omega) | (repeat' first | assumption | exact Ext.refl _ | refine Ext.app ?_ _)) only [go_sem]; rfl)))); (try ((first | apply aops_until | apply adraw_until); (simp (disch := first | exact List.all_nil | omega | (simp only [go_sem]; done) | (simp only [ln, List.length_map]; omega) | (repeat' first | assumption | exact Ext.refl _ | refine Ext.app ?_ _)) only [go_sem]; rfl))))
      exact ⟨by omega, rfl, by simp [forget], hv⟩
  · rw [gridGo_end (by omega)] at hv
    ((repeat (first | refine q1 ?_ | refine q2 ?_ | refine q3 ?_ | refine q4 ?_ | refine q5 ?_ | refine q6 ?_ | refine q7 ?_ | refine q8 ?_ | refine q9 ?_ | refine qa ?_ | refine qb ?_ | refine qc ?_ | refine qd ?_ | refine qe (by decide) ?_ | refine qf ?_ | refine qg ?_ | ((first | apply aops_all | apply adraw_all); (simp (disch := first | exact List.all_nil | omega | (simp only [go_sem]; done) | (simp only [ln, List.length_map]; omega) | (repeat' first | assumption | exact Ext.refl _ | refine Ext.app ?_ _)) only [go_sem]; rfl)))); (try ((first | apply aops_until | apply adraw_until); (simp (disch := first | exact List.all_nil | omega | (simp only [go_sem]; done) | (simp only [ln, List.length_map]; omega) | (repeat' first | assumption | exact Ext.refl _ | refine Ext.app ?_ _)) only [go_sem]; rfl))))
    exact fin_1 ⟨by rw [e1, ← hv]; rfl, rfl⟩

/-- A function value that answers of numbers by p at this heap, and leaves it. -/
def AsksAt (H : AHeap) (fv : Value) (p : Int → Bool) : Prop := ∀ n, AInvoke Go.Proofs.Tryd.prog fv [.int .i64 n] H fun v H' => v = .bool (p n) ∧ H' = H

theorem indexFuncAt_c {l : List Int} {v fv : Value} {p : Int → Bool} (hl : Ints H l v) (hf : AsksAt H fv p) (hb : l.length ≤ 1000000000) :
    ACall Go.Proofs.Tryd.prog 133 [v, fv] H fun v H' => (∃ i : Int, v = .int .i64 i ∧ (l.any p = decide (0 ≤ i))) ∧ H' = H := by
  (refine a133 ?_; simp only [n133, List.replicate, List.length_cons, List.length_nil, List.cons_append, List.nil_append])
  (repeat (first | refine q1 ?_ | refine q2 ?_ | refine q3 ?_ | refine q4 ?_ | refine q5 ?_ | refine q6 ?_ | refine q7 ?_ | refine q8 ?_ | refine q9 ?_ | refine qa ?_ | refine qb ?_ | refine qc ?_ | refine qd ?_ | refine qe (by decide) ?_ | refine qf ?_ | refine qg ?_)); (refine aops_until (by simp (disch := first | exact List.all_nil | omega | (simp only [go_sem]; done) | (simp only [ln, List.length_map]; omega) | (repeat' first | assumption | exact Ext.refl _ | refine Ext.app ?_ _)) only [go_sem]; rfl) ?_); (repeat (first | refine q1 ?_ | refine q2 ?_ | refine q3 ?_ | refine q4 ?_ | refine q5 ?_ | refine q6 ?_ | refine q7 ?_ | refine q8 ?_ | refine q9 ?_ | refine qa ?_ | refine qb ?_ | refine qc ?_ | refine qd ?_ | refine qe (by decide) ?_ | refine qf ?_ | refine qg ?_)); (refine aops_until (by simp (disch := first | exact List.all_nil | omega | (simp only [go_sem]; done) | (simp only [ln, List.length_map]; omega) | (repeat' first | assumption | exact Ext.refl _ | refine Ext.app ?_ _)) only [go_sem, hl.len, hl.idx, hl.load]; rfl) ?_); (repeat (first | refine q1 ?_ | refine q2 ?_ | refine q3 ?_ | refine q4 ?_ | refine q5 ?_ | refine q6 ?_ | refine q7 ?_ | refine q8 ?_ | refine q9 ?_ | refine qa ?_ | refine qb ?_ | refine qc ?_ | refine qd ?_ | refine qe (by decide) ?_ | refine qf ?_ | refine qg ?_))
  refine awp_loop_n [true, true, false, false, true, false, true, true, true, false, false, false, false, false, false, false, false, false, false] l.length (fun i e H' => H' = H ∧ e = [v, fv, junk, junk, .int .i64 0, junk, v, .int .i64 l.length, .int .i64 i, junk, junk, junk, junk, junk, junk, junk, junk, junk, junk] ∧ ∀ j < i, p (l.getD j 0) = false) ?_ ?_
  · exact ⟨rfl, rfl, by omega⟩
  · rintro i e H' hi ⟨rfl, rfl, hp⟩
    (repeat (first | refine q1 ?_ | refine q2 ?_ | refine q3 ?_ | refine q4 ?_ | refine q5 ?_ | refine q6 ?_ | refine q7 ?_ | refine q8 ?_ | refine q9 ?_ | refine qa ?_ | refine qb ?_ | refine qc ?_ | refine qd ?_ | refine qe (by decide) ?_ | refine qf ?_ | refine qg ?_)); (refine aops_until (by simp (disch := first | exact List.all_nil | omega | (simp only [go_sem]; done) | (simp only [ln, List.length_map]; omega) | (repeat' first | assumption | exact Ext.refl _ | refine Ext.app ?_ _)) only [go_sem, hl.len, hl.idx, hl.load]; rfl) ?_); (repeat (first | refine q1 ?_ | refine q2 ?_ | refine q3 ?_ | refine q4 ?_ | refine q5 ?_ | refine q6 ?_ | refine q7 ?_ | refine q8 ?_ | refine q9 ?_ | refine qa ?_ | refine qb ?_ | refine qc ?_ | refine qd ?_ | refine qe (by decide) ?_ | refine qf ?_ | refine qg ?_))
    refine cond_p rfl (fun hlt => ?_) (fun hge => ?_)
    · (repeat (first | refine q1 ?_ | refine q2 ?_ | refine q3 ?_ | refine q4 ?_ | refine q5 ?_ | refine q6 ?_ | refine q7 ?_ | refine q8 ?_ | refine q9 ?_ | refine qa ?_ | refine qb ?_ | refine qc ?_ | refine qd ?_ | refine qe (by decide) ?_ | refine qf ?_ | refine qg ?_)); (refine aops_until (by simp (disch := first | exact List.all_nil | omega | (simp only [go_sem]; done) | (simp only [ln, List.length_map]; omega) | (repeat' first | assumption | exact Ext.refl _ | refine Ext.app ?_ _)) only [go_sem, hl.len, hl.idx, hl.load]; rfl) ?_); (repeat (first | refine q1 ?_ | refine q2 ?_ | refine q3 ?_ | refine q4 ?_ | refine q5 ?_ | refine q6 ?_ | refine q7 ?_ | refine q8 ?_ | refine q9 ?_ | refine qa ?_ | refine qb ?_ | refine qc ?_ | refine qd ?_ | refine qe (by decide) ?_ | refine qf ?_ | refine qg ?_)); (refine aops_until (by simp (disch := first | exact List.all_nil | omega | (simp only [go_sem]; done) | (simp only [ln, List.length_map]; omega) | (repeat' first | assumption | exact Ext.refl _ | refine Ext.app ?_ _)) only [go_sem, hl.len, hl.idx, hl.load]; rfl) ?_)
      refine aops_call_to (hf _) ?_
      (refine aops_until (by simp (disch := first | exact List.all_nil | omega | (simp only [go_sem]; done) | (simp only [ln, List.length_map]; omega) | (repeat' first | assumption | exact Ext.refl _ | refine Ext.app ?_ _)) only [go_sem]; rfl) ?_); (repeat (first | refine q1 ?_ | refine q2 ?_ | refine q3 ?_ | refine q4 ?_ | refine q5 ?_ | refine q6 ?_ | refine q7 ?_ | refine q8 ?_ | refine q9 ?_ | refine qa ?_ | refine qb ?_ | refine qc ?_ | refine qd ?_ | refine qe (by decide) ?_ | refine qf ?_ | refine qg ?_))
      cases hq : p (l.getD i 0) with
      | true =>
        refine cond_t (by rw [← hq]; rfl) ?_
        (repeat (first | refine q1 ?_ | refine q2 ?_ | refine q3 ?_ | refine q4 ?_ | refine q5 ?_ | refine q6 ?_ | refine q7 ?_ | refine q8 ?_ | refine q9 ?_ | refine qa ?_ | refine qb ?_ | refine qc ?_ | refine qd ?_ | refine qe (by decide) ?_ | refine qf ?_ | refine qg ?_)); (refine aops_until (by simp (disch := first | exact List.all_nil | omega | (simp only [go_sem]; done) | (simp only [ln, List.length_map]; omega) | (repeat' first | assumption | exact Ext.refl _ | refine Ext.app ?_ _)) only [go_sem]; rfl) ?_); (repeat (first | refine q1 ?_ | refine q2 ?_ | refine q3 ?_ | refine q4 ?_ | refine q5 ?_ | refine q6 ?_ | refine q7 ?_ | refine q8 ?_ | refine q9 ?_ | refine qa ?_ | refine qb ?_ | refine qc ?_ | refine qd ?_ | refine qe (by decide) ?_ | refine qf ?_ | refine qg ?_))
        refine fin_1 ⟨⟨i, rfl, ?_⟩, rfl⟩
        rw [any_at (d := 0) (i := i) (by omega) hq]
        simp
      | false =>
        refine cond_f (by rw [← hq]; rfl) ?_
        (repeat (first | refine q1 ?_ | refine q2 ?_ | refine q3 ?_ | refine q4 ?_ | refine q5 ?_ | refine q6 ?_ | refine q7 ?_ | refine q8 ?_ | refine q9 ?_ | refine qa ?_ | refine qb ?_ | refine qc ?_ | refine qd ?_ | refine qe (by decide) ?_ | refine qf ?_ | refine qg ?_)); (refine aops_until (by simp (disch := first | exact List.all_nil | omega | (simp only [go_sem]; done) | (simp only [ln, List.length_map]; omega) | (repeat' first | assumption | exact Ext.refl _ | refine Ext.app ?_ _)) only [go_sem]; rfl) ?_); (repeat (first | refine q1 ?_ | refine q2 ?_ | refine q3 ?_ | refine q4 ?_ | refine q5 ?_ | refine q6 ?_ | refine q7 ?_ | refine q8 ?_ | refine q9 ?_ | refine qa ?_ | refine qb ?_ | refine qc ?_ | refine qd ?_ | refine qe (by decide) ?_ | refine qf ?_ | refine qg ?_))
        refine ⟨by omega, rfl, ?_, fun j hj => ?_⟩
        · simp [forget]
        · by_cases h : j = i
          · subst h; exact hq
          · exact hp j (by omega)
    · (repeat (first | refine q1 ?_ | refine q2 ?_ | refine q3 ?_ | refine q4 ?_ | refine q5 ?_ | refine q6 ?_ | refine q7 ?_ | refine q8 ?_ | refine q9 ?_ | refine qa ?_ | refine qb ?_ | refine qc ?_ | refine qd ?_ | refine qe (by decide) ?_ | refine qf ?_ | refine qg ?_)); (refine aops_until (by simp (disch := first | exact List.all_nil | omega | (simp only [go_sem]; done) | (simp only [ln, List.length_map]; omega) | (repeat' first | assumption | exact Ext.refl _ | refine Ext.app ?_ _)) only [go_sem]; rfl) ?_); (repeat (first | refine q1 ?_ | refine q2 ?_ | refine q3 ?_ | refine q4 ?_ | refine q5 ?_ | refine q6 ?_ | refine q7 ?_ | refine q8 ?_ | refine q9 ?_ | refine qa ?_ | refine qb ?_ | refine qc ?_ | refine qd ?_ | refine qe (by decide) ?_ | refine qf ?_ | refine qg ?_))
      refine fin_1 ⟨⟨-1, rfl, ?_⟩, rfl⟩
      rw [any_none (d := 0) fun j hj => hp j (by omega)]
      simp

theorem containsFuncAt_c {l : List Int} {v fv : Value} {p : Int → Bool} (hl : Ints H l v) (hf : AsksAt H fv p) (hb : l.length ≤ 1000000000) :
    ACall Go.Proofs.Tryd.prog 115 [v, fv] H fun v H' => v = .bool (l.any p) ∧ H' = H := by
  (refine a115 ?_; simp only [n115, List.replicate, List.length_cons, List.length_nil, List.cons_append, List.nil_append])
  (repeat (first | refine q1 ?_ | refine q2 ?_ | refine q3 ?_ | refine q4 ?_ | refine q5 ?_ | refine q6 ?_ | refine q7 ?_ | refine q8 ?_ | refine q9 ?_ | refine qa ?_ | refine qb ?_ | refine qc ?_ | refine qd ?_ | refine qe (by decide) ?_ | refine qf ?_ | refine qg ?_)); (refine aops_until (by simp (disch := first | exact List.all_nil | omega | (simp only [go_sem]; done) | (simp only [ln, List.length_map]; omega) | (repeat' first | assumption | exact Ext.refl _ | refine Ext.app ?_ _)) only [go_sem]; rfl) ?_); (repeat (first | refine q1 ?_ | refine q2 ?_ | refine q3 ?_ | refine q4 ?_ | refine q5 ?_ | refine q6 ?_ | refine q7 ?_ | refine q8 ?_ | refine q9 ?_ | refine qa ?_ | refine qb ?_ | refine qc ?_ | refine qd ?_ | refine qe (by decide) ?_ | refine qf ?_ | refine qg ?_)); (refine aops_until (by simp (disch := first | exact List.all_nil | omega | (simp only [go_sem]; done) | (simp only [ln, List.length_map]; omega) | (repeat' first | assumption | exact Ext.refl _ | refine Ext.app ?_ _)) only [go_sem]; rfl) ?_)
  refine aops_call ((indexFuncAt_c hl hf hb).mono fun v1 H1 ⟨⟨i, h1, h2⟩, h3⟩ => ?_)
  subst h1; subst h3
  (refine aops_until (by simp (disch := first | exact List.all_nil | omega | (simp only [go_sem]; done) | (simp only [ln, List.length_map]; omega) | (repeat' first | assumption | exact Ext.refl _ | refine Ext.app ?_ _)) only [go_sem]; rfl) ?_); (repeat (first | refine q1 ?_ | refine q2 ?_ | refine q3 ?_ | refine q4 ?_ | refine q5 ?_ | refine q6 ?_ | refine q7 ?_ | refine q8 ?_ | refine q9 ?_ | refine qa ?_ | refine qb ?_ | refine qc ?_ | refine qd ?_ | refine qe (by decide) ?_ | refine qf ?_ | refine qg ?_))
  refine fin_1 ⟨?_, rfl⟩
  simp [h2]

theorem box_int {k : IntKind} {n : Int} : boxR (.int k n) H = some (.pointer (some ⟨H.length, 0, none⟩), H ++ [.cells true 0 [.int k n]]) := rfl
theorem firstErr_gridRow (w : Nat) (r : List Int) : firstErr [if decide ((r.length : Int) = (w : Int)) = true then 0 else 10, if (!r.any fun n => !decide (0 ≤ n ∧ n ≤ 255)) = true then 0 else 2] = gridRow w r := by
  have e : (!r.any fun n => !decide (0 ≤ n ∧ n ≤ 255)) = r.all fun n => decide (0 ≤ n ∧ n ≤ 255) := by
    rw [← List.not_all_eq_any_not, Bool.not_not]
  rw [e]
  unfold firstErr gridRow
  by_cases h1 : r.length = w
  · have h1' : (r.length : Int) = w := by omega
    cases r.all fun n => decide (0 ≤ n ∧ n ≤ 255) <;> simp [h1]
  · have h1' : ¬ (r.length : Int) = w := by omega
    simp [h1, h1']

end
end Go.Lq

namespace Go.Lq
open Go
open Go.Proofs

section
variable {H : AHeap}
theorem Lists.atom {ll : List (List Int)} {vs : List Value} {v : Value} (h : Lists H ll vs v) : isAtom v = true := by
  rcases h.1.2 with ⟨rfl, _⟩ | ⟨id, off, c, rfl, _⟩ <;> rfl
theorem Lists.box {ll : List (List Int)} {vs : List Value} {v : Value} (h : Lists H ll vs v) {H' : AHeap} : boxR (.agg ⟨[v]⟩) H' = some (.pointer (some ⟨H'.length, 0, none⟩), H' ++ [.cells true 0 [v]]) :=
  box_agg (by simp [h.atom])

end
end Go.Lq

namespace Go.Lq
open Go
open Go.Proofs

/-! ### Small rules -/
theorem store_new1 {H : AHeap} {e : Nat} {x : Value} {n : Int} : storeR 1 (.pointer (some ⟨H.length, 0, none⟩)) (.int .i64 n) (H ++ [.cells true e [x]]) = some (undef, H ++ [.cells true e [.int .i64 n]]) := by
  have := store_one (H := H ++ [.cells true e [x]]) (id := H.length) (x := x) (y := .int .i64 n) (e := e) (by simp) rfl
  have e1 : (Value.agg ⟨[.int .i64 n]⟩).cells = (Value.int .i64 n).cells := rfl
  simp only [storeR, e1] at this ⊢
  rw [this, List.set_append_right _ _ (Nat.le_refl _), Nat.sub_self]; rfl
theorem store_new3 {H : AHeap} {e : Nat} {x y z : Value} {a b c : Int} : storeR 3 (.pointer (some ⟨H.length, 0, none⟩)) (.agg ⟨[.int .i64 a, .int .i64 b, .int .i64 c]⟩) (H ++ [.cells true e [x, y, z]]) =
    some (undef, H ++ [.cells true e [.int .i64 a, .int .i64 b, .int .i64 c]]) := store_new (us := [.int .i64 a, .int .i64 b, .int .i64 c]) rfl rfl
theorem store_at1 {H : AHeap} {id e : Nat} {x y : Value} (h : H[id]? = some (.cells true e [x])) (ha : isAtom y = true) (hc : y.cells = ⟨[y]⟩) : storeR 1 (.pointer (some ⟨id, 0, none⟩)) y H = some (undef, H.set id (.cells true e [y])) := by
  have := store_one h ha
  have e1 : (Value.agg ⟨[y]⟩).cells = y.cells := by rw [hc]; rfl
  simp only [storeR, e1] at this ⊢
  exact this
attribute [go_sem] store_new1 store_new3 box_int
def idxANR (len size : Nat) (x i : Value) (H : AHeap) : Option (Value × AHeap) :=
  match x, i with | .agg cs, .int _ n => if 0 ≤ n ∧ n < len then some (.agg (cs.extract (n.toNat * size) (n.toNat * size + size)), H) else none | _, _ => none
theorem r_idxAN {ρ : Operand → Value} {H : AHeap} {len size : Nat} {x y : Operand} : ropRun (.idxAN len size x y) ρ H = idxANR len size (ρ x) (ρ y) H := rfl
attribute [go_sem] r_idxAN

/-! ### The points of a ring -/
end Go.Lq
namespace Go.Lq
open Go
open Go.Proofs

section
variable {H : AHeap}
end
end Go.Lq


namespace Go.Lq
open Go
open Go.Proofs

theorem gridErr_ok {rows cols : Int} {ll : List (List Int)} (h : gridErrL rows cols ll = 0) :
    0 < ll.length ∧ 0 < (ll.getD 0 []).length ∧ (ll.length : Int) ≤ rows ∧ ((ll.getD 0 []).length : Int) ≤ cols ∧ (∀ i, i < ll.length → (ll.getD i []).length = (ll.getD 0 []).length) ∧
      ∀ i, i < ll.length → ∀ n ∈ ll.getD i [], 0 ≤ n ∧ n ≤ 255 := by
  unfold gridErrL at h
  split at h
  · cases h
  · rename_i h0
    split at h
    · cases h
    · rename_i h1
      have hall := gridGo_all h
      have hrow : ∀ i, i < ll.length → (ll.getD i []).length = (ll.getD 0 []).length ∧ ∀ n ∈ ll.getD i [], 0 ≤ n ∧ n ≤ 255 := fun i hi => by
        have := hall i hi
        unfold gridRow at this
        split at this
        · rename_i hw
          split at this
          · rename_i ha
            exact ⟨hw, fun n hn => of_decide_eq_true (List.all_eq_true.1 ha n hn)⟩
          · cases this
        · cases this
      exact ⟨by omega, by omega, by omega, by omega, fun i hi => (hrow i hi).1, fun i hi => (hrow i hi).2⟩

theorem mem_getD {α : Type} {l : List α} {a d : α} (h : a ∈ l) : ∃ j, j < l.length ∧ l.getD j d = a := by
  obtain ⟨j, hj, rfl⟩ := List.getElem_of_mem h
  exact ⟨j, hj, by rw [List.getD_eq_getElem?_getD, List.getElem?_eq_getElem hj]; rfl⟩
theorem getD_mem {α : Type} {l : List α} {d : α} {j : Nat} (h : j < l.length) : l.getD j d ∈ l := by
  rw [List.getD_eq_getElem?_getD, List.getElem?_eq_getElem h]; exact List.getElem_mem h
section
variable {H : AHeap}
end
end Go.Lq

namespace Go.Lq
open Go
open Go.Proofs

theorem getD_ge {α : Type} {l : List α} {d : α} {i : Nat} (h : l.length ≤ i) : l.getD i d = d := by
  rw [List.getD_eq_getElem?_getD, List.getElem?_eq_none h]; rfl
theorem getD_map_range {α : Type} {f : Nat → α} {d : α} {n i : Nat} (h : i < n) : ((List.range n).map f).getD i d = f i := by
  rw [List.getD_eq_getElem?_getD, List.getElem?_map, List.getElem?_range h]; rfl
end Go.Lq

namespace Go.Lq
open Go
open Go.Proofs
section
variable {H : AHeap}
theorem ret_lists {ll : List (List Int)} : ∃ vs, Lists (H ++ retLN H ll) ll vs (retLV H ll) := (OwnL.ret (H0 := H) (Nat.le_refl _)).lists
end
end Go.Lq

namespace Go.Lq
open Go
open Go.Proofs
section
variable {H : AHeap}
theorem gridErr1S_c {id : Nat} {top : Int} (hc : H[id]? = some (.cells true 0 [.int .i64 top])) : AsksAt H (.func (.func 135) #[] #[.pointer (some ⟨id, 0, none⟩)]) (fun n => !decide (0 ≤ n ∧ n ≤ top)) := fun n => by
  show ACall _ _ _ _ _
  simp only [List.append_nil, List.nil_append, List.cons_append]
  (refine a135 ?_; simp only [n135, List.replicate, List.length_cons, List.length_nil, List.cons_append, List.nil_append])
  ((repeat (first | refine q1 ?_ | refine q2 ?_ | refine q3 ?_ | refine q4 ?_ | refine q5 ?_ | refine q6 ?_ | refine q7 ?_ | refine q8 ?_ | refine q9 ?_ | refine qa ?_ | refine qb ?_ | refine qc ?_ | refine qd ?_ | refine qe (by decide) ?_ | refine qf ?_ | refine qg ?_ | ((first | apply aops_all | apply adraw_all); (simp (disch := first | exact List.all_nil | omega | (simp only [go_sem]; done) | (simp only [ln, List.length_map]; omega) | (repeat' first | assumption | exact Ext.refl _ | refine Ext.app ?_ _)) only [go_sem, load_at hc]; rfl)))); (try ((first | apply aops_until | apply adraw_until); (simp (disch := first | exact List.all_nil | omega | (simp only [go_sem]; done) | (simp only [ln, List.length_map]; omega) | (repeat' first | assumption | exact Ext.refl _ | refine Ext.app ?_ _)) only [go_sem, load_at hc]; rfl))))
  refine aops_call_to (within_c _ _ _) ?_
  ((repeat (first | refine q1 ?_ | refine q2 ?_ | refine q3 ?_ | refine q4 ?_ | refine q5 ?_ | refine q6 ?_ | refine q7 ?_ | refine q8 ?_ | refine q9 ?_ | refine qa ?_ | refine qb ?_ | refine qc ?_ | refine qd ?_ | refine qe (by decide) ?_ | refine qf ?_ | refine qg ?_ | ((first | apply aops_all | apply adraw_all); (simp (disch := first | exact List.all_nil | omega | (simp only [go_sem]; done) | (simp only [ln, List.length_map]; omega) | (repeat' first | assumption | exact Ext.refl _ | refine Ext.app ?_ _)) only [go_sem]; rfl)))); (try ((first | apply aops_until | apply adraw_until); (simp (disch := first | exact List.all_nil | omega | (simp only [go_sem]; done) | (simp only [ln, List.length_map]; omega) | (repeat' first | assumption | exact Ext.refl _ | refine Ext.app ?_ _)) only [go_sem]; rfl))))
  exact fin_1 ⟨rfl, rfl⟩

theorem gridErrS_c {ll : List (List Int)} {vs : List Value} {v : Value} {rows cols : Int} (hL : Lists H ll vs v) (hb : ll.length ≤ 1000000000) (hr : ∀ i, i < ll.length → (ll.getD i []).length ≤ 1000000000) :
    ACall Go.Proofs.Tryd.prog 122 [v, .int .i64 rows, .int .i64 cols, .int .i64 255] H fun v1 H1 => v1 = .int .i64 (gridErrL rows cols ll) ∧ H1 = H := by
  refine ACall.drop (.int _ _) ?_
  (refine a122 ?_; simp only [n122, List.replicate, List.length_cons, List.length_nil, List.cons_append, List.nil_append])
  have z0 : (0 : Int).toNat = 0 := rfl
  have hbox : (H ++ [.cells true 0 [.int .i64 255]])[H.length]? = some (AObj.cells true 0 [.int .i64 255]) := at_new
  have xG : Ext H (H ++ [.cells true 0 [.int .i64 255]]) := (Ext.refl H).app _
  by_cases h0 : ll.length = 0
  · have e1 : gridErrL rows cols ll = 10 := by unfold gridErrL; rw [if_pos (.inl h0)]
    ((repeat (first | refine q1 ?_ | refine q2 ?_ | refine q3 ?_ | refine q4 ?_ | refine q5 ?_ | refine q6 ?_ | refine q7 ?_ | refine q8 ?_ | refine q9 ?_ | refine qa ?_ | refine qb ?_ | refine qc ?_ | refine qd ?_ | refine qe (by decide) ?_ | refine qf ?_ | refine qg ?_ | ((first | apply aops_all | apply adraw_all); (simp (disch := first | exact List.all_nil | omega | (simp only [go_sem]; done) | (simp only [ln, List.length_map]; omega) | (repeat' first | assumption | exact Ext.refl _ | refine Ext.app ?_ _)) only [go_sem, hL.len, hL.idx, hL.load, box_int, dec_t (show (ll.length : Int) = 0 by omega)]; rfl)))); (try ((first | apply aops_until | apply adraw_until); (simp (disch := first | exact List.all_nil | omega | (simp only [go_sem]; done) | (simp only [ln, List.length_map]; omega) | (repeat' first | assumption | exact Ext.refl _ | refine Ext.app ?_ _)) only [go_sem, hL.len, hL.idx, hL.load, box_int, dec_t (show (ll.length : Int) = 0 by omega)]; rfl))))
    refine cond_t rfl ?_
    ((repeat (first | refine q1 ?_ | refine q2 ?_ | refine q3 ?_ | refine q4 ?_ | refine q5 ?_ | refine q6 ?_ | refine q7 ?_ | refine q8 ?_ | refine q9 ?_ | refine qa ?_ | refine qb ?_ | refine qc ?_ | refine qd ?_ | refine qe (by decide) ?_ | refine qf ?_ | refine qg ?_ | ((first | apply aops_all | apply adraw_all); (simp (disch := first | exact List.all_nil | omega | (simp only [go_sem]; done) | (simp only [ln, List.length_map]; omega) | (repeat' first | assumption | exact Ext.refl _ | refine Ext.app ?_ _)) only [go_sem]; rfl)))); (try ((first | apply aops_until | apply adraw_until); (simp (disch := first | exact List.all_nil | omega | (simp only [go_sem]; done) | (simp only [ln, List.length_map]; omega) | (repeat' first | assumption | exact Ext.refl _ | refine Ext.app ?_ _)) only [go_sem]; rfl))))
    exact fin_1 ⟨by rw [e1]; rfl, xG⟩
  have hrow0 := hL.row (k := 0) (by omega)
  by_cases h1 : (ll.getD 0 []).length = 0
  · have e1 : gridErrL rows cols ll = 10 := by unfold gridErrL; rw [if_pos (.inr h1)]
    ((repeat (first | refine q1 ?_ | refine q2 ?_ | refine q3 ?_ | refine q4 ?_ | refine q5 ?_ | refine q6 ?_ | refine q7 ?_ | refine q8 ?_ | refine q9 ?_ | refine qa ?_ | refine qb ?_ | refine qc ?_ | refine qd ?_ | refine qe (by decide) ?_ | refine qf ?_ | refine qg ?_ | ((first | apply aops_all | apply adraw_all); (simp (disch := first | exact List.all_nil | omega | (simp only [go_sem]; done) | (simp only [ln, List.length_map]; omega) | (repeat' first | assumption | exact Ext.refl _ | refine Ext.app ?_ _)) only [go_sem, hL.len, hL.idx, hL.load, hrow0.len, hrow0.idx, hrow0.load, box_int, z0, dec_f (show ¬ (ll.length : Int) = 0 by omega), dec_t (show ((ll.getD 0 []).length : Int) = 0 by omega)]; rfl)))); (try ((first | apply aops_until | apply adraw_until); (simp (disch := first | exact List.all_nil | omega | (simp only [go_sem]; done) | (simp only [ln, List.length_map]; omega) | (repeat' first | assumption | exact Ext.refl _ | refine Ext.app ?_ _)) only [go_sem, hL.len, hL.idx, hL.load, hrow0.len, hrow0.idx, hrow0.load, box_int, z0, dec_f (show ¬ (ll.length : Int) = 0 by omega), dec_t (show ((ll.getD 0 []).length : Int) = 0 by omega)]; rfl))))
    refine cond_t rfl ?_
    ((repeat (first | refine q1 ?_ | refine q2 ?_ | refine q3 ?_ | refine q4 ?_ | refine q5 ?_ | refine q6 ?_ | refine q7 ?_ | refine q8 ?_ | refine q9 ?_ | refine qa ?_ | refine qb ?_ | refine qc ?_ | refine qd ?_ | refine qe (by decide) ?_ | refine qf ?_ | refine qg ?_ | ((first | apply aops_all | apply adraw_all); (simp (disch := first | exact List.all_nil | omega | (simp only [go_sem]; done) | (simp only [ln, List.length_map]; omega) | (repeat' first | assumption | exact Ext.refl _ | refine Ext.app ?_ _)) only [go_sem]; rfl)))); (try ((first | apply aops_until | apply adraw_until); (simp (disch := first | exact List.all_nil | omega | (simp only [go_sem]; done) | (simp only [ln, List.length_map]; omega) | (repeat' first | assumption | exact Ext.refl _ | refine Ext.app ?_ _)) only [go_sem]; rfl))))
    exact fin_1 ⟨by rw [e1]; rfl, xG⟩
  ((repeat (first | refine q1 ?_ | refine q2 ?_ | refine q3 ?_ | refine q4 ?_ | refine q5 ?_ | refine q6 ?_ | refine q7 ?_ | refine q8 ?_ | refine q9 ?_ | refine qa ?_ | refine qb ?_ | refine qc ?_ | refine qd ?_ | refine qe (by decide) ?_ | refine qf ?_ | refine qg ?_ | ((first | apply aops_all | apply adraw_all); (simp (disch := first | exact List.all_nil | omega | (simp only [go_sem]; done) | (simp only [ln, List.length_map]; omega) | (repeat' first | assumption | exact Ext.refl _ | refine Ext.app ?_ _)) only [go_sem, hL.len, hL.idx, hL.load, hrow0.len, hrow0.idx, hrow0.load, box_int, z0, dec_f (show ¬ (ll.length : Int) = 0 by omega), dec_f (show ¬ ((ll.getD 0 []).length : Int) = 0 by omega)]; rfl)))); (try ((first | apply aops_until | apply adraw_until); (simp (disch := first | exact List.all_nil | omega | (simp only [go_sem]; done) | (simp only [ln, List.length_map]; omega) | (repeat' first | assumption | exact Ext.refl _ | refine Ext.app ?_ _)) only [go_sem, hL.len, hL.idx, hL.load, hrow0.len, hrow0.idx, hrow0.load, box_int, z0, dec_f (show ¬ (ll.length : Int) = 0 by omega), dec_f (show ¬ ((ll.getD 0 []).length : Int) = 0 by omega)]; rfl))))
  refine cond_f rfl ?_
  replace hL := hL.ext xG
  replace hrow0 := hrow0.ext xG
  generalize (H ++ [.cells true 0 [.int .i64 255]] : AHeap) = G at hbox xG hL hrow0
  have g0 : ¬ (ll.length = 0 ∨ (ll.getD 0 []).length = 0) := by omega
  by_cases h2 : rows < ll.length
  · have e1 : gridErrL rows cols ll = 8 := by unfold gridErrL; rw [if_neg g0, if_pos (.inl h2)]
    ((repeat (first | refine q1 ?_ | refine q2 ?_ | refine q3 ?_ | refine q4 ?_ | refine q5 ?_ | refine q6 ?_ | refine q7 ?_ | refine q8 ?_ | refine q9 ?_ | refine qa ?_ | refine qb ?_ | refine qc ?_ | refine qd ?_ | refine qe (by decide) ?_ | refine qf ?_ | refine qg ?_ | ((first | apply aops_all | apply adraw_all); (simp (disch := first | exact List.all_nil | omega | (simp only [go_sem]; done) | (simp only [ln, List.length_map]; omega) | (repeat' first | assumption | exact Ext.refl _ | refine Ext.app ?_ _)) only [go_sem, hL.len, hL.idx, hL.load, dec_t h2]; rfl)))); (try ((first | apply aops_until | apply adraw_until); (simp (disch := first | exact List.all_nil | omega | (simp only [go_sem]; done) | (simp only [ln, List.length_map]; omega) | (repeat' first | assumption | exact Ext.refl _ | refine Ext.app ?_ _)) only [go_sem, hL.len, hL.idx, hL.load, dec_t h2]; rfl))))
    refine cond_t rfl ?_
    ((repeat (first | refine q1 ?_ | refine q2 ?_ | refine q3 ?_ | refine q4 ?_ | refine q5 ?_ | refine q6 ?_ | refine q7 ?_ | refine q8 ?_ | refine q9 ?_ | refine qa ?_ | refine qb ?_ | refine qc ?_ | refine qd ?_ | refine qe (by decide) ?_ | refine qf ?_ | refine qg ?_ | ((first | apply aops_all | apply adraw_all); (simp (disch := first | exact List.all_nil | omega | (simp only [go_sem]; done) | (simp only [ln, List.length_map]; omega) | (repeat' first | assumption | exact Ext.refl _ | refine Ext.app ?_ _)) only [go_sem]; rfl)))); (try ((first | apply aops_until | apply adraw_until); (simp (disch := first | exact List.all_nil | omega | (simp only [go_sem]; done) | (simp only [ln, List.length_map]; omega) | (repeat' first | assumption | exact Ext.refl _ | refine Ext.app ?_ _)) only [go_sem]; rfl))))
    exact fin_1 ⟨by rw [e1]; rfl, xG⟩
  by_cases h3 : cols < (ll.getD 0 []).length
  · have e1 : gridErrL rows cols ll = 8 := by unfold gridErrL; rw [if_neg g0, if_pos (.inr h3)]
    ((repeat (first | refine q1 ?_ | refine q2 ?_ | refine q3 ?_ | refine q4 ?_ | refine q5 ?_ | refine q6 ?_ | refine q7 ?_ | refine q8 ?_ | refine q9 ?_ | refine qa ?_ | refine qb ?_ | refine qc ?_ | refine qd ?_ | refine qe (by decide) ?_ | refine qf ?_ | refine qg ?_ | ((first | apply aops_all | apply adraw_all); (simp (disch := first | exact List.all_nil | omega | (simp only [go_sem]; done) | (simp only [ln, List.length_map]; omega) | (repeat' first | assumption | exact Ext.refl _ | refine Ext.app ?_ _)) only [go_sem, hL.len, hL.idx, hL.load, hrow0.len, hrow0.idx, hrow0.load, z0, dec_f h2, dec_t h3]; rfl)))); (try ((first | apply aops_until | apply adraw_until); (simp (disch := first | exact List.all_nil | omega | (simp only [go_sem]; done) | (simp only [ln, List.length_map]; omega) | (repeat' first | assumption | exact Ext.refl _ | refine Ext.app ?_ _)) only [go_sem, hL.len, hL.idx, hL.load, hrow0.len, hrow0.idx, hrow0.load, z0, dec_f h2, dec_t h3]; rfl))))
    refine cond_t rfl ?_
    ((repeat (first | refine q1 ?_ | refine q2 ?_ | refine q3 ?_ | refine q4 ?_ | refine q5 ?_ | refine q6 ?_ | refine q7 ?_ | refine q8 ?_ | refine q9 ?_ | refine qa ?_ | refine qb ?_ | refine qc ?_ | refine qd ?_ | refine qe (by decide) ?_ | refine qf ?_ | refine qg ?_ | ((first | apply aops_all | apply adraw_all); (simp (disch := first | exact List.all_nil | omega | (simp only [go_sem]; done) | (simp only [ln, List.length_map]; omega) | (repeat' first | assumption | exact Ext.refl _ | refine Ext.app ?_ _)) only [go_sem]; rfl)))); (try ((first | apply aops_until | apply adraw_until); (simp (disch := first | exact List.all_nil | omega | (simp only [go_sem]; done) | (simp only [ln, List.length_map]; omega) | (repeat' first | assumption | exact Ext.refl _ | refine Ext.app ?_ _)) only [go_sem]; rfl))))
    exact fin_1 ⟨by rw [e1]; rfl, xG⟩
  ((repeat (first | refine q1 ?_ | refine q2 ?_ | refine q3 ?_ | refine q4 ?_ | refine q5 ?_ | refine q6 ?_ | refine q7 ?_ | refine q8 ?_ | refine q9 ?_ | refine qa ?_ | refine qb ?_ | refine qc ?_ | refine qd ?_ | refine qe (by decide) ?_ | refine qf ?_ | refine qg ?_ | ((first | apply aops_all | apply adraw_all); (simp (disch := first | exact List.all_nil | omega | (simp only [go_sem]; done) | (simp only [ln, List.length_map]; omega) | (repeat' first | assumption | exact Ext.refl _ | refine Ext.app ?_ _)) only [go_sem, hL.len, hL.idx, hL.load, hrow0.len, hrow0.idx, hrow0.load, z0, dec_f h2, dec_f h3]; rfl)))); (try ((first | apply aops_until | apply adraw_until); (simp (disch := first | exact List.all_nil | omega | (simp only [go_sem]; done) | (simp only [ln, List.length_map]; omega) | (repeat' first | assumption | exact Ext.refl _ | refine Ext.app ?_ _)) only [go_sem, hL.len, hL.idx, hL.load, hrow0.len, hrow0.idx, hrow0.load, z0, dec_f h2, dec_f h3]; rfl))))
  refine cond_f rfl ?_
  have e1 : gridErrL rows cols ll = gridGo (ll.getD 0 []).length ll := by unfold gridErrL; rw [if_neg g0, if_neg (by omega)]
  ((repeat (first | refine q1 ?_ | refine q2 ?_ | refine q3 ?_ | refine q4 ?_ | refine q5 ?_ | refine q6 ?_ | refine q7 ?_ | refine q8 ?_ | refine q9 ?_ | refine qa ?_ | refine qb ?_ | refine qc ?_ | refine qd ?_ | refine qe (by decide) ?_ | refine qf ?_ | refine qg ?_ | ((first | apply aops_all | apply adraw_all); (simp (disch := first | exact List.all_nil | omega | (simp only [go_sem]; done) | (simp only [ln, List.length_map]; omega) | (repeat' first | assumption | exact Ext.refl _ | refine Ext.app ?_ _)) only [go_sem, hL.len, hL.idx, hL.load]; rfl)))); (try ((first | apply aops_until | apply adraw_until); (simp (disch := first | exact List.all_nil | omega | (simp only [go_sem]; done) | (simp only [ln, List.length_map]; omega) | (repeat' first | assumption | exact Ext.refl _ | refine Ext.app ?_ _)) only [go_sem, hL.len, hL.idx, hL.load]; rfl))))
  refine awp_loop_n [true, false, false, false, false, false, false, true, false, false, false, false, false, false, false, false, false, false, false, false, false, false, false, false, false, false, false, false, false, false, false, false, false, false, false, true, true, true, false, false, false, false, false, false, false, false, false, false, false, false, false, false, false, false, false, false, false, false, false, false, false] ll.length (fun i e H' => e = [v, junk, junk, junk, junk, junk, junk, .pointer (some ⟨H.length, 0, none⟩), junk, junk, junk, junk, junk, junk, junk, junk, junk, junk, junk, junk, junk, junk, junk, junk, junk, junk, junk, junk, junk, junk, junk, junk, junk, junk, junk, v, .int .i64 ll.length, .int .i64 i, junk, junk, junk, junk, junk, junk, junk, junk, junk, junk, junk, junk, junk, junk, junk, junk, junk, junk, junk, junk, junk, junk, junk] ∧ Ext G H' ∧ gridGo (ll.getD 0 []).length (ll.drop i) = gridGo (ll.getD 0 []).length ll) ?_ ?_
  · exact ⟨by simp [forget], Ext.refl _, rfl⟩
  rintro i e H1 hi ⟨rfl, hx, hv⟩
  have hL1 := hL.ext hx
  have hrow01 := hrow0.ext hx
  have hbox1 : H1[H.length]? = some (AObj.cells true 0 [.int .i64 255]) := by obtain ⟨N, rfl⟩ := hx; exact at_app hbox
  ((repeat (first | refine q1 ?_ | refine q2 ?_ | refine q3 ?_ | refine q4 ?_ | refine q5 ?_ | refine q6 ?_ | refine q7 ?_ | refine q8 ?_ | refine q9 ?_ | refine qa ?_ | refine qb ?_ | refine qc ?_ | refine qd ?_ | refine qe (by decide) ?_ | refine qf ?_ | refine qg ?_ | ((first | apply aops_all | apply adraw_all); (simp (disch := first | exact List.all_nil | omega | (simp only [go_sem]; done) | (simp only [ln, List.length_map]; omega) | (repeat' first | assumption | exact Ext.refl _ | refine Ext.app ?_ _)) only [go_sem]; rfl)))); (try ((first | apply aops_until | apply adraw_until); (simp (disch := first | exact List.all_nil | omega | (simp only [go_sem]; done) | (simp only [ln, List.length_map]; omega) | (repeat' first | assumption | exact Ext.refl _ | refine Ext.app ?_ _)) only [go_sem]; rfl))))
  refine cond_p rfl (fun hlt => ?_) (fun hge => ?_)
  · have hi' : i < ll.length := by omega
    have hrow := hL1.row hi'
    have hrl := hr i hi'
    rw [gridGo_step hi'] at hv
    ((repeat (first | refine q1 ?_ | refine q2 ?_ | refine q3 ?_ | refine q4 ?_ | refine q5 ?_ | refine q6 ?_ | refine q7 ?_ | refine q8 ?_ | refine q9 ?_ | refine qa ?_ | refine qb ?_ | refine qc ?_ | refine qd ?_ | refine qe (by decide) ?_ | refine qf ?_ | refine qg ?_ | ((first | apply aops_all | apply adraw_all); (simp (disch := first | exact List.all_nil | omega | (simp only [go_sem]; done) | (simp only [ln, List.length_map]; omega) | (repeat' first | assumption | exact Ext.refl _ | refine Ext.app ?_ _)) only [go_sem, hL1.len, hL1.idx, hL1.load]; rfl)))); (try ((first | apply aops_until | apply adraw_until); (simp (disch := first | exact List.all_nil | omega | (simp only [go_sem]; done) | (simp only [ln, List.length_map]; omega) | (repeat' first | assumption | exact Ext.refl _ | refine Ext.app ?_ _)) only [go_sem, hL1.len, hL1.idx, hL1.load]; rfl))))
    refine aops_call_to (containsFuncAt_c hrow (gridErr1S_c hbox1) (by omega)) ?_
    ((repeat (first | refine q1 ?_ | refine q2 ?_ | refine q3 ?_ | refine q4 ?_ | refine q5 ?_ | refine q6 ?_ | refine q7 ?_ | refine q8 ?_ | refine q9 ?_ | refine qa ?_ | refine qb ?_ | refine qc ?_ | refine qd ?_ | refine qe (by decide) ?_ | refine qf ?_ | refine qg ?_ | ((first | apply aops_all | apply adraw_all); (simp (disch := first | exact List.all_nil | omega | (simp only [go_sem]; done) | (simp only [ln, List.length_map]; omega) | (repeat' first | assumption | exact Ext.refl _ | refine Ext.app ?_ _)) only [go_sem, hL1.len, hL1.idx, hL1.load, hrow.len, hrow.idx, hrow.load, hrow01.len, hrow01.idx, hrow01.load, z0]; rfl)))); (try ((first | apply aops_until | apply adraw_until); (simp (disch := first | exact List.all_nil | omega | (simp only [go_sem]; done) | (simp only [ln, List.length_map]; omega) | (repeat' first | assumption | exact Ext.refl _ | refine Ext.app ?_ _)) only [go_sem, hL1.len, hL1.idx, hL1.load, hrow.len, hrow.idx, hrow.load, hrow01.len, hrow01.idx, hrow01.load, z0]; rfl))))
    refine aops_call_to (unless_c _ _) ?_
    ((repeat (first | refine q1 ?_ | refine q2 ?_ | refine q3 ?_ | refine q4 ?_ | refine q5 ?_ | refine q6 ?_ | refine q7 ?_ | refine q8 ?_ | refine q9 ?_ | refine qa ?_ | refine qb ?_ | refine qc ?_ | refine qd ?_ | refine qe (by decide) ?_ | refine qf ?_ | refine qg ?_ | ((first | apply aops_all | apply adraw_all); (simp (disch := first | exact List.all_nil | omega | (simp only [go_sem]; done) | (simp only [ln, List.length_map]; omega) | (repeat' first | assumption | exact Ext.refl _ | refine Ext.app ?_ _)) only [go_sem]; rfl)))); (try ((first | apply aops_until | apply adraw_until); (simp (disch := first | exact List.all_nil | omega | (simp only [go_sem]; done) | (simp only [ln, List.length_map]; omega) | (repeat' first | assumption | exact Ext.refl _ | refine Ext.app ?_ _)) only [go_sem]; rfl))))
    refine aops_call_to (unless_c _ _) ?_
    ((repeat (first | refine q1 ?_ | refine q2 ?_ | refine q3 ?_ | refine q4 ?_ | refine q5 ?_ | refine q6 ?_ | refine q7 ?_ | refine q8 ?_ | refine q9 ?_ | refine qa ?_ | refine qb ?_ | refine qc ?_ | refine qd ?_ | refine qe (by decide) ?_ | refine qf ?_ | refine qg ?_ | ((first | apply aops_all | apply adraw_all); (simp (disch := first | exact List.all_nil | omega | (simp only [go_sem]; done) | (simp only [ln, List.length_map]; omega) | (repeat' first | assumption | exact Ext.refl _ | refine Ext.app ?_ _)) only [go_sem]; rfl)))); (try ((first | apply aops_until | apply adraw_until); (simp (disch := first | exact List.all_nil | omega | (simp only [go_sem]; done) | (simp only [ln, List.length_map]; omega) | (repeat' first | assumption | exact Ext.refl _ | refine Ext.app ?_ _)) only [go_sem]; rfl))))
    refine aops_call_to (first_c (l := [_, _]) (Ints.last (l := [_, _]) 2) (by simp)) ?_
    rw [firstErr_gridRow]
    ((repeat (first | refine q1 ?_ | refine q2 ?_ | refine q3 ?_ | refine q4 ?_ | refine q5 ?_ | refine q6 ?_ | refine q7 ?_ | refine q8 ?_ | refine q9 ?_ | refine qa ?_ | refine qb ?_ | refine qc ?_ | refine qd ?_ | refine qe (by decide) ?_ | refine qf ?_ | refine qg ?_ | ((first | apply aops_all | apply adraw_all); (simp (disch := first | exact List.all_nil | omega | (simp only [go_sem]; done) | (simp only [ln, List.length_map]; omega) | (repeat' first | assumption | exact Ext.refl _ | refine Ext.app ?_ _)) only [go_sem]; rfl)))); (try ((first | apply aops_until | apply adraw_until); (simp (disch := first | exact List.all_nil | omega | (simp only [go_sem]; done) | (simp only [ln, List.length_map]; omega) | (repeat' first | assumption | exact Ext.refl _ | refine Ext.app ?_ _)) only [go_sem]; rfl))))
    refine cond_p rfl (fun hne => ?_) (fun heq => ?_)
    · rw [if_neg hne] at hv
      ((repeat (first | refine q1 ?_ | refine q2 ?_ | refine q3 ?_ | refine q4 ?_ | refine q5 ?_ | refine q6 ?_ | refine q7 ?_ | refine q8 ?_ | refine q9 ?_ | refine qa ?_ | refine qb ?_ | refine qc ?_ | refine qd ?_ | refine qe (by decide) ?_ | refine qf ?_ | refine qg ?_ | ((first | apply aops_all | apply adraw_all); (simp (disch := first | exact List.all_nil | omega | (simp only [go_sem]; done) | (simp only [ln, List.length_map]; omega) | (repeat' first | assumption | exact Ext.refl _ | refine Ext.app ?_ _)) only [go_sem]; rfl)))); (try ((first | apply aops_until | apply adraw_until); (simp (disch := first | exact List.all_nil | omega | (simp only [go_sem]; done) | (simp only [ln, List.length_map]; omega) | (repeat' first | assumption | exact Ext.refl _ | refine Ext.app ?_ _)) only [go_sem]; rfl))))
      exact fin_1 ⟨by rw [e1, ← hv]; rfl, (xG.trans hx).app _⟩
    · rw [if_pos (Decidable.not_not.1 heq)] at hv
      ((repeat (first | refine q1 ?_ | refine q2 ?_ | refine q3 ?_ | refine q4 ?_ | refine q5 ?_ | refine q6 ?_ | refine q7 ?_ | refine q8 ?_ | refine q9 ?_ | refine qa ?_ | refine qb ?_ | refine qc ?_ | refine qd ?_ | refine qe (by decide) ?_ | refine qf ?_ | refine qg ?_ | ((first | apply aops_all | apply adraw_all); (simp (disch := first | exact List.all_nil | omega | (simp only [go_sem]; done) | (simp only [ln, List.length_map]; omega) | (repeat' first | assumption | exact Ext.refl _ | refine Ext.app ?_ _)) only [go_sem]; rfl)))); (try ((first | apply aops_until | apply adraw_until); (simp (disch := first | exact List.all_nil | omega | (simp only [go_sem]; done) | (simp only [ln, List.length_map]; omega) | (repeat' first | assumption | exact Ext.refl _ | refine Ext.app ?_ _)) only [go_sem]; rfl))))
      exact ⟨by omega, by simp [forget], hx.app _, hv⟩
  · rw [gridGo_end (by omega)] at hv
    ((repeat (first | refine q1 ?_ | refine q2 ?_ | refine q3 ?_ | refine q4 ?_ | refine q5 ?_ | refine q6 ?_ | refine q7 ?_ | refine q8 ?_ | refine q9 ?_ | refine qa ?_ | refine qb ?_ | refine qc ?_ | refine qd ?_ | refine qe (by decide) ?_ | refine qf ?_ | refine qg ?_ | ((first | apply aops_all | apply adraw_all); (simp (disch := first | exact List.all_nil | omega | (simp only [go_sem]; done) | (simp only [ln, List.length_map]; omega) | (repeat' first | assumption | exact Ext.refl _ | refine Ext.app ?_ _)) only [go_sem]; rfl)))); (try ((first | apply aops_until | apply adraw_until); (simp (disch := first | exact List.all_nil | omega | (simp only [go_sem]; done) | (simp only [ln, List.length_map]; omega) | (repeat' first | assumption | exact Ext.refl _ | refine Ext.app ?_ _)) only [go_sem]; rfl))))
    exact fin_1 ⟨by rw [e1, ← hv]; rfl, xG.trans hx⟩

/-- A strip's rows all short enough to look at. -/
def stripB (ll : List (List Int)) : Bool := decide ((ll.length : Int) ≤ 42 ∧ ∀ i : Nat, i < ll.length → ((ll.getD i []).length : Int) ≤ 14)
def taskErrL (ll : List (List Int)) (bend : Int) : Int := if gridErrL 40 12 ll = 0 then (if 0 ≤ bend ∧ bend ≤ 1000 then 0 else 2) else gridErrL 40 12 ll

theorem strip_c {ll : List (List Int)} {vs : List Value} {v : Value} (hL : Lists H ll vs v) (hb : ll.length ≤ maxLen) :
    ACall Go.Proofs.Tryd.prog 21 [v] H fun v1 H1 => v1 = .bool (stripB ll) ∧ H1 = H := by
  (refine a21 ?_; simp only [n21, List.replicate, List.length_cons, List.length_nil, List.cons_append, List.nil_append])
  ((repeat (first | refine q1 ?_ | refine q2 ?_ | refine q3 ?_ | refine q4 ?_ | refine q5 ?_ | refine q6 ?_ | refine q7 ?_ | refine q8 ?_ | refine q9 ?_ | refine qa ?_ | refine qb ?_ | refine qc ?_ | refine qd ?_ | refine qe (by decide) ?_ | refine qf ?_ | refine qg ?_ | ((first | apply aops_all | apply adraw_all); (simp (disch := first | exact List.all_nil | omega | (simp only [go_sem]; done) | (simp only [ln, List.length_map]; omega) | (repeat' first | assumption | exact Ext.refl _ | refine Ext.app ?_ _)) only [go_sem]; rfl)))); (try ((first | apply aops_until | apply adraw_until); (simp (disch := first | exact List.all_nil | omega | (simp only [go_sem]; done) | (simp only [ln, List.length_map]; omega) | (repeat' first | assumption | exact Ext.refl _ | refine Ext.app ?_ _)) only [go_sem]; rfl))))
  refine aops_call_to (grid_c hL hb (by omega) (by omega)) ?_
  ((repeat (first | refine q1 ?_ | refine q2 ?_ | refine q3 ?_ | refine q4 ?_ | refine q5 ?_ | refine q6 ?_ | refine q7 ?_ | refine q8 ?_ | refine q9 ?_ | refine qa ?_ | refine qb ?_ | refine qc ?_ | refine qd ?_ | refine qe (by decide) ?_ | refine qf ?_ | refine qg ?_ | ((first | apply aops_all | apply adraw_all); (simp (disch := first | exact List.all_nil | omega | (simp only [go_sem]; done) | (simp only [ln, List.length_map]; omega) | (repeat' first | assumption | exact Ext.refl _ | refine Ext.app ?_ _)) only [go_sem]; rfl)))); (try ((first | apply aops_until | apply adraw_until); (simp (disch := first | exact List.all_nil | omega | (simp only [go_sem]; done) | (simp only [ln, List.length_map]; omega) | (repeat' first | assumption | exact Ext.refl _ | refine Ext.app ?_ _)) only [go_sem]; rfl))))
  exact fin_1 ⟨rfl, rfl⟩
theorem stripErr_c {ll : List (List Int)} {vs : List Value} {v : Value} (hL : Lists H ll vs v) (hb : ll.length ≤ 1000000000) (hr : ∀ i, i < ll.length → (ll.getD i []).length ≤ 1000000000) :
    ACall Go.Proofs.Tryd.prog 69 [v] H fun v1 H1 => v1 = .int .i64 (gridErrL 40 12 ll) ∧ H1 = H := by
  (refine a69 ?_; simp only [n69, List.replicate, List.length_cons, List.length_nil, List.cons_append, List.nil_append])
  ((repeat (first | refine q1 ?_ | refine q2 ?_ | refine q3 ?_ | refine q4 ?_ | refine q5 ?_ | refine q6 ?_ | refine q7 ?_ | refine q8 ?_ | refine q9 ?_ | refine qa ?_ | refine qb ?_ | refine qc ?_ | refine qd ?_ | refine qe (by decide) ?_ | refine qf ?_ | refine qg ?_ | ((first | apply aops_all | apply adraw_all); (simp (disch := first | exact List.all_nil | omega | (simp only [go_sem]; done) | (simp only [ln, List.length_map]; omega) | (repeat' first | assumption | exact Ext.refl _ | refine Ext.app ?_ _)) only [go_sem]; rfl)))); (try ((first | apply aops_until | apply adraw_until); (simp (disch := first | exact List.all_nil | omega | (simp only [go_sem]; done) | (simp only [ln, List.length_map]; omega) | (repeat' first | assumption | exact Ext.refl _ | refine Ext.app ?_ _)) only [go_sem]; rfl))))
  refine aops_call_to (refGridErr_c hL hb hr) ?_
  ((repeat (first | refine q1 ?_ | refine q2 ?_ | refine q3 ?_ | refine q4 ?_ | refine q5 ?_ | refine q6 ?_ | refine q7 ?_ | refine q8 ?_ | refine q9 ?_ | refine qa ?_ | refine qb ?_ | refine qc ?_ | refine qd ?_ | refine qe (by decide) ?_ | refine qf ?_ | refine qg ?_ | ((first | apply aops_all | apply adraw_all); (simp (disch := first | exact List.all_nil | omega | (simp only [go_sem]; done) | (simp only [ln, List.length_map]; omega) | (repeat' first | assumption | exact Ext.refl _ | refine Ext.app ?_ _)) only [go_sem]; rfl)))); (try ((first | apply aops_until | apply adraw_until); (simp (disch := first | exact List.all_nil | omega | (simp only [go_sem]; done) | (simp only [ln, List.length_map]; omega) | (repeat' first | assumption | exact Ext.refl _ | refine Ext.app ?_ _)) only [go_sem]; rfl))))
  exact fin_1 ⟨rfl, rfl⟩
theorem checkStrip_c {ll : List (List Int)} {vs : List Value} {v : Value} (hL : Lists H ll vs v) (hb : ll.length ≤ 1000000000) (hr : ∀ i, i < ll.length → (ll.getD i []).length ≤ 1000000000) :
    ACall Go.Proofs.Tryd.prog 68 [v] H fun v1 H1 => v1 = .int .i64 (gridErrL 40 12 ll) ∧ H1 = H := by
  (refine a68 ?_; simp only [n68, List.replicate, List.length_cons, List.length_nil, List.cons_append, List.nil_append])
  ((repeat (first | refine q1 ?_ | refine q2 ?_ | refine q3 ?_ | refine q4 ?_ | refine q5 ?_ | refine q6 ?_ | refine q7 ?_ | refine q8 ?_ | refine q9 ?_ | refine qa ?_ | refine qb ?_ | refine qc ?_ | refine qd ?_ | refine qe (by decide) ?_ | refine qf ?_ | refine qg ?_ | ((first | apply aops_all | apply adraw_all); (simp (disch := first | exact List.all_nil | omega | (simp only [go_sem]; done) | (simp only [ln, List.length_map]; omega) | (repeat' first | assumption | exact Ext.refl _ | refine Ext.app ?_ _)) only [go_sem]; rfl)))); (try ((first | apply aops_until | apply adraw_until); (simp (disch := first | exact List.all_nil | omega | (simp only [go_sem]; done) | (simp only [ln, List.length_map]; omega) | (repeat' first | assumption | exact Ext.refl _ | refine Ext.app ?_ _)) only [go_sem]; rfl))))
  refine aops_call_to (gridErrS_c hL hb hr) ?_
  ((repeat (first | refine q1 ?_ | refine q2 ?_ | refine q3 ?_ | refine q4 ?_ | refine q5 ?_ | refine q6 ?_ | refine q7 ?_ | refine q8 ?_ | refine q9 ?_ | refine qa ?_ | refine qb ?_ | refine qc ?_ | refine qd ?_ | refine qe (by decide) ?_ | refine qf ?_ | refine qg ?_ | ((first | apply aops_all | apply adraw_all); (simp (disch := first | exact List.all_nil | omega | (simp only [go_sem]; done) | (simp only [ln, List.length_map]; omega) | (repeat' first | assumption | exact Ext.refl _ | refine Ext.app ?_ _)) only [go_sem]; rfl)))); (try ((first | apply aops_until | apply adraw_until); (simp (disch := first | exact List.all_nil | omega | (simp only [go_sem]; done) | (simp only [ln, List.length_map]; omega) | (repeat' first | assumption | exact Ext.refl _ | refine Ext.app ?_ _)) only [go_sem]; rfl))))
  exact fin_1 ⟨rfl, rfl⟩

theorem Lists.box2 {ll : List (List Int)} {vs : List Value} {v : Value} {n : Int} (h : Lists H ll vs v) {H' : AHeap} : boxR (.agg ⟨[v, .int .i64 n]⟩) H' = some (.pointer (some ⟨H'.length, 0, none⟩), H' ++ [.cells true 0 [v, .int .i64 n]]) :=
  box_agg (by simp [h.atom, isAtom_int])

theorem taskErr_c {ll : List (List Int)} {vs : List Value} {v : Value} {bend : Int} (hL : Lists H ll vs v) (hb : ll.length ≤ 1000000000) (hr : ∀ i, i < ll.length → (ll.getD i []).length ≤ 1000000000) :
    ACall Go.Proofs.Tryd.prog 26 [.agg ⟨[v, .int .i64 bend]⟩] H fun v1 H1 => v1 = .int .i64 (taskErrL ll bend) ∧ H1 = H := by
  refine ACall.drop (.int _ _) ?_
  (refine a26 ?_; simp only [n26, List.replicate, List.length_cons, List.length_nil, List.cons_append, List.nil_append])
  ((repeat (first | refine q1 ?_ | refine q2 ?_ | refine q3 ?_ | refine q4 ?_ | refine q5 ?_ | refine q6 ?_ | refine q7 ?_ | refine q8 ?_ | refine q9 ?_ | refine qa ?_ | refine qb ?_ | refine qc ?_ | refine qd ?_ | refine qe (by decide) ?_ | refine qf ?_ | refine qg ?_ | ((first | apply aops_all | apply adraw_all); (simp (disch := first | exact List.all_nil | omega | (simp only [go_sem]; done) | (simp only [ln, List.length_map]; omega) | (repeat' first | assumption | exact Ext.refl _ | refine Ext.app ?_ _)) only [go_sem, hL.box2]; rfl)))); (try ((first | apply aops_until | apply adraw_until); (simp (disch := first | exact List.all_nil | omega | (simp only [go_sem]; done) | (simp only [ln, List.length_map]; omega) | (repeat' first | assumption | exact Ext.refl _ | refine Ext.app ?_ _)) only [go_sem, hL.box2]; rfl))))
  have xG : Ext H (H ++ [AObj.cells true 0 [v, .int .i64 bend]]) := (Ext.refl H).app _
  refine aops_call_to (stripErr_c (hL.ext xG) hb hr) ?_
  ((repeat (first | refine q1 ?_ | refine q2 ?_ | refine q3 ?_ | refine q4 ?_ | refine q5 ?_ | refine q6 ?_ | refine q7 ?_ | refine q8 ?_ | refine q9 ?_ | refine qa ?_ | refine qb ?_ | refine qc ?_ | refine qd ?_ | refine qe (by decide) ?_ | refine qf ?_ | refine qg ?_ | ((first | apply aops_all | apply adraw_all); (simp (disch := first | exact List.all_nil | omega | (simp only [go_sem]; done) | (simp only [ln, List.length_map]; omega) | (repeat' first | assumption | exact Ext.refl _ | refine Ext.app ?_ _)) only [go_sem]; rfl)))); (try ((first | apply aops_until | apply adraw_until); (simp (disch := first | exact List.all_nil | omega | (simp only [go_sem]; done) | (simp only [ln, List.length_map]; omega) | (repeat' first | assumption | exact Ext.refl _ | refine Ext.app ?_ _)) only [go_sem]; rfl))))
  refine cond_p rfl (fun hne => ?_) (fun heq => ?_)
  · ((repeat (first | refine q1 ?_ | refine q2 ?_ | refine q3 ?_ | refine q4 ?_ | refine q5 ?_ | refine q6 ?_ | refine q7 ?_ | refine q8 ?_ | refine q9 ?_ | refine qa ?_ | refine qb ?_ | refine qc ?_ | refine qd ?_ | refine qe (by decide) ?_ | refine qf ?_ | refine qg ?_ | ((first | apply aops_all | apply adraw_all); (simp (disch := first | exact List.all_nil | omega | (simp only [go_sem]; done) | (simp only [ln, List.length_map]; omega) | (repeat' first | assumption | exact Ext.refl _ | refine Ext.app ?_ _)) only [go_sem]; rfl)))); (try ((first | apply aops_until | apply adraw_until); (simp (disch := first | exact List.all_nil | omega | (simp only [go_sem]; done) | (simp only [ln, List.length_map]; omega) | (repeat' first | assumption | exact Ext.refl _ | refine Ext.app ?_ _)) only [go_sem]; rfl))))
    exact fin_1 ⟨by unfold taskErrL; rw [if_neg hne]; rfl, xG⟩
  · have heq' : gridErrL 40 12 ll = 0 := Decidable.not_not.1 heq
    ((repeat (first | refine q1 ?_ | refine q2 ?_ | refine q3 ?_ | refine q4 ?_ | refine q5 ?_ | refine q6 ?_ | refine q7 ?_ | refine q8 ?_ | refine q9 ?_ | refine qa ?_ | refine qb ?_ | refine qc ?_ | refine qd ?_ | refine qe (by decide) ?_ | refine qf ?_ | refine qg ?_ | ((first | apply aops_all | apply adraw_all); (simp (disch := first | exact List.all_nil | omega | (simp only [go_sem]; done) | (simp only [ln, List.length_map]; omega) | (repeat' first | assumption | exact Ext.refl _ | refine Ext.app ?_ _)) only [go_sem]; rfl)))); (try ((first | apply aops_until | apply adraw_until); (simp (disch := first | exact List.all_nil | omega | (simp only [go_sem]; done) | (simp only [ln, List.length_map]; omega) | (repeat' first | assumption | exact Ext.refl _ | refine Ext.app ?_ _)) only [go_sem]; rfl))))
    refine aops_call_to (bwithin_c _ _ _) ?_
    ((repeat (first | refine q1 ?_ | refine q2 ?_ | refine q3 ?_ | refine q4 ?_ | refine q5 ?_ | refine q6 ?_ | refine q7 ?_ | refine q8 ?_ | refine q9 ?_ | refine qa ?_ | refine qb ?_ | refine qc ?_ | refine qd ?_ | refine qe (by decide) ?_ | refine qf ?_ | refine qg ?_ | ((first | apply aops_all | apply adraw_all); (simp (disch := first | exact List.all_nil | omega | (simp only [go_sem]; done) | (simp only [ln, List.length_map]; omega) | (repeat' first | assumption | exact Ext.refl _ | refine Ext.app ?_ _)) only [go_sem]; rfl)))); (try ((first | apply aops_until | apply adraw_until); (simp (disch := first | exact List.all_nil | omega | (simp only [go_sem]; done) | (simp only [ln, List.length_map]; omega) | (repeat' first | assumption | exact Ext.refl _ | refine Ext.app ?_ _)) only [go_sem]; rfl))))
    refine cond_n rfl (fun hn => ?_) (fun hy => ?_)
    · ((repeat (first | refine q1 ?_ | refine q2 ?_ | refine q3 ?_ | refine q4 ?_ | refine q5 ?_ | refine q6 ?_ | refine q7 ?_ | refine q8 ?_ | refine q9 ?_ | refine qa ?_ | refine qb ?_ | refine qc ?_ | refine qd ?_ | refine qe (by decide) ?_ | refine qf ?_ | refine qg ?_ | ((first | apply aops_all | apply adraw_all); (simp (disch := first | exact List.all_nil | omega | (simp only [go_sem]; done) | (simp only [ln, List.length_map]; omega) | (repeat' first | assumption | exact Ext.refl _ | refine Ext.app ?_ _)) only [go_sem]; rfl)))); (try ((first | apply aops_until | apply adraw_until); (simp (disch := first | exact List.all_nil | omega | (simp only [go_sem]; done) | (simp only [ln, List.length_map]; omega) | (repeat' first | assumption | exact Ext.refl _ | refine Ext.app ?_ _)) only [go_sem]; rfl))))
      exact fin_1 ⟨by unfold taskErrL; rw [if_pos heq', if_neg hn]; rfl, xG⟩
    · ((repeat (first | refine q1 ?_ | refine q2 ?_ | refine q3 ?_ | refine q4 ?_ | refine q5 ?_ | refine q6 ?_ | refine q7 ?_ | refine q8 ?_ | refine q9 ?_ | refine qa ?_ | refine qb ?_ | refine qc ?_ | refine qd ?_ | refine qe (by decide) ?_ | refine qf ?_ | refine qg ?_ | ((first | apply aops_all | apply adraw_all); (simp (disch := first | exact List.all_nil | omega | (simp only [go_sem]; done) | (simp only [ln, List.length_map]; omega) | (repeat' first | assumption | exact Ext.refl _ | refine Ext.app ?_ _)) only [go_sem]; rfl)))); (try ((first | apply aops_until | apply adraw_until); (simp (disch := first | exact List.all_nil | omega | (simp only [go_sem]; done) | (simp only [ln, List.length_map]; omega) | (repeat' first | assumption | exact Ext.refl _ | refine Ext.app ?_ _)) only [go_sem]; rfl))))
      exact fin_1 ⟨by unfold taskErrL; rw [if_pos heq', if_pos hy]; rfl, xG⟩

theorem store_at2v {id e : Nat} {x y a b : Value} (h : H[id]? = some (.cells true e [x, y])) (ha : isAtom a = true) (hb : isAtom b = true) : storeR 2 (.pointer (some ⟨id, 0, none⟩)) (.agg ⟨[a, b]⟩) H = some (undef, H.set id (.cells true e [a, b])) := by
  have e1 : (Value.agg ⟨[a, b]⟩).cells = ⟨[a, b]⟩ := rfl
  have e2 : ([a, b] : List Value).all isAtom = true := by simp [ha, hb]
  have e3 : setCells [x, y] 0 [a, b] = [a, b] := rfl
  simp only [storeR, e1, List.size_toArray, storeAt, h, e2, e3, and_true, List.length_cons, List.length_nil]
  rfl
theorem fillA_two {a b x y : Value} (ha : isAtom a = true) (hb : isAtom b = true) : fillA [x, y] [(0, 2, .agg ⟨[a, b]⟩)] = some [a, b] := by
  have e1 : (Value.agg ⟨[a, b]⟩).cells = ⟨[a, b]⟩ := rfl
  have e2 : ([a, b] : List Value).all isAtom = true := by simp [ha, hb]
  simp only [fillA, e1, List.size_toArray, e2, List.length_cons, List.length_nil]
  rfl

theorem open_c {ll : List (List Int)} {vs : List Value} {v : Value} {bend : Int} (hL : Lists H ll vs v) (hb : ll.length ≤ 1000000000) (hr : ∀ i, i < ll.length → (ll.getD i []).length ≤ 1000000000) :
    ACall Go.Proofs.Tryd.prog 89 [.agg ⟨[v, .int .i64 bend]⟩] H fun v1 H1 => v1 = .tuple #[.agg ⟨[v, .int .i64 bend]⟩, .int .i64 (taskErrL ll bend)] ∧ Ext H H1 := by
  (refine a89 ?_; simp only [n89, List.replicate, List.length_cons, List.length_nil, List.cons_append, List.nil_append])
  ((repeat (first | refine q1 ?_ | refine q2 ?_ | refine q3 ?_ | refine q4 ?_ | refine q5 ?_ | refine q6 ?_ | refine q7 ?_ | refine q8 ?_ | refine q9 ?_ | refine qa ?_ | refine qb ?_ | refine qc ?_ | refine qd ?_ | refine qe (by decide) ?_ | refine qf ?_ | refine qg ?_ | ((first | apply aops_all | apply adraw_all); (simp (disch := first | exact List.all_nil | omega | (simp only [go_sem]; done) | (simp only [ln, List.length_map]; omega) | (repeat' first | assumption | exact Ext.refl _ | refine Ext.app ?_ _)) only [go_sem, hL.box2]; rfl)))); (try ((first | apply aops_until | apply adraw_until); (simp (disch := first | exact List.all_nil | omega | (simp only [go_sem]; done) | (simp only [ln, List.length_map]; omega) | (repeat' first | assumption | exact Ext.refl _ | refine Ext.app ?_ _)) only [go_sem, hL.box2]; rfl))))
  (simp only [List.length_append, List.length_cons, List.length_nil, Nat.zero_add, Nat.add_assoc, Nat.reduceAdd])
  obtain ⟨G, hG⟩ : ∃ G, G = H ++ [AObj.cells true 0 [v, .int .i64 bend]] ++ [AObj.cells true 0 [.slice none 0 0, .int .i64 0]] := ⟨_, rfl⟩
  have g0 : G[H.length]? = some (.cells true 0 [v, .int .i64 bend]) := by rw [hG]; exact at_app at_new
  have g1 : G[H.length + 1]? = some (.cells true 0 [.slice none 0 0, .int .i64 0]) := by rw [hG]; simp
  have xG : Ext H G := by rw [hG]; exact ((Ext.refl H).app _).app _
  rw [← hG]
  clear hG
  have hLg := hL.ext xG
  ((repeat (first | refine q1 ?_ | refine q2 ?_ | refine q3 ?_ | refine q4 ?_ | refine q5 ?_ | refine q6 ?_ | refine q7 ?_ | refine q8 ?_ | refine q9 ?_ | refine qa ?_ | refine qb ?_ | refine qc ?_ | refine qd ?_ | refine qe (by decide) ?_ | refine qf ?_ | refine qg ?_ | ((first | apply aops_all | apply adraw_all); (simp (disch := first | exact List.all_nil | omega | (simp only [go_sem]; done) | (simp only [ln, List.length_map]; omega) | (repeat' first | assumption | exact Ext.refl _ | refine Ext.app ?_ _)) only [go_sem, loadN_at g0, load_at g0, fillA_two hL.atom (isAtom_int .i64 bend)]; rfl)))); (try ((first | apply aops_until | apply adraw_until); (simp (disch := first | exact List.all_nil | omega | (simp only [go_sem]; done) | (simp only [ln, List.length_map]; omega) | (repeat' first | assumption | exact Ext.refl _ | refine Ext.app ?_ _)) only [go_sem, loadN_at g0, load_at g0, fillA_two hL.atom (isAtom_int .i64 bend)]; rfl))))
  refine adraw_call (N := []) (firstD (checkStrip_c hLg hb hr)) ?_
  rw [List.append_nil]
  ((repeat (first | refine q1 ?_ | refine q2 ?_ | refine q3 ?_ | refine q4 ?_ | refine q5 ?_ | refine q6 ?_ | refine q7 ?_ | refine q8 ?_ | refine q9 ?_ | refine qa ?_ | refine qb ?_ | refine qc ?_ | refine qd ?_ | refine qe (by decide) ?_ | refine qf ?_ | refine qg ?_ | ((first | apply aops_all | apply adraw_all); (simp (disch := first | exact List.all_nil | omega | (simp only [go_sem]; done) | (simp only [ln, List.length_map]; omega) | (repeat' first | assumption | exact Ext.refl _ | refine Ext.app ?_ _)) only [go_sem, load_at g0]; rfl)))); (try ((first | apply aops_until | apply adraw_until); (simp (disch := first | exact List.all_nil | omega | (simp only [go_sem]; done) | (simp only [ln, List.length_map]; omega) | (repeat' first | assumption | exact Ext.refl _ | refine Ext.app ?_ _)) only [go_sem, load_at g0]; rfl))))
  refine adraw_call (N := []) (firstD (within_c _ _ _)) ?_
  rw [List.append_nil]
  ((repeat (first | refine q1 ?_ | refine q2 ?_ | refine q3 ?_ | refine q4 ?_ | refine q5 ?_ | refine q6 ?_ | refine q7 ?_ | refine q8 ?_ | refine q9 ?_ | refine qa ?_ | refine qb ?_ | refine qc ?_ | refine qd ?_ | refine qe (by decide) ?_ | refine qf ?_ | refine qg ?_ | ((first | apply aops_all | apply adraw_all); (simp (disch := first | exact List.all_nil | omega | (simp only [go_sem]; done) | (simp only [ln, List.length_map]; omega) | (repeat' first | assumption | exact Ext.refl _ | refine Ext.app ?_ _)) only [go_sem]; rfl)))); (try ((first | apply aops_until | apply adraw_until); (simp (disch := first | exact List.all_nil | omega | (simp only [go_sem]; done) | (simp only [ln, List.length_map]; omega) | (repeat' first | assumption | exact Ext.refl _ | refine Ext.app ?_ _)) only [go_sem]; rfl))))
  refine adraw_call (N := []) (firstD (unless_c _ _)) ?_
  rw [List.append_nil]
  ((repeat (first | refine q1 ?_ | refine q2 ?_ | refine q3 ?_ | refine q4 ?_ | refine q5 ?_ | refine q6 ?_ | refine q7 ?_ | refine q8 ?_ | refine q9 ?_ | refine qa ?_ | refine qb ?_ | refine qc ?_ | refine qd ?_ | refine qe (by decide) ?_ | refine qf ?_ | refine qg ?_ | ((first | apply aops_all | apply adraw_all); (simp (disch := first | exact List.all_nil | omega | (simp only [go_sem]; done) | (simp only [ln, List.length_map]; omega) | (repeat' first | assumption | exact Ext.refl _ | refine Ext.app ?_ _)) only [go_sem]; rfl)))); (try ((first | apply aops_until | apply adraw_until); (simp (disch := first | exact List.all_nil | omega | (simp only [go_sem]; done) | (simp only [ln, List.length_map]; omega) | (repeat' first | assumption | exact Ext.refl _ | refine Ext.app ?_ _)) only [go_sem]; rfl))))
  refine adraw_call (N := []) (firstD (first_c (l := [_, _]) (Ints.last (l := [_, _]) 2) (by simp))) ?_
  rw [List.append_nil]
  have he : firstErr [gridErrL 40 12 ll, if decide (0 ≤ bend ∧ bend ≤ 1000) = true then 0 else 2] = taskErrL ll bend := by
    unfold firstErr taskErrL
    by_cases h1 : gridErrL 40 12 ll = 0
    · by_cases h2 : 0 ≤ bend ∧ bend ≤ 1000 <;> simp [h1, h2]
    · simp [h1]
  rw [he]
  have hst := store_at2v (at_app (N := [AObj.cells true 1 [.int .i64 (gridErrL 40 12 ll), .int .i64 (if decide (0 ≤ bend ∧ bend ≤ 1000) = true then 0 else 2)]]) g1) hL.atom (isAtom_int .i64 bend)
  ((repeat (first | refine q1 ?_ | refine q2 ?_ | refine q3 ?_ | refine q4 ?_ | refine q5 ?_ | refine q6 ?_ | refine q7 ?_ | refine q8 ?_ | refine q9 ?_ | refine qa ?_ | refine qb ?_ | refine qc ?_ | refine qd ?_ | refine qe (by decide) ?_ | refine qf ?_ | refine qg ?_ | ((first | apply aops_all | apply adraw_all); (simp (disch := first | exact List.all_nil | omega | (simp only [go_sem]; done) | (simp only [ln, List.length_map]; omega) | (repeat' first | assumption | exact Ext.refl _ | refine Ext.app ?_ _)) only [go_sem, hst]; rfl)))); (try ((first | apply aops_until | apply adraw_until); (simp (disch := first | exact List.all_nil | omega | (simp only [go_sem]; done) | (simp only [ln, List.length_map]; omega) | (repeat' first | assumption | exact Ext.refl _ | refine Ext.app ?_ _)) only [go_sem, hst]; rfl))))
  refine fin_l2 (u := .agg ⟨[v, .int .i64 bend]⟩) ?_ ⟨rfl, ?_⟩
  · exact loadN_at (k := 0) (get_set_self (at_app g1)) (by simp)
  · exact (xG.app _).set (by omega) _

theorem last_c {ll : List (List Int)} {vs : List Value} {v : Value} {bend : Int} (hL : Lists H ll vs v) (hb : ll.length ≤ 1000000000) :
    ACall Go.Proofs.Tryd.prog 118 [.agg ⟨[v, .int .i64 bend]⟩] H fun v1 H1 => v1 = .int .i64 ((ll.length : Int) - 1) ∧ H1 = H := by
  refine ACall.drop (.int _ _) ?_
  (refine a118 ?_; simp only [n118, List.replicate, List.length_cons, List.length_nil, List.cons_append, List.nil_append])
  ((repeat (first | refine q1 ?_ | refine q2 ?_ | refine q3 ?_ | refine q4 ?_ | refine q5 ?_ | refine q6 ?_ | refine q7 ?_ | refine q8 ?_ | refine q9 ?_ | refine qa ?_ | refine qb ?_ | refine qc ?_ | refine qd ?_ | refine qe (by decide) ?_ | refine qf ?_ | refine qg ?_ | ((first | apply aops_all | apply adraw_all); (simp (disch := first | exact List.all_nil | omega | (simp only [go_sem]; done) | (simp only [ln, List.length_map]; omega) | (repeat' first | assumption | exact Ext.refl _ | refine Ext.app ?_ _)) only [go_sem, hL.box2]; rfl)))); (try ((first | apply aops_until | apply adraw_until); (simp (disch := first | exact List.all_nil | omega | (simp only [go_sem]; done) | (simp only [ln, List.length_map]; omega) | (repeat' first | assumption | exact Ext.refl _ | refine Ext.app ?_ _)) only [go_sem, hL.box2]; rfl))))
  have hLg := hL.ext ((Ext.refl H).app [AObj.cells true 0 [v, .int .i64 bend]])
  ((repeat (first | refine q1 ?_ | refine q2 ?_ | refine q3 ?_ | refine q4 ?_ | refine q5 ?_ | refine q6 ?_ | refine q7 ?_ | refine q8 ?_ | refine q9 ?_ | refine qa ?_ | refine qb ?_ | refine qc ?_ | refine qd ?_ | refine qe (by decide) ?_ | refine qf ?_ | refine qg ?_ | ((first | apply aops_all | apply adraw_all); (simp (disch := first | exact List.all_nil | omega | (simp only [go_sem]; done) | (simp only [ln, List.length_map]; omega) | (repeat' first | assumption | exact Ext.refl _ | refine Ext.app ?_ _)) only [go_sem, hLg.len, hLg.idx, hLg.load]; rfl)))); (try ((first | apply aops_until | apply adraw_until); (simp (disch := first | exact List.all_nil | omega | (simp only [go_sem]; done) | (simp only [ln, List.length_map]; omega) | (repeat' first | assumption | exact Ext.refl _ | refine Ext.app ?_ _)) only [go_sem, hLg.len, hLg.idx, hLg.load]; rfl))))
  exact fin_1 ⟨rfl, (Ext.refl H).app _⟩
theorem columns_c {ll : List (List Int)} {vs : List Value} {v : Value} {bend : Int} (hL : Lists H ll vs v) (h0 : 0 < ll.length) :
    ACall Go.Proofs.Tryd.prog 96 [.agg ⟨[v, .int .i64 bend]⟩] H fun v1 H1 => v1 = .int .i64 ((ll.getD 0 []).length) ∧ H1 = H := by
  refine ACall.drop (.int _ _) ?_
  (refine a96 ?_; simp only [n96, List.replicate, List.length_cons, List.length_nil, List.cons_append, List.nil_append])
  have hLg := hL.ext ((Ext.refl H).app [AObj.cells true 0 [v, .int .i64 bend]])
  have hrow := hLg.row h0
  ((repeat (first | refine q1 ?_ | refine q2 ?_ | refine q3 ?_ | refine q4 ?_ | refine q5 ?_ | refine q6 ?_ | refine q7 ?_ | refine q8 ?_ | refine q9 ?_ | refine qa ?_ | refine qb ?_ | refine qc ?_ | refine qd ?_ | refine qe (by decide) ?_ | refine qf ?_ | refine qg ?_ | ((first | apply aops_all | apply adraw_all); (simp (disch := first | exact List.all_nil | omega | (simp only [go_sem]; done) | (simp only [ln, List.length_map]; omega) | (repeat' first | assumption | exact Ext.refl _ | refine Ext.app ?_ _)) only [go_sem, hLg.len, hLg.idx, hLg.load, hrow.len, hrow.idx, hrow.load, hL.box2, show (0 : Int).toNat = 0 from rfl]; rfl)))); (try ((first | apply aops_until | apply adraw_until); (simp (disch := first | exact List.all_nil | omega | (simp only [go_sem]; done) | (simp only [ln, List.length_map]; omega) | (repeat' first | assumption | exact Ext.refl _ | refine Ext.app ?_ _)) only [go_sem, hLg.len, hLg.idx, hLg.load, hrow.len, hrow.idx, hrow.load, hL.box2, show (0 : Int).toNat = 0 from rfl]; rfl))))
  exact fin_1 ⟨rfl, (Ext.refl H).app _⟩
def bendI (bend a b : Int) : Int := if a = b then 0 else bend
theorem bend_c {ll : List (List Int)} {vs : List Value} {v : Value} {bend a b : Int} (hL : Lists H ll vs v) :
    ACall Go.Proofs.Tryd.prog 121 [.agg ⟨[v, .int .i64 bend]⟩, .int .i64 a, .int .i64 b] H fun v1 H1 => v1 = .int .i64 (bendI bend a b) ∧ H1 = H := by
  refine ACall.drop (.int _ _) ?_
  (refine a121 ?_; simp only [n121, List.replicate, List.length_cons, List.length_nil, List.cons_append, List.nil_append])
  ((repeat (first | refine q1 ?_ | refine q2 ?_ | refine q3 ?_ | refine q4 ?_ | refine q5 ?_ | refine q6 ?_ | refine q7 ?_ | refine q8 ?_ | refine q9 ?_ | refine qa ?_ | refine qb ?_ | refine qc ?_ | refine qd ?_ | refine qe (by decide) ?_ | refine qf ?_ | refine qg ?_ | ((first | apply aops_all | apply adraw_all); (simp (disch := first | exact List.all_nil | omega | (simp only [go_sem]; done) | (simp only [ln, List.length_map]; omega) | (repeat' first | assumption | exact Ext.refl _ | refine Ext.app ?_ _)) only [go_sem, hL.box2]; rfl)))); (try ((first | apply aops_until | apply adraw_until); (simp (disch := first | exact List.all_nil | omega | (simp only [go_sem]; done) | (simp only [ln, List.length_map]; omega) | (repeat' first | assumption | exact Ext.refl _ | refine Ext.app ?_ _)) only [go_sem, hL.box2]; rfl))))
  refine cond_p rfl (fun h => ?_) (fun h => ?_)
  · ((repeat (first | refine q1 ?_ | refine q2 ?_ | refine q3 ?_ | refine q4 ?_ | refine q5 ?_ | refine q6 ?_ | refine q7 ?_ | refine q8 ?_ | refine q9 ?_ | refine qa ?_ | refine qb ?_ | refine qc ?_ | refine qd ?_ | refine qe (by decide) ?_ | refine qf ?_ | refine qg ?_ | ((first | apply aops_all | apply adraw_all); (simp (disch := first | exact List.all_nil | omega | (simp only [go_sem]; done) | (simp only [ln, List.length_map]; omega) | (repeat' first | assumption | exact Ext.refl _ | refine Ext.app ?_ _)) only [go_sem]; rfl)))); (try ((first | apply aops_until | apply adraw_until); (simp (disch := first | exact List.all_nil | omega | (simp only [go_sem]; done) | (simp only [ln, List.length_map]; omega) | (repeat' first | assumption | exact Ext.refl _ | refine Ext.app ?_ _)) only [go_sem]; rfl))))
    exact fin_1 ⟨by unfold bendI; rw [if_pos h]; rfl, (Ext.refl H).app _⟩
  · ((repeat (first | refine q1 ?_ | refine q2 ?_ | refine q3 ?_ | refine q4 ?_ | refine q5 ?_ | refine q6 ?_ | refine q7 ?_ | refine q8 ?_ | refine q9 ?_ | refine qa ?_ | refine qb ?_ | refine qc ?_ | refine qd ?_ | refine qe (by decide) ?_ | refine qf ?_ | refine qg ?_ | ((first | apply aops_all | apply adraw_all); (simp (disch := first | exact List.all_nil | omega | (simp only [go_sem]; done) | (simp only [ln, List.length_map]; omega) | (repeat' first | assumption | exact Ext.refl _ | refine Ext.app ?_ _)) only [go_sem]; rfl)))); (try ((first | apply aops_until | apply adraw_until); (simp (disch := first | exact List.all_nil | omega | (simp only [go_sem]; done) | (simp only [ln, List.length_map]; omega) | (repeat' first | assumption | exact Ext.refl _ | refine Ext.app ?_ _)) only [go_sem]; rfl))))
    exact fin_1 ⟨by unfold bendI; rw [if_neg h]; rfl, (Ext.refl H).app _⟩
theorem refBend_c {ll : List (List Int)} {vs : List Value} {v : Value} {bend a b : Int} (hL : Lists H ll vs v) :
    ACall Go.Proofs.Tryd.prog 119 [.agg ⟨[v, .int .i64 bend]⟩, .int .i64 a, .int .i64 b] H fun v1 H1 => v1 = .int .i64 (bendI bend a b) ∧ H1 = H := by
  refine ACall.drop (.int _ _) ?_
  (refine a119 ?_; simp only [n119, List.replicate, List.length_cons, List.length_nil, List.cons_append, List.nil_append])
  ((repeat (first | refine q1 ?_ | refine q2 ?_ | refine q3 ?_ | refine q4 ?_ | refine q5 ?_ | refine q6 ?_ | refine q7 ?_ | refine q8 ?_ | refine q9 ?_ | refine qa ?_ | refine qb ?_ | refine qc ?_ | refine qd ?_ | refine qe (by decide) ?_ | refine qf ?_ | refine qg ?_ | ((first | apply aops_all | apply adraw_all); (simp (disch := first | exact List.all_nil | omega | (simp only [go_sem]; done) | (simp only [ln, List.length_map]; omega) | (repeat' first | assumption | exact Ext.refl _ | refine Ext.app ?_ _)) only [go_sem, hL.box2]; rfl)))); (try ((first | apply aops_until | apply adraw_until); (simp (disch := first | exact List.all_nil | omega | (simp only [go_sem]; done) | (simp only [ln, List.length_map]; omega) | (repeat' first | assumption | exact Ext.refl _ | refine Ext.app ?_ _)) only [go_sem, hL.box2]; rfl))))
  refine cond_p rfl (fun h => ?_) (fun h => ?_)
  · ((repeat (first | refine q1 ?_ | refine q2 ?_ | refine q3 ?_ | refine q4 ?_ | refine q5 ?_ | refine q6 ?_ | refine q7 ?_ | refine q8 ?_ | refine q9 ?_ | refine qa ?_ | refine qb ?_ | refine qc ?_ | refine qd ?_ | refine qe (by decide) ?_ | refine qf ?_ | refine qg ?_ | ((first | apply aops_all | apply adraw_all); (simp (disch := first | exact List.all_nil | omega | (simp only [go_sem]; done) | (simp only [ln, List.length_map]; omega) | (repeat' first | assumption | exact Ext.refl _ | refine Ext.app ?_ _)) only [go_sem]; rfl)))); (try ((first | apply aops_until | apply adraw_until); (simp (disch := first | exact List.all_nil | omega | (simp only [go_sem]; done) | (simp only [ln, List.length_map]; omega) | (repeat' first | assumption | exact Ext.refl _ | refine Ext.app ?_ _)) only [go_sem]; rfl))))
    exact fin_1 ⟨by unfold bendI; rw [if_pos h]; rfl, (Ext.refl H).app _⟩
  · ((repeat (first | refine q1 ?_ | refine q2 ?_ | refine q3 ?_ | refine q4 ?_ | refine q5 ?_ | refine q6 ?_ | refine q7 ?_ | refine q8 ?_ | refine q9 ?_ | refine qa ?_ | refine qb ?_ | refine qc ?_ | refine qd ?_ | refine qe (by decide) ?_ | refine qf ?_ | refine qg ?_ | ((first | apply aops_all | apply adraw_all); (simp (disch := first | exact List.all_nil | omega | (simp only [go_sem]; done) | (simp only [ln, List.length_map]; omega) | (repeat' first | assumption | exact Ext.refl _ | refine Ext.app ?_ _)) only [go_sem]; rfl)))); (try ((first | apply aops_until | apply adraw_until); (simp (disch := first | exact List.all_nil | omega | (simp only [go_sem]; done) | (simp only [ln, List.length_map]; omega) | (repeat' first | assumption | exact Ext.refl _ | refine Ext.app ?_ _)) only [go_sem]; rfl))))
    exact fin_1 ⟨by unfold bendI; rw [if_neg h]; rfl, (Ext.refl H).app _⟩
end
end Go.Lq
