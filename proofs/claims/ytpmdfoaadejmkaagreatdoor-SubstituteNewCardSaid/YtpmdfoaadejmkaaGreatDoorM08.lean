/-
  The table of the types of the seat's program, and the functions that are entered, written by a program (wip/typesA.py).
-/
import Derived.Test.YtpmdfoaadejmkaaGreatDoorM04
import Derived.Test.YtpmdfoaadejmkaaGreatDoorProg
namespace Go.Proofs.YtpmdfoaadejmkaaGreatDoor
open Go.RowKit
theorem av {P:Program} {f:FuncId} {fn:Func} {c:Code} (hf:P.funcs[f]?=some fn) (hname:(fn.name== "runtime.NumGoroutine")=false) (hb:fn.body=some c):∀args w,(callFunc f args).run P w= .ok (.enter f args) w:=by
 intro args w
 have hne:¬fn.name= "runtime.NumGoroutine" :=by simpa using hname
 simp [callFunc,hf,hne,hb]
theorem bQ:Tryz.prog.follows .mixedOrders=true:=by kernel_rfl
def tt:TT:=[none,
 some ⟨.other,1,[.nilFunc]⟩,
 some ⟨.int .i64,1,[.int .i64 0]⟩,
 some ⟨.int .i64,1,[.int .i64 0]⟩,
 some ⟨.bool,1,[.bool false]⟩,
 some ⟨.int .u8,1,[.int .u8 0]⟩,
 some ⟨.int .u8,1,[.int .u8 0]⟩,
 some ⟨.struct [(0,1,false),(1,1,false),(2,1,false),(3,1,false)],4,[.int .i64 0,.int .i64 0,.bool false,.int .u8 0]⟩,
 some ⟨.struct [(0,1,false),(1,1,false),(2,1,false),(3,1,false)],4,[.int .i64 0,.int .i64 0,.bool false,.int .u8 0]⟩,
 some ⟨.str,1,[.string ⟨#[]⟩]⟩,
 some ⟨.str,1,[.string ⟨#[]⟩]⟩,
 some ⟨.str,1,[.string ⟨#[]⟩]⟩,
 some ⟨.int .u64,1,[.int .u64 0]⟩,
 some ⟨.struct [(0,1,false),(1,1,false)],2,[.string ⟨#[]⟩,.int .u64 0]⟩,
 some ⟨.struct [(0,1,false),(1,1,false)],2,[.string ⟨#[]⟩,.int .u64 0]⟩,
 some ⟨.other,1,[.pointer none]⟩,
 some ⟨.other,1,[.pointer none]⟩,
 some ⟨.other,1,[.pointer none]⟩,
 some ⟨.struct [(0,1,false)],1,[.pointer none]⟩,
 some ⟨.struct [(0,1,false)],1,[.pointer none]⟩,
 some ⟨.other,1,[.nilIface]⟩,
 some ⟨.int .i32,1,[.int .i32 0]⟩,
 some ⟨.slice 3 1 8,1,[.slice none 0 0]⟩,
 some ⟨.other,1,[.nilFunc]⟩,
 some ⟨.slice 76 9 176,1,[.slice none 0 0]⟩,
 some ⟨.slice 119 2 16,1,[.slice none 0 0]⟩,
 some ⟨.slice 59 3 40,1,[.slice none 0 0]⟩,
 some ⟨.slice 121 2 40,1,[.slice none 0 0]⟩,
 some ⟨.slice 123 4 40,1,[.slice none 0 0]⟩,
 some ⟨.slice 128 1 24,1,[.slice none 0 0]⟩,
 some ⟨.slice 74 1 24,1,[.slice none 0 0]⟩,
 some ⟨.struct [(0,1,false),(1,1,false),(2,1,false),(3,1,false),(4,1,false),(5,1,false),(6,1,false),(7,1,false),(8,1,false)],9,[.int .i64 0,.slice none 0 0,.slice none 0 0,.slice none 0 0,.slice none 0 0,.slice none 0 0,.slice none 0 0,.slice none 0 0,.slice none 0 0]⟩,
 some ⟨.struct [(0,1,false),(1,1,false),(2,1,false),(3,1,false),(4,1,false),(5,1,false),(6,1,false),(7,1,false),(8,1,false)],9,[.int .i64 0,.slice none 0 0,.slice none 0 0,.slice none 0 0,.slice none 0 0,.slice none 0 0,.slice none 0 0,.slice none 0 0,.slice none 0 0]⟩,
 some ⟨.other,1,[.nilFunc]⟩,
 some ⟨.other,1,[.pointer none]⟩,
 some ⟨.int .i64,1,[.int .i64 0]⟩,none,none,
 some ⟨.slice 67 6 48,1,[.slice none 0 0]⟩,none,none,none,none,none,none,
 some ⟨.slice 22 1 24,1,[.slice none 0 0]⟩,none,none,none,none,
 some ⟨.arr 3 3 1,3,[.int .i64 0,.int .i64 0,.int .i64 0]⟩,none,none,none,none,
 some ⟨.struct [(0,1,false),(1,1,false)],2,[.int .i64 0,.int .i64 0]⟩,none,
 some ⟨.slice 79 6 128,1,[.slice none 0 0]⟩,none,
 some ⟨.struct [(0,1,false),(1,1,false),(2,1,false)],3,[.int .i64 0,.bool false,.slice none 0 0]⟩,
 some ⟨.slice 246 1 8,1,[.slice none 0 0]⟩,none,
 some ⟨.struct [(0,1,false),(1,1,false),(2,1,false),(3,1,false),(4,1,false)],5,[.slice none 0 0,.slice none 0 0,.slice none 0 0,.slice none 0 0,.slice none 0 0]⟩,none,none,none,none,
 some ⟨.struct [(0,1,false),(1,1,false),(2,1,false),(3,1,false),(4,1,false),(5,1,false)],6,[.int .i64 0,.int .i64 0,.int .i64 0,.int .i64 0,.int .i64 0,.int .i64 0]⟩,
 some ⟨.slice 286 3 24,1,[.slice none 0 0]⟩,none,
 some ⟨.struct [(0,1,false),(1,1,false)],2,[.slice none 0 0,.slice none 0 0]⟩,
 some ⟨.slice 111 3 24,1,[.slice none 0 0]⟩,
 some ⟨.slice 113 4 32,1,[.slice none 0 0]⟩,
 some ⟨.slice 115 4 32,1,[.slice none 0 0]⟩,
 some ⟨.slice 117 2 16,1,[.slice none 0 0]⟩,none,
 some ⟨.struct [(0,1,false),(1,1,false),(2,1,false),(3,2,true),(5,1,false),(6,1,false),(7,1,false),(8,1,false)],9,[.string ⟨#[]⟩,.int .i64 0,.bool false,.slice none 0 0,.slice none 0 0,.slice none 0 0,.slice none 0 0,.slice none 0 0,.slice none 0 0]⟩,
 some ⟨.slice 81 2 16,1,[.slice none 0 0]⟩,none,
 some ⟨.struct [(0,1,false),(1,1,false),(2,1,false),(3,1,false),(4,1,false),(5,1,false)],6,[.slice none 0 0,.slice none 0 0,.slice none 0 0,.slice none 0 0,.slice none 0 0,.int .i64 0]⟩,none,
 some ⟨.struct [(0,1,false),(1,1,false)],2,[.int .i64 0,.int .i64 0]⟩,none,
 some ⟨.slice 97 10 176,1,[.slice none 0 0]⟩,
 some ⟨.slice 4 1 1,1,[.slice none 0 0]⟩,none,
 some ⟨.struct [(0,1,false),(1,1,false)],2,[.slice none 0 0,.slice none 0 0]⟩,none,none,none,none,none,none,none,none,none,none,
 some ⟨.struct [(0,3,true),(3,5,true),(8,1,false),(9,1,false)],10,[.int .i64 0,.bool false,.slice none 0 0,.slice none 0 0,.slice none 0 0,.slice none 0 0,.slice none 0 0,.slice none 0 0,.int .i64 0,.int .i64 0]⟩,none,
 some ⟨.other,1,[.pointer none]⟩,none,none,
 some ⟨.struct [(0,1,false),(1,1,false)],2,[.pointer none,.slice none 0 0]⟩,none,
 some ⟨.other,1,[.pointer none]⟩,none,none,none,none,
 some ⟨.slice 9 1 16,1,[.slice none 0 0]⟩,none,
 some ⟨.struct [(0,1,false),(1,1,false),(2,1,false)],3,[.int .i64 0,.int .i64 0,.int .i64 0]⟩,none,
 some ⟨.struct [(0,1,false),(1,1,false),(2,1,false),(3,1,false)],4,[.int .i64 0,.int .i64 0,.int .i64 0,.int .i64 0]⟩,none,
 some ⟨.struct [(0,1,false),(1,1,false),(2,1,false),(3,1,false)],4,[.int .i64 0,.int .i64 0,.int .i64 0,.int .i64 0]⟩,none,
 some ⟨.struct [(0,1,false),(1,1,false)],2,[.int .i64 0,.int .i64 0]⟩,none,
 some ⟨.struct [(0,1,false),(1,1,false)],2,[.int .i64 0,.int .i64 0]⟩,none,
 some ⟨.struct [(0,1,false),(1,1,false)],2,[.string ⟨#[]⟩,.slice none 0 0]⟩,none,
 some ⟨.struct [(0,1,false),(1,1,false),(2,1,false),(3,1,false)],4,[.string ⟨#[]⟩,.int .i64 0,.int .i64 0,.int .i64 0]⟩,none,
 some ⟨.struct [(0,1,false),(1,1,false),(2,1,false)],3,[.int .i64 0,.int .i64 0,.int .i64 0]⟩,
 some ⟨.slice 125 3 24,1,[.slice none 0 0]⟩,none,
 some ⟨.struct [(0,1,false)],1,[.slice none 0 0]⟩,
 some ⟨.other,1,[.map none]⟩,none,
 some ⟨.other,1,[.nilFunc]⟩,none,
 some ⟨.other,1,[.nilFunc]⟩,none,
 some ⟨.other,1,[.nilFunc]⟩,none,none,none,
 some ⟨.other,1,[.nilFunc]⟩,none,none,none,none,
 some ⟨.other,1,[.nilFunc]⟩,none,none,
 some ⟨.other,1,[.nilFunc]⟩,none,none,
 some ⟨.other,1,[.nilFunc]⟩,none,none,
 some ⟨.other,1,[.nilFunc]⟩,none,none,
 some ⟨.other,1,[.nilFunc]⟩,none,none,
 some ⟨.other,1,[.nilFunc]⟩,none,none,
 some ⟨.other,1,[.nilFunc]⟩,none,none,none,
 some ⟨.other,1,[.nilFunc]⟩,none,none,none,none,none,none,none,none,
 some ⟨.other,1,[.pointer none]⟩,none,
 some ⟨.struct [(0,1,false),(1,1,false),(2,9,true),(11,1,false)],12,[.slice none 0 0,.int .i64 0,.int .i64 0,.slice none 0 0,.slice none 0 0,.slice none 0 0,.slice none 0 0,.slice none 0 0,.slice none 0 0,.slice none 0 0,.slice none 0 0,.int .i64 0]⟩,none,
 some ⟨.slice 5 1 1,1,[.slice none 0 0]⟩,none,none,none,none,none,none,none,
 some ⟨.struct [(0,1,false),(1,1,false)],2,[.slice none 0 0,.slice none 0 0]⟩,none,
 some ⟨.other,1,[.nilFunc]⟩,
 some ⟨.other,1,[.pointer none]⟩,none,none,none,none,none,none,none,none,none,none,none,none,
 some ⟨.slice 139 1 8,1,[.slice none 0 0]⟩,none,none,none,none,none,none,none,
 some ⟨.other,1,[.nilFunc]⟩,none,
 some ⟨.other,1,[.nilFunc]⟩,none,none,
 some ⟨.other,1,[.nilFunc]⟩,none,none,none,none,none,none,none,none,
 some ⟨.other,1,[.nilFunc]⟩,none,none,none,none,
 some ⟨.other,1,[.nilFunc]⟩,none,none,
 some ⟨.other,1,[.nilFunc]⟩,none,none,none,none,none,none,none,
 some ⟨.struct [(0,1,false),(1,1,false)],2,[.int .i64 0,.slice none 0 0]⟩,none,
 some ⟨.slice 241 2 32,1,[.slice none 0 0]⟩,none,none,
 some ⟨.int .u64,1,[.int .u64 0]⟩,none,none,none,none,none,none,none,
 some ⟨.arr 2 3 1,2,[.int .i64 0,.int .i64 0]⟩,
 some ⟨.slice 254 2 16,1,[.slice none 0 0]⟩,none,
 some ⟨.other,1,[.map none]⟩,
 some ⟨.other,1,[.pointer none]⟩,
 some ⟨.slice 261 2 16,1,[.slice none 0 0]⟩,none,
 some ⟨.struct [(0,1,false),(1,1,false)],2,[.int .i64 0,.int .u64 0]⟩,none,none,none,
 some ⟨.slice 45 1 24,1,[.slice none 0 0]⟩,
 some ⟨.slice 330 2 32,1,[.slice none 0 0]⟩,none,
 some ⟨.struct [(0,1,false),(1,1,false),(2,1,false),(3,1,false),(4,1,false)],5,[.slice none 0 0,.int .u64 0,.slice none 0 0,.int .i64 0,.slice none 0 0]⟩,none,none,none,
 some ⟨.other,1,[.nilFunc]⟩,none,none,none,none,none,none,none,none,none,none,
 some ⟨.other,1,[.nilFunc]⟩,none,none,
 some ⟨.struct [(0,1,false),(1,1,false),(2,1,false)],3,[.int .i64 0,.int .i64 0,.bool false]⟩,
 some ⟨.other,1,[.nilFunc]⟩,none,none,none,
 some ⟨.other,1,[.map none]⟩,none,
 some ⟨.struct [(0,1,false),(1,1,false)],2,[.int .i64 0,.int .i64 0]⟩,none,none,
 some ⟨.struct [(0,1,false),(1,1,false)],2,[.int .i64 0,.int .i64 0]⟩,none,none,none,none,none,none,
 some ⟨.other,1,[.nilFunc]⟩,none,none,none,none,none,none,none,none,
 some ⟨.int .u64,1,[.int .u64 0]⟩,none,none,none,none,none,none,none,none,none,none,none,none,none,none,none,
 some ⟨.arr 16 5 1,16,[.int .u8 0,.int .u8 0,.int .u8 0,.int .u8 0,.int .u8 0,.int .u8 0,.int .u8 0,.int .u8 0,.int .u8 0,.int .u8 0,.int .u8 0,.int .u8 0,.int .u8 0,.int .u8 0,.int .u8 0,.int .u8 0]⟩,none,
 some ⟨.struct [(0,1,false),(1,1,false)],2,[.slice none 0 0,.int .u64 0]⟩,none,none,none,none,none,none,none,
 some ⟨.other,1,[.map none]⟩,
 some ⟨.slice 3 1 8,1,[.slice none 0 0]⟩,none,none,none,none,
 some ⟨.other,1,[.pointer none]⟩,none,none,
 some ⟨.other,1,[.map none]⟩,none,none,none,none,none,none,
 some ⟨.other,1,[.nilFunc]⟩,
 some ⟨.slice 35 1 8,1,[.slice none 0 0]⟩,
 some ⟨.other,1,[.nilFunc]⟩,none,none,none,none,none,
 some ⟨.struct [(0,1,false),(1,1,false),(2,1,false)],3,[.slice none 0 0,.slice none 0 0,.slice none 0 0]⟩,none,
 some ⟨.arr 64 5 1,64,[.int .u8 0,.int .u8 0,.int .u8 0,.int .u8 0,.int .u8 0,.int .u8 0,.int .u8 0,.int .u8 0,.int .u8 0,.int .u8 0,.int .u8 0,.int .u8 0,.int .u8 0,.int .u8 0,.int .u8 0,.int .u8 0,.int .u8 0,.int .u8 0,.int .u8 0,.int .u8 0,.int .u8 0,.int .u8 0,.int .u8 0,.int .u8 0,.int .u8 0,.int .u8 0,.int .u8 0,.int .u8 0,.int .u8 0,.int .u8 0,.int .u8 0,.int .u8 0,.int .u8 0,.int .u8 0,.int .u8 0,.int .u8 0,.int .u8 0,.int .u8 0,.int .u8 0,.int .u8 0,.int .u8 0,.int .u8 0,.int .u8 0,.int .u8 0,.int .u8 0,.int .u8 0,.int .u8 0,.int .u8 0,.int .u8 0,.int .u8 0,.int .u8 0,.int .u8 0,.int .u8 0,.int .u8 0,.int .u8 0,.int .u8 0,.int .u8 0,.int .u8 0,.int .u8 0,.int .u8 0,.int .u8 0,.int .u8 0,.int .u8 0,.int .u8 0]⟩,
 some ⟨.other,1,[.nilFunc]⟩,none,
 some ⟨.other,1,[.nilIface]⟩,none,none,none,none,none,none,
 some ⟨.slice 376 2 16,1,[.slice none 0 0]⟩,none,
 some ⟨.struct [(0,1,false),(1,1,false)],2,[.int .i64 0,.int .i64 0]⟩]
theorem a5:eF Tryz.prog tt:=Ko (by kernel_rfl)
theorem Nj {P:Program} {f:FuncId} {fn:Func} {c:Code} (hf:P.funcs[f]?=some fn) (hn:(fn.name== "runtime.NumGoroutine")=false:=by kernel_rfl) (hb:fn.body=some c:=by rfl):bS P f:=⟨av hf hn hb⟩
instance:bS Tryz.prog 13:=Nj Tryz.func13
instance:bS Tryz.prog 14:=Nj Tryz.func14
instance:bS Tryz.prog 15:=Nj Tryz.func15
instance:bS Tryz.prog 18:=Nj Tryz.func18
instance:bS Tryz.prog 22:=Nj Tryz.func22
instance:bS Tryz.prog 24:=Nj Tryz.func24
instance:bS Tryz.prog 25:=Nj Tryz.func25
instance:bS Tryz.prog 26:=Nj Tryz.func26
instance:bS Tryz.prog 27:=Nj Tryz.func27
instance:bS Tryz.prog 28:=Nj Tryz.func28
instance:bS Tryz.prog 29:=Nj Tryz.func29
instance:bS Tryz.prog 30:=Nj Tryz.func30
instance:bS Tryz.prog 32:=Nj Tryz.func32
instance:bS Tryz.prog 33:=Nj Tryz.func33
instance:bS Tryz.prog 34:=Nj Tryz.func34
instance:bS Tryz.prog 35:=Nj Tryz.func35
instance:bS Tryz.prog 36:=Nj Tryz.func36
instance:bS Tryz.prog 37:=Nj Tryz.func37
instance:bS Tryz.prog 38:=Nj Tryz.func38
instance:bS Tryz.prog 41:=Nj Tryz.func41
instance:bS Tryz.prog 42:=Nj Tryz.func42
instance:bS Tryz.prog 43:=Nj Tryz.func43
instance:bS Tryz.prog 44:=Nj Tryz.func44
instance:bS Tryz.prog 45:=Nj Tryz.func45
instance:bS Tryz.prog 46:=Nj Tryz.func46
instance:bS Tryz.prog 47:=Nj Tryz.func47
instance:bS Tryz.prog 48:=Nj Tryz.func48
instance:bS Tryz.prog 49:=Nj Tryz.func49
instance:bS Tryz.prog 50:=Nj Tryz.func50
instance:bS Tryz.prog 51:=Nj Tryz.func51
instance:bS Tryz.prog 52:=Nj Tryz.func52
instance:bS Tryz.prog 53:=Nj Tryz.func53
instance:bS Tryz.prog 54:=Nj Tryz.func54
instance:bS Tryz.prog 55:=Nj Tryz.func55
instance:bS Tryz.prog 56:=Nj Tryz.func56
instance:bS Tryz.prog 57:=Nj Tryz.func57
instance:bS Tryz.prog 58:=Nj Tryz.func58
instance:bS Tryz.prog 59:=Nj Tryz.func59
instance:bS Tryz.prog 60:=Nj Tryz.func60
instance:bS Tryz.prog 61:=Nj Tryz.func61
instance:bS Tryz.prog 62:=Nj Tryz.func62
instance:bS Tryz.prog 63:=Nj Tryz.func63
instance:bS Tryz.prog 64:=Nj Tryz.func64
instance:bS Tryz.prog 65:=Nj Tryz.func65
instance:bS Tryz.prog 66:=Nj Tryz.func66
instance:bS Tryz.prog 67:=Nj Tryz.func67
instance:bS Tryz.prog 68:=Nj Tryz.func68
instance:bS Tryz.prog 69:=Nj Tryz.func69
instance:bS Tryz.prog 70:=Nj Tryz.func70
instance:bS Tryz.prog 71:=Nj Tryz.func71
instance:bS Tryz.prog 72:=Nj Tryz.func72
instance:bS Tryz.prog 73:=Nj Tryz.func73
instance:bS Tryz.prog 74:=Nj Tryz.func74
instance:bS Tryz.prog 75:=Nj Tryz.func75
instance:bS Tryz.prog 76:=Nj Tryz.func76
instance:bS Tryz.prog 77:=Nj Tryz.func77
instance:bS Tryz.prog 78:=Nj Tryz.func78
instance:bS Tryz.prog 79:=Nj Tryz.func79
instance:bS Tryz.prog 80:=Nj Tryz.func80
instance:bS Tryz.prog 81:=Nj Tryz.func81
instance:bS Tryz.prog 82:=Nj Tryz.func82
instance:bS Tryz.prog 83:=Nj Tryz.func83
instance:bS Tryz.prog 84:=Nj Tryz.func84
instance:bS Tryz.prog 85:=Nj Tryz.func85
instance:bS Tryz.prog 86:=Nj Tryz.func86
instance:bS Tryz.prog 89:=Nj Tryz.func89
instance:bS Tryz.prog 90:=Nj Tryz.func90
instance:bS Tryz.prog 91:=Nj Tryz.func91
instance:bS Tryz.prog 92:=Nj Tryz.func92
instance:bS Tryz.prog 93:=Nj Tryz.func93
instance:bS Tryz.prog 94:=Nj Tryz.func94
instance:bS Tryz.prog 95:=Nj Tryz.func95
instance:bS Tryz.prog 96:=Nj Tryz.func96
instance:bS Tryz.prog 97:=Nj Tryz.func97
instance:bS Tryz.prog 98:=Nj Tryz.func98
instance:bS Tryz.prog 99:=Nj Tryz.func99
instance:bS Tryz.prog 100:=Nj Tryz.func100
instance:bS Tryz.prog 101:=Nj Tryz.func101
instance:bS Tryz.prog 102:=Nj Tryz.func102
instance:bS Tryz.prog 103:=Nj Tryz.func103
instance:bS Tryz.prog 111:=Nj Tryz.func111
instance:bS Tryz.prog 112:=Nj Tryz.func112
instance:bS Tryz.prog 113:=Nj Tryz.func113
instance:bS Tryz.prog 114:=Nj Tryz.func114
instance:bS Tryz.prog 115:=Nj Tryz.func115
instance:bS Tryz.prog 116:=Nj Tryz.func116
instance:bS Tryz.prog 117:=Nj Tryz.func117
instance:bS Tryz.prog 118:=Nj Tryz.func118
instance:bS Tryz.prog 119:=Nj Tryz.func119
instance:bS Tryz.prog 120:=Nj Tryz.func120
instance:bS Tryz.prog 121:=Nj Tryz.func121
instance:bS Tryz.prog 122:=Nj Tryz.func122
instance:bS Tryz.prog 123:=Nj Tryz.func123
instance:bS Tryz.prog 124:=Nj Tryz.func124
instance:bS Tryz.prog 125:=Nj Tryz.func125
instance:bS Tryz.prog 126:=Nj Tryz.func126
instance:bS Tryz.prog 127:=Nj Tryz.func127
instance:bS Tryz.prog 128:=Nj Tryz.func128
instance:bS Tryz.prog 129:=Nj Tryz.func129
instance:bS Tryz.prog 130:=Nj Tryz.func130
instance:bS Tryz.prog 131:=Nj Tryz.func131
instance:bS Tryz.prog 132:=Nj Tryz.func132
instance:bS Tryz.prog 133:=Nj Tryz.func133
instance:bS Tryz.prog 134:=Nj Tryz.func134
instance:bS Tryz.prog 135:=Nj Tryz.func135
instance:bS Tryz.prog 136:=Nj Tryz.func136
instance:bS Tryz.prog 137:=Nj Tryz.func137
instance:bS Tryz.prog 138:=Nj Tryz.func138
instance:bS Tryz.prog 139:=Nj Tryz.func139
instance:bS Tryz.prog 140:=Nj Tryz.func140
instance:bS Tryz.prog 141:=Nj Tryz.func141
instance:bS Tryz.prog 142:=Nj Tryz.func142
instance:bS Tryz.prog 143:=Nj Tryz.func143
instance:bS Tryz.prog 144:=Nj Tryz.func144
instance:bS Tryz.prog 145:=Nj Tryz.func145
instance:bS Tryz.prog 146:=Nj Tryz.func146
instance:bS Tryz.prog 147:=Nj Tryz.func147
instance:bS Tryz.prog 148:=Nj Tryz.func148
instance:bS Tryz.prog 149:=Nj Tryz.func149
instance:bS Tryz.prog 150:=Nj Tryz.func150
instance:bS Tryz.prog 151:=Nj Tryz.func151
instance:bS Tryz.prog 152:=Nj Tryz.func152
instance:bS Tryz.prog 153:=Nj Tryz.func153
instance:bS Tryz.prog 154:=Nj Tryz.func154
instance:bS Tryz.prog 155:=Nj Tryz.func155
instance:bS Tryz.prog 156:=Nj Tryz.func156
instance:bS Tryz.prog 157:=Nj Tryz.func157
instance:bS Tryz.prog 158:=Nj Tryz.func158
instance:bS Tryz.prog 159:=Nj Tryz.func159
instance:bS Tryz.prog 160:=Nj Tryz.func160
instance:bS Tryz.prog 161:=Nj Tryz.func161
instance:bS Tryz.prog 162:=Nj Tryz.func162
instance:bS Tryz.prog 163:=Nj Tryz.func163
instance:bS Tryz.prog 164:=Nj Tryz.func164
instance:bS Tryz.prog 165:=Nj Tryz.func165
instance:bS Tryz.prog 166:=Nj Tryz.func166
instance:bS Tryz.prog 167:=Nj Tryz.func167
instance:bS Tryz.prog 168:=Nj Tryz.func168
instance:bS Tryz.prog 169:=Nj Tryz.func169
instance:bS Tryz.prog 170:=Nj Tryz.func170
instance:bS Tryz.prog 174:=Nj Tryz.func174
instance:bS Tryz.prog 175:=Nj Tryz.func175
instance:bS Tryz.prog 176:=Nj Tryz.func176
instance:bS Tryz.prog 177:=Nj Tryz.func177
instance:bS Tryz.prog 178:=Nj Tryz.func178
instance:bS Tryz.prog 179:=Nj Tryz.func179
instance:bS Tryz.prog 180:=Nj Tryz.func180
instance:bS Tryz.prog 181:=Nj Tryz.func181
instance:bS Tryz.prog 182:=Nj Tryz.func182
instance:bS Tryz.prog 183:=Nj Tryz.func183
instance:bS Tryz.prog 184:=Nj Tryz.func184
instance:bS Tryz.prog 185:=Nj Tryz.func185
instance:bS Tryz.prog 186:=Nj Tryz.func186
instance:bS Tryz.prog 187:=Nj Tryz.func187
instance:bS Tryz.prog 188:=Nj Tryz.func188
instance:bS Tryz.prog 189:=Nj Tryz.func189
instance:bS Tryz.prog 190:=Nj Tryz.func190
instance:bS Tryz.prog 191:=Nj Tryz.func191
instance:bS Tryz.prog 192:=Nj Tryz.func192
instance:bS Tryz.prog 193:=Nj Tryz.func193
instance:bS Tryz.prog 197:=Nj Tryz.func197
instance:bS Tryz.prog 198:=Nj Tryz.func198
instance:bS Tryz.prog 199:=Nj Tryz.func199
instance:bS Tryz.prog 200:=Nj Tryz.func200
instance:bS Tryz.prog 201:=Nj Tryz.func201
instance:bS Tryz.prog 202:=Nj Tryz.func202
instance:bS Tryz.prog 203:=Nj Tryz.func203
instance:bS Tryz.prog 204:=Nj Tryz.func204
instance:bS Tryz.prog 205:=Nj Tryz.func205
instance:bS Tryz.prog 206:=Nj Tryz.func206
instance:bS Tryz.prog 207:=Nj Tryz.func207
instance:bS Tryz.prog 208:=Nj Tryz.func208
instance:bS Tryz.prog 209:=Nj Tryz.func209
instance:bS Tryz.prog 210:=Nj Tryz.func210
instance:bS Tryz.prog 211:=Nj Tryz.func211
instance:bS Tryz.prog 212:=Nj Tryz.func212
instance:bS Tryz.prog 213:=Nj Tryz.func213
instance:bS Tryz.prog 214:=Nj Tryz.func214
instance:bS Tryz.prog 215:=Nj Tryz.func215
instance:bS Tryz.prog 216:=Nj Tryz.func216
instance:bS Tryz.prog 217:=Nj Tryz.func217
instance:bS Tryz.prog 218:=Nj Tryz.func218
instance:bS Tryz.prog 219:=Nj Tryz.func219
instance:bS Tryz.prog 220:=Nj Tryz.func220
instance:bS Tryz.prog 221:=Nj Tryz.func221
instance:bS Tryz.prog 222:=Nj Tryz.func222
instance:bS Tryz.prog 223:=Nj Tryz.func223
instance:bS Tryz.prog 224:=Nj Tryz.func224
instance:bS Tryz.prog 225:=Nj Tryz.func225
instance:bS Tryz.prog 226:=Nj Tryz.func226
instance:bS Tryz.prog 227:=Nj Tryz.func227
instance:bS Tryz.prog 228:=Nj Tryz.func228
instance:bS Tryz.prog 229:=Nj Tryz.func229
instance:bS Tryz.prog 230:=Nj Tryz.func230
instance:bS Tryz.prog 231:=Nj Tryz.func231
instance:bS Tryz.prog 232:=Nj Tryz.func232
instance:bS Tryz.prog 233:=Nj Tryz.func233
instance:bS Tryz.prog 234:=Nj Tryz.func234
instance:bS Tryz.prog 235:=Nj Tryz.func235
instance:bS Tryz.prog 236:=Nj Tryz.func236
instance:bS Tryz.prog 237:=Nj Tryz.func237
instance:bS Tryz.prog 238:=Nj Tryz.func238
instance:bS Tryz.prog 239:=Nj Tryz.func239
instance:bS Tryz.prog 251:=Nj Tryz.func251
instance:bS Tryz.prog 252:=Nj Tryz.func252
instance:bS Tryz.prog 253:=Nj Tryz.func253
instance:bS Tryz.prog 255:=Nj Tryz.func255
instance:bS Tryz.prog 256:=Nj Tryz.func256
instance:bS Tryz.prog 257:=Nj Tryz.func257
instance:bS Tryz.prog 258:=Nj Tryz.func258
instance:bS Tryz.prog 259:=Nj Tryz.func259
instance:bS Tryz.prog 260:=Nj Tryz.func260
instance:bS Tryz.prog 261:=Nj Tryz.func261
instance:bS Tryz.prog 263:=Nj Tryz.func263
instance:bS Tryz.prog 264:=Nj Tryz.func264
instance:bS Tryz.prog 265:=Nj Tryz.func265
instance:bS Tryz.prog 266:=Nj Tryz.func266
instance:bS Tryz.prog 267:=Nj Tryz.func267
instance:bS Tryz.prog 268:=Nj Tryz.func268
instance:bS Tryz.prog 269:=Nj Tryz.func269
instance:bS Tryz.prog 270:=Nj Tryz.func270
instance:bS Tryz.prog 271:=Nj Tryz.func271
instance:bS Tryz.prog 272:=Nj Tryz.func272
instance:bS Tryz.prog 273:=Nj Tryz.func273
instance:bS Tryz.prog 274:=Nj Tryz.func274
instance:bS Tryz.prog 285:=Nj Tryz.func285
instance:bS Tryz.prog 286:=Nj Tryz.func286
instance:bS Tryz.prog 287:=Nj Tryz.func287
instance:bS Tryz.prog 288:=Nj Tryz.func288
instance:bS Tryz.prog 289:=Nj Tryz.func289
instance:bS Tryz.prog 290:=Nj Tryz.func290
instance:bS Tryz.prog 291:=Nj Tryz.func291
instance:bS Tryz.prog 292:=Nj Tryz.func292
instance:bS Tryz.prog 301:=Nj Tryz.func301
instance:bS Tryz.prog 302:=Nj Tryz.func302
theorem W01 {A B:Prop} (k:B) (h:W00 B→A:=by intro k;(repeat' (first|refine Ng ?_|refine NG a5 IG ?_));exact k.g):A:=h ⟨k⟩
theorem W02 {A B:Prop} (k:B) (h:W00 B→A:=by intro k;(repeat' (first|refine Ng ?_|refine NG a5 IG ?_|(apply aS;refine aR ?_)|fail));exact k.g):A:=h ⟨k⟩
theorem W03 {A B:Prop} (k:B) (h:W00 B→A:=by intro k;(repeat' (first|refine Ng ?_|refine ak ?_|refine NG a5 IG ?_));exact k.g):A:=h ⟨k⟩
theorem W04 {A B:Prop} (k:B) (h:W00 B→A:=by intro k;(repeat' (first|refine Ng ?_|refine NG a5 IG ?_|(apply bz;first|refine NJ a5 0 NC ?_|refine NJ a5 1 NC ?_|refine NJ a5 2 NC ?_|refine NJ a5 3 NC ?_|refine NK a5 0 NC ?_|refine NK a5 1 NC ?_|refine NK a5 2 NC ?_|refine NL a5 1 NA (by assumption) rfl ?_|refine NL a5 0 NA (by assumption) rfl ?_|fail)|fail));exact k.g):A:=h ⟨k⟩
theorem W05 {A B:Prop} (k:B) (h:W00 B→A:=by intro k;(repeat' (first|refine Ng ?_|refine NG a5 IG ?_|(apply aI;first|refine NH a5 0 NE ?_|refine NH a5 1 NE ?_|refine NH a5 2 NE ?_|refine NH a5 3 NE ?_|fail)));exact k.g):A:=h ⟨k⟩
theorem W06 {A B:Prop} (k:B) (h:W00 B→A:=by intro k;(repeat' (first|refine Ng ?_|refine ak ?_|refine NG a5 IG ?_|(apply aO;first|refine aN a5 ?_|refine aF a5 ?_)|(apply aI;first|refine NI 7 a5 0 NF ?_|refine NI 7 a5 1 NF ?_|refine NI 7 a5 2 NF ?_|refine NH a5 0 NE ?_|refine NH a5 1 NE ?_|refine NH a5 2 NE ?_|refine NH a5 3 NE ?_|fail)|refine bn a5 fun b'z=>?_|fail));(repeat revert b'z);exact k.g):A:=h ⟨k⟩
theorem W07 {A B:Prop} (k:B) (h:W00 B→A:=by intro k;(repeat' (first|refine Ng ?_|(apply bz;first|refine NJ a5 0 NC ?_|refine NJ a5 1 NC ?_|refine NJ a5 2 NC ?_|refine NJ a5 3 NC ?_|refine NK a5 0 NC ?_|refine NK a5 1 NC ?_|refine NK a5 2 NC ?_|refine NL a5 1 NA (by assumption) rfl ?_|refine NL a5 0 NA (by assumption) rfl ?_|fail)|(apply aI;first|refine NH a5 0 NE ?_|refine NH a5 1 NE ?_|refine NH a5 2 NE ?_|refine NH a5 3 NE ?_|fail)));exact k.g):A:=h ⟨k⟩
theorem W08 {A B:Prop} (k:B) (h:W00 B→A:=by intro k;(repeat' (first|refine Ng ?_|refine NG a5 IG ?_|refine bq ?_|fail));exact k.g):A:=h ⟨k⟩
theorem W0a {A B:Prop} (k:B) (h:W00 B→A:=by intro k;(repeat' (first|refine Ng ?_|refine ak ?_|refine NG a5 IG ?_|(apply aO;first|refine aN a5 ?_|refine aF a5 ?_)|fail));exact k.g):A:=h ⟨k⟩
theorem W0c {A B:Prop} (k:B) (h:W00 B→A:=by intro k;(repeat' (first|refine Ng ?_|refine NG a5 IG ?_|(apply aI;first|refine NI 4 a5 0 NF ?_|refine NI 4 a5 1 NF ?_|refine NI 4 a5 2 NF ?_|refine NH a5 0 NE ?_|refine NH a5 1 NE ?_|refine NH a5 2 NE ?_|refine NH a5 3 NE ?_|fail)));exact k.g):A:=h ⟨k⟩
theorem W0e {A B:Prop} (k:B) (h:W00 B→A:=by intro k;(repeat' (first|refine Ng ?_|refine NG a5 IG ?_|(apply bA;refine bw ?_)|fail));exact k.g):A:=h ⟨k⟩
theorem W0f {A B:Prop} (k:B) (h:W00 B→A:=by intro k;(repeat' (first|refine Ng ?_|refine NG a5 IG ?_|(apply aS;refine aR ?_)|(apply aI;first|refine NH a5 0 NE ?_|refine NH a5 1 NE ?_|refine NH a5 2 NE ?_|refine NH a5 3 NE ?_|fail)));exact k.g):A:=h ⟨k⟩
theorem W0h {A B:Prop} (k:B) (h:W00 B→A:=by intro k;(repeat' (first|refine Ng ?_|refine NG a5 IG ?_|(apply bz;first|refine NJ a5 0 NC ?_|refine NJ a5 1 NC ?_|refine NJ a5 2 NC ?_|refine NJ a5 3 NC ?_|refine NK a5 0 NC ?_|refine NK a5 1 NC ?_|refine NK a5 2 NC ?_|refine NL a5 1 NA (by assumption) rfl ?_|refine NL a5 0 NA (by assumption) rfl ?_|fail)|(apply aO;first|refine aN a5 ?_|refine aF a5 ?_)|fail));exact k.g):A:=h ⟨k⟩
theorem W0i {A B:Prop} (k:B) (h:W00 B→A:=by intro k;(repeat' (first|refine Ng ?_|refine NG a5 IG ?_|(apply aO;first|refine aN a5 ?_|refine aF a5 ?_)|fail));exact k.g):A:=h ⟨k⟩
theorem W0j {A B:Prop} (k:B) (h:W00 B→A:=by intro k;(repeat' (first|refine Ng ?_|refine NG a5 IG ?_|(apply aS;refine aR ?_)|(apply aI;first|refine NI 6 a5 0 NF ?_|refine NI 6 a5 1 NF ?_|refine NI 6 a5 2 NF ?_|refine NH a5 0 NE ?_|refine NH a5 1 NE ?_|refine NH a5 2 NE ?_|refine NH a5 3 NE ?_|fail)));exact k.g):A:=h ⟨k⟩
theorem W0k {A B:Prop} (k:B) (h:W00 B→A:=by intro k;(repeat' (first|refine Ng ?_|refine a7 ?_|refine NG a5 IG ?_));exact k.g):A:=h ⟨k⟩
theorem W0l {A B:Prop} (k:B) (h:W00 B→A:=by intro k;(repeat' (first|refine Ng ?_|refine NG a5 IG ?_|(apply aI;first|refine NI 4 a5 0 NF ?_|refine NI 4 a5 1 NF ?_|refine NI 4 a5 2 NF ?_|refine NI 5 a5 0 NF ?_|refine NI 5 a5 1 NF ?_|refine NI 5 a5 2 NF ?_|refine NI 6 a5 0 NF ?_|refine NI 6 a5 1 NF ?_|refine NI 6 a5 2 NF ?_|refine NH a5 0 NE ?_|refine NH a5 1 NE ?_|refine NH a5 2 NE ?_|refine NH a5 3 NE ?_|fail)|refine bn a5 fun b'z=>?_|fail));(repeat revert b'z);exact k.g):A:=h ⟨k⟩
theorem W0o {A B:Prop} (k:B) (h:W00 B→A:=by intro k;(repeat' (first|refine Ng ?_|refine NG a5 IG ?_|(apply bz;first|refine NJ a5 0 NC ?_|refine NJ a5 1 NC ?_|refine NJ a5 2 NC ?_|refine NJ a5 3 NC ?_|refine NK a5 0 NC ?_|refine NK a5 1 NC ?_|refine NK a5 2 NC ?_|refine NL a5 1 NA (by assumption) rfl ?_|refine NL a5 0 NA (by assumption) rfl ?_|fail)|(apply aS;refine aR ?_)|fail));exact k.g):A:=h ⟨k⟩
theorem W0p {A B:Prop} (k:B) (h:W00 B→A:=by intro k;(repeat' (first|refine Ng ?_|refine NG a5 IG ?_|refine NN IG ?_|(apply bz;first|refine NJ a5 0 NC ?_|refine NJ a5 1 NC ?_|refine NJ a5 2 NC ?_|refine NJ a5 3 NC ?_|refine NK a5 0 NC ?_|refine NK a5 1 NC ?_|refine NK a5 2 NC ?_|refine NL a5 1 NA (by assumption) rfl ?_|refine NL a5 0 NA (by assumption) rfl ?_|fail)|fail));exact k.g):A:=h ⟨k⟩
theorem W0q {A B:Prop} (k:B) (h:W00 B→A:=by intro k;(repeat' (first|refine Ng ?_|refine NG a5 IG ?_|(apply bz;first|refine NJ a5 0 NC ?_|refine NJ a5 1 NC ?_|refine NJ a5 2 NC ?_|refine NJ a5 3 NC ?_|refine NK a5 0 NC ?_|refine NK a5 1 NC ?_|refine NK a5 2 NC ?_|refine NL a5 1 NA (by assumption) rfl ?_|refine NL a5 0 NA (by assumption) rfl ?_|fail)|(apply aI;first|refine NH a5 0 NE ?_|refine NH a5 1 NE ?_|refine NH a5 2 NE ?_|refine NH a5 3 NE ?_|fail)));exact k.g):A:=h ⟨k⟩
theorem W0r {A B:Prop} (k:B) (h:W00 B→A:=by intro k;(repeat' (first|refine NG a5 IG ?_|(apply aO;first|refine aN a5 ?_|refine aF a5 ?_)|fail));exact k.g):A:=h ⟨k⟩
theorem W0s {A B:Prop} (k:B) (h:W00 B→A:=by intro k;(repeat' (first|refine Ng ?_|refine NG a5 IG ?_|refine bR rfl ?_));exact k.g):A:=h ⟨k⟩
theorem W0u {A B:Prop} (k:B) (h:W00 B→A:=by intro k;(repeat' (first|refine Ng ?_|refine ak ?_|refine NG a5 IG ?_|(apply aO;first|refine aN a5 ?_|refine aF a5 ?_)|(apply aI;first|refine NI 4 a5 0 NF ?_|refine NI 4 a5 1 NF ?_|refine NI 4 a5 2 NF ?_|refine NH a5 0 NE ?_|refine NH a5 1 NE ?_|refine NH a5 2 NE ?_|refine NH a5 3 NE ?_|fail)|refine bn a5 fun b'z=>?_|(apply bA;refine bw ?_)|fail));(repeat revert b'z);exact k.g):A:=h ⟨k⟩
theorem W0v {A B:Prop} (k:B) (h:W00 B→A:=by intro k;(repeat' (first|refine Ng ?_|refine ak ?_|refine NG a5 IG ?_|(apply aO;first|refine aN a5 ?_|refine aF a5 ?_)|refine bR rfl ?_|refine bJ rfl ?_));exact k.g):A:=h ⟨k⟩
theorem W0w {A B:Prop} (k:B) (h:W00 B→A:=by intro k;(repeat' (first|refine Ng ?_|refine ak ?_|refine NG a5 IG ?_|(apply aO;first|refine aN a5 ?_|refine aF a5 ?_)|(apply bA;refine bw ?_)|fail));exact k.g):A:=h ⟨k⟩
theorem W0y {A B:Prop} (k:B) (h:W00 B→A:=by intro k;(repeat' (first|refine Ng ?_|refine ak ?_|refine NG a5 IG ?_|refine bq ?_|fail));exact k.g):A:=h ⟨k⟩
theorem W0z {A B:Prop} (k:B) (h:W00 B→A:=by intro k;(repeat' (first|refine Ng ?_|refine NG a5 IG ?_|(apply aS;refine aR ?_)|(apply aI;first|refine NI 8 a5 0 NF ?_|refine NI 8 a5 1 NF ?_|refine NI 8 a5 2 NF ?_|refine NI 10 a5 0 NF ?_|refine NI 10 a5 1 NF ?_|refine NI 10 a5 2 NF ?_|refine NI 13 a5 0 NF ?_|refine NI 13 a5 1 NF ?_|refine NI 13 a5 2 NF ?_|refine NI 15 a5 0 NF ?_|refine NI 15 a5 1 NF ?_|refine NI 15 a5 2 NF ?_|refine NH a5 0 NE ?_|refine NH a5 1 NE ?_|refine NH a5 2 NE ?_|refine NH a5 3 NE ?_|fail)));exact k.g):A:=h ⟨k⟩
theorem W0A {A B:Prop} (k:B) (h:W00 B→A:=by intro k;(repeat' (first|refine Ng ?_|refine NG a5 IG ?_|(apply aS;refine aR ?_)|(apply aI;first|refine NI 5 a5 0 NF ?_|refine NI 5 a5 1 NF ?_|refine NI 5 a5 2 NF ?_|refine NI 6 a5 0 NF ?_|refine NI 6 a5 1 NF ?_|refine NI 6 a5 2 NF ?_|refine NI 9 a5 0 NF ?_|refine NI 9 a5 1 NF ?_|refine NI 9 a5 2 NF ?_|refine NI 10 a5 0 NF ?_|refine NI 10 a5 1 NF ?_|refine NI 10 a5 2 NF ?_|refine NH a5 0 NE ?_|refine NH a5 1 NE ?_|refine NH a5 2 NE ?_|refine NH a5 3 NE ?_|fail)));exact k.g):A:=h ⟨k⟩
theorem W0B {A B:Prop} (k:B) (h:W00 B→A:=by intro k;(repeat' (first|refine Ng ?_|refine ak ?_|refine NG a5 IG ?_|(apply aS;refine aR ?_)|fail));exact k.g):A:=h ⟨k⟩
theorem W0C {A B:Prop} (k:B) (h:W00 B→A:=by intro k;(repeat' (first|refine Ng ?_|(apply aI;first|refine NI 5 a5 0 NF ?_|refine NI 5 a5 1 NF ?_|refine NI 5 a5 2 NF ?_|refine NI 6 a5 0 NF ?_|refine NI 6 a5 1 NF ?_|refine NI 6 a5 2 NF ?_|refine NI 9 a5 0 NF ?_|refine NI 9 a5 1 NF ?_|refine NI 9 a5 2 NF ?_|refine NI 10 a5 0 NF ?_|refine NI 10 a5 1 NF ?_|refine NI 10 a5 2 NF ?_|refine NH a5 0 NE ?_|refine NH a5 1 NE ?_|refine NH a5 2 NE ?_|refine NH a5 3 NE ?_|fail)|refine bn a5 fun b'z=>?_|fail));(repeat revert b'z);exact k.g):A:=h ⟨k⟩
theorem W0D {A B:Prop} (k:B) (h:W00 B→A:=by intro k;(repeat' (first|refine Ng ?_|refine NG a5 IG ?_|(apply bz;first|refine NJ a5 0 NC ?_|refine NJ a5 1 NC ?_|refine NJ a5 2 NC ?_|refine NJ a5 3 NC ?_|refine NK a5 0 NC ?_|refine NK a5 1 NC ?_|refine NK a5 2 NC ?_|refine NL a5 1 NA (by assumption) rfl ?_|refine NL a5 0 NA (by assumption) rfl ?_|fail)|(apply aI;first|refine NH a5 0 NE ?_|refine NH a5 1 NE ?_|refine NH a5 2 NE ?_|refine NH a5 3 NE ?_|fail)|refine bn a5 fun b'z=>?_|fail));(repeat revert b'z);exact k.g):A:=h ⟨k⟩
theorem W0E {A B:Prop} (k:B) (h:W00 B→A:=by intro k;(repeat' (first|refine Ng ?_|refine NG a5 IG ?_|(apply bz;first|refine NJ a5 0 NC ?_|refine NJ a5 1 NC ?_|refine NJ a5 2 NC ?_|refine NJ a5 3 NC ?_|refine NK a5 0 NC ?_|refine NK a5 1 NC ?_|refine NK a5 2 NC ?_|refine NL a5 1 NA (by assumption) rfl ?_|refine NL a5 0 NA (by assumption) rfl ?_|fail)|(apply aS;refine aR ?_)|(apply aI;first|refine NH a5 0 NE ?_|refine NH a5 1 NE ?_|refine NH a5 2 NE ?_|refine NH a5 3 NE ?_|fail)));exact k.g):A:=h ⟨k⟩
theorem W0F {A B:Prop} (k:B) (h:W00 B→A:=by intro k;(repeat' (first|(apply aO;first|refine aN a5 ?_|refine aF a5 ?_)|fail));exact k.g):A:=h ⟨k⟩
theorem W0G {A B:Prop} (k:B) (h:W00 B→A:=by intro k;(repeat' (first|refine Ng ?_|refine NG a5 IG ?_|refine bq ?_|refine bn a5 fun b'z=>?_|fail));(repeat revert b'z);exact k.g):A:=h ⟨k⟩
theorem W0I {A B:Prop} (k:B) (h:W00 B→A:=by intro k;(repeat' (first|refine Ng ?_|refine NG a5 IG ?_|refine NN IG ?_));exact k.g):A:=h ⟨k⟩
theorem W0J {A B:Prop} (k:B) (h:W00 B→A:=by intro k;(repeat' (first|refine NG a5 IG ?_|refine NN IG ?_));exact k.g):A:=h ⟨k⟩
theorem W0K {A B:Prop} (k:B) (h:W00 B→A:=by intro k;(repeat' (first|refine Ng ?_|(apply aI;first|refine NI 4 a5 0 NF ?_|refine NI 4 a5 1 NF ?_|refine NI 4 a5 2 NF ?_|refine NI 5 a5 0 NF ?_|refine NI 5 a5 1 NF ?_|refine NI 5 a5 2 NF ?_|refine NI 6 a5 0 NF ?_|refine NI 6 a5 1 NF ?_|refine NI 6 a5 2 NF ?_|refine NH a5 0 NE ?_|refine NH a5 1 NE ?_|refine NH a5 2 NE ?_|refine NH a5 3 NE ?_|fail)|refine bn a5 fun b'z=>?_|fail));(repeat revert b'z);exact k.g):A:=h ⟨k⟩
theorem W0L {A B:Prop} (k:B) (h:W00 B→A:=by intro k;(repeat' (first|refine Ng ?_|refine ak ?_|refine NG a5 IG ?_|(apply bz;first|refine NJ a5 0 NC ?_|refine NJ a5 1 NC ?_|refine NJ a5 2 NC ?_|refine NJ a5 3 NC ?_|refine NK a5 0 NC ?_|refine NK a5 1 NC ?_|refine NK a5 2 NC ?_|refine NL a5 1 NA (by assumption) rfl ?_|refine NL a5 0 NA (by assumption) rfl ?_|fail)|(apply aO;first|refine aN a5 ?_|refine aF a5 ?_)|fail));exact k.g):A:=h ⟨k⟩
theorem W0N {A B:Prop} (k:B) (h:W00 B→A:=by intro k;(repeat' (first|refine Ng ?_|refine NG a5 IG ?_|(apply bz;first|refine NJ a5 0 NC ?_|refine NJ a5 1 NC ?_|refine NJ a5 2 NC ?_|refine NJ a5 3 NC ?_|refine NK a5 0 NC ?_|refine NK a5 1 NC ?_|refine NK a5 2 NC ?_|refine NL a5 1 NA (by assumption) rfl ?_|refine NL a5 0 NA (by assumption) rfl ?_|fail)|(apply aS;refine aR ?_)|refine bJ rfl ?_));exact k.g):A:=h ⟨k⟩
theorem W0O {A B:Prop} (k:B) (h:W00 B→A:=by intro k;(repeat' (first|refine Ng ?_|(apply aI;first|refine NH a5 0 NE ?_|refine NH a5 1 NE ?_|refine NH a5 2 NE ?_|refine NH a5 3 NE ?_|fail)));exact k.g):A:=h ⟨k⟩
theorem W0P {A B:Prop} (k:B) (h:W00 B→A:=by intro k;(repeat' (first|refine Ng ?_|refine NG a5 IG ?_|(apply bz;first|refine NJ a5 0 NC ?_|refine NJ a5 1 NC ?_|refine NJ a5 2 NC ?_|refine NJ a5 3 NC ?_|refine NK a5 0 NC ?_|refine NK a5 1 NC ?_|refine NK a5 2 NC ?_|refine NL a5 1 NA (by assumption) rfl ?_|refine NL a5 0 NA (by assumption) rfl ?_|fail)|refine bn a5 fun b'z=>?_|fail));(repeat revert b'z);exact k.g):A:=h ⟨k⟩
theorem W0R {A B:Prop} (k:B) (h:W00 B→A:=by intro k;(repeat' (first|refine Ng ?_|refine ak ?_|refine NG a5 IG ?_|(apply aO;first|refine aN a5 ?_|refine aF a5 ?_)|(apply aI;first|refine NI 11 a5 0 NF ?_|refine NI 11 a5 1 NF ?_|refine NI 11 a5 2 NF ?_|refine NH a5 0 NE ?_|refine NH a5 1 NE ?_|refine NH a5 2 NE ?_|refine NH a5 3 NE ?_|fail)|refine bn a5 fun b'z=>?_|fail));(repeat revert b'z);exact k.g):A:=h ⟨k⟩
theorem W0S {A B:Prop} (k:B) (h:W00 B→A:=by intro k;(repeat' (first|refine Ng ?_|refine ak ?_|refine NG a5 IG ?_|(apply aO;first|refine aN a5 ?_|refine aF a5 ?_)|(apply aI;first|refine NI 6 a5 0 NF ?_|refine NI 6 a5 1 NF ?_|refine NI 6 a5 2 NF ?_|refine NH a5 0 NE ?_|refine NH a5 1 NE ?_|refine NH a5 2 NE ?_|refine NH a5 3 NE ?_|fail)|refine bn a5 fun b'z=>?_|fail));(repeat revert b'z);exact k.g):A:=h ⟨k⟩
theorem W0T {A B:Prop} (k:B) (h:W00 B→A:=by intro k;(repeat' (first|refine Ng ?_|refine a7 ?_|refine NG a5 IG ?_|(apply bA;refine bw ?_)|fail));exact k.g):A:=h ⟨k⟩
theorem W0U {A B:Prop} (k:B) (h:W00 B→A:=by intro k;(repeat' (first|refine Ng ?_|refine NG a5 IG ?_|(apply aO;first|refine aN a5 ?_|refine aF a5 ?_)|(apply aI;first|refine NI 5 a5 0 NF ?_|refine NI 5 a5 1 NF ?_|refine NI 5 a5 2 NF ?_|refine NH a5 0 NE ?_|refine NH a5 1 NE ?_|refine NH a5 2 NE ?_|refine NH a5 3 NE ?_|fail)|refine bn a5 fun b'z=>?_|fail));(repeat revert b'z);exact k.g):A:=h ⟨k⟩
theorem W0W {A B:Prop} (k:B) (h:W00 B→A:=by intro k;(repeat' (first|refine Ng ?_|refine NG a5 IG ?_|refine bJ rfl ?_));exact k.g):A:=h ⟨k⟩
theorem W0X {A B:Prop} (k:B) (h:W00 B→A:=by intro k;(repeat' (first|refine Ng ?_|refine ak ?_|refine NG a5 IG ?_|refine bR rfl ?_|refine bJ rfl ?_));exact k.g):A:=h ⟨k⟩
theorem W0Z {A B:Prop} (k:B) (h:W00 B→A:=by intro k;(repeat' (first|refine Ng ?_|refine NG a5 IG ?_|refine bq ?_|(apply bA;refine bw ?_)|fail));exact k.g):A:=h ⟨k⟩
theorem W10 {A B:Prop} (k:B) (h:W00 B→A:=by intro k;(repeat' (first|refine Ng ?_|refine ak ?_|refine NG a5 IG ?_|(apply bA;refine bw ?_)|fail));exact k.g):A:=h ⟨k⟩
theorem W12 {A B:Prop} (k:B) (h:W00 B→A:=by intro k;(repeat' (first|refine Ng ?_|refine NG a5 IG ?_|(apply aI;first|refine NI 12 a5 0 NF ?_|refine NI 12 a5 1 NF ?_|refine NI 12 a5 2 NF ?_|refine NH a5 0 NE ?_|refine NH a5 1 NE ?_|refine NH a5 2 NE ?_|refine NH a5 3 NE ?_|fail)|refine bn a5 fun b'z=>?_|fail));(repeat revert b'z);exact k.g):A:=h ⟨k⟩
theorem W15 {A B:Prop} (k:B) (h:W00 B→A:=by intro k;(repeat' (first|refine Ng ?_|refine NG a5 IG ?_|(apply aS;refine aR ?_)|refine bJ rfl ?_));exact k.g):A:=h ⟨k⟩
theorem W17 {A B:Prop} (k:B) (h:W00 B→A:=by intro k;(repeat' (first|refine Ng ?_|refine a7 ?_|refine NG a5 IG ?_|(apply aS;refine aR ?_)|refine bJ rfl ?_));exact k.g):A:=h ⟨k⟩
theorem W18 {A B:Prop} (k:B) (h:W00 B→A:=by intro k;(repeat' (first|refine Ng ?_|refine a7 ?_|refine NG a5 IG ?_|refine bR rfl ?_));exact k.g):A:=h ⟨k⟩
theorem W19 {A B:Prop} (k:B) (h:W00 B→A:=by intro k;(repeat' (first|refine Ng ?_|refine ak ?_|refine NG a5 IG ?_|refine fR (n:=0) a5 fun b'z=>?_|fail));(repeat revert b'z);exact k.g):A:=h ⟨k⟩
theorem W1b {A B:Prop} (k:B) (h:W00 B→A:=by intro k;(repeat' (first|refine Ng ?_|refine NG a5 IG ?_|(apply aI;first|refine NH a5 0 NE ?_|refine NH a5 1 NE ?_|refine NH a5 2 NE ?_|refine NH a5 3 NE ?_|fail)|refine bR rfl ?_));exact k.g):A:=h ⟨k⟩
theorem W1c {A B:Prop} (k:B) (h:W00 B→A:=by intro k;(repeat' (first|refine Ng ?_|refine ak ?_|refine NG a5 IG ?_|(apply aI;first|refine NH a5 0 NE ?_|refine NH a5 1 NE ?_|refine NH a5 2 NE ?_|refine NH a5 3 NE ?_|fail)));exact k.g):A:=h ⟨k⟩
theorem W1d {A B:Prop} (k:B) (h:W00 B→A:=by intro k;(repeat' (first|refine Ng ?_|refine a7 ?_|refine NG a5 IG ?_|(apply aI;first|refine NH a5 0 NE ?_|refine NH a5 1 NE ?_|refine NH a5 2 NE ?_|refine NH a5 3 NE ?_|fail)));exact k.g):A:=h ⟨k⟩
theorem W1e {A B:Prop} (k:B) (h:W00 B→A:=by intro k;(repeat' (first|refine Ng ?_|refine ak ?_|refine NG a5 IG ?_|refine bq ?_|refine bR rfl ?_|refine bJ rfl ?_));exact k.g):A:=h ⟨k⟩
theorem W1f {A B:Prop} (k:B) (h:W00 B→A:=by intro k;(repeat' (first|refine Ng ?_|refine eN rfl ?_|refine NG a5 IG ?_));exact k.g):A:=h ⟨k⟩
theorem W1g {A B:Prop} (k:B) (h:W00 B→A:=by intro k;(repeat' (first|refine Ng ?_|refine NG a5 IG ?_|refine NO NB ?_|refine bJ rfl ?_));exact k.g):A:=h ⟨k⟩
theorem W1h {A B:Prop} (k:B) (h:W00 B→A:=by intro k;(repeat' (first|refine Ng ?_|refine NG a5 IG ?_|refine NO NB ?_|(apply aS;refine aR ?_)|refine bJ rfl ?_));exact k.g):A:=h ⟨k⟩
theorem W1k {A B:Prop} (k:B) (h:W00 B→A:=by intro k;(repeat' (first|refine Ng ?_|refine NG a5 IG ?_|refine NN IG ?_|(apply aO;first|refine aN a5 ?_|refine aF a5 ?_)|(apply bA;refine bw ?_)|fail));exact k.g):A:=h ⟨k⟩
theorem W1l {A B:Prop} (k:B) (h:W00 B→A:=by intro k;(repeat' (first|refine Ng ?_|refine a7 ?_|refine NG a5 IG ?_|refine NO NB ?_|refine bR rfl ?_));exact k.g):A:=h ⟨k⟩
theorem W1m {A B:Prop} (k:B) (h:W00 B→A:=by intro k;(repeat' (first|refine Ng ?_|refine NG a5 IG ?_|refine NO NB ?_|(apply bA;refine bw ?_)|fail));exact k.g):A:=h ⟨k⟩
theorem W1n {A B:Prop} (k:B) (h:W00 B→A:=by intro k;(repeat' (first|refine Ng ?_|refine NG a5 IG ?_|refine NN IG ?_|(apply bA;refine bw ?_)|fail));exact k.g):A:=h ⟨k⟩
theorem W1q {A B:Prop} (k:B) (h:W00 B→A:=by intro k;(repeat' (first|refine Ng ?_|refine ak ?_|refine NG a5 IG ?_|(apply aO;first|refine aN a5 ?_|refine aF a5 ?_)|refine bR rfl ?_));exact k.g):A:=h ⟨k⟩
theorem W1r {A B:Prop} (k:B) (h:W00 B→A:=by intro k;(repeat' (first|refine Ng ?_|refine NG a5 IG ?_|(apply aS;refine aR ?_)|(apply aO;first|refine aN a5 ?_|refine aF a5 ?_)|fail));exact k.g):A:=h ⟨k⟩
theorem W1t {A B:Prop} (k:B) (h:W00 B→A:=by intro k;(repeat' (first|refine Ng ?_|refine NG a5 IG ?_|refine NN IG ?_|refine bq ?_|fail));exact k.g):A:=h ⟨k⟩
theorem W1u {A B:Prop} (k:B) (h:W00 B→A:=by intro k;(repeat' (first|refine Ng ?_|refine NG a5 IG ?_|refine NO NB ?_|refine bR rfl ?_));exact k.g):A:=h ⟨k⟩
theorem W1v {A B:Prop} (k:B) (h:W00 B→A:=by intro k;(repeat' (first|refine Ng ?_|refine ak ?_|refine NG a5 IG ?_|(apply bA;refine bw ?_)|refine bR rfl ?_|refine bJ rfl ?_));exact k.g):A:=h ⟨k⟩
theorem W1w {A B:Prop} (k:B) (h:W00 B→A:=by intro k;(repeat' (first|refine Ng ?_|refine NG a5 IG ?_|refine NN IG ?_|(apply aO;first|refine aN a5 ?_|refine aF a5 ?_)|fail));exact k.g):A:=h ⟨k⟩
theorem W1x {A B:Prop} (k:B) (h:W00 B→A:=by intro k;(repeat' (first|refine Ng ?_|refine a7 ?_|refine NG a5 IG ?_|refine NO NB ?_|(apply aS;refine aR ?_)|refine bJ rfl ?_));exact k.g):A:=h ⟨k⟩
theorem W1z {A B:Prop} (k:B) (h:W00 B→A:=by intro k;(repeat' (first|refine Ng ?_|refine a7 ?_|refine NG a5 IG ?_|refine NN IG ?_));exact k.g):A:=h ⟨k⟩
theorem W1A {A B:Prop} (k:B) (h:W00 B→A:=by intro k;(repeat' (first|refine Ng ?_|refine ak ?_|refine NG a5 IG ?_|refine bn a5 fun b'z=>?_|(apply bA;refine bw ?_)|fail));(repeat revert b'z);exact k.g):A:=h ⟨k⟩
theorem W1B {A B:Prop} (k:B) (h:W00 B→A:=by intro k;(repeat' (first|refine Ng ?_|refine NG a5 IG ?_|refine NN IG ?_|refine bq ?_|refine bn a5 fun b'z=>?_|fail));(repeat revert b'z);exact k.g):A:=h ⟨k⟩
theorem W1C {A B:Prop} (k:B) (h:W00 B→A:=by intro k;(repeat' (first|refine NG a5 IG ?_|refine NN IG ?_|(apply aO;first|refine aN a5 ?_|refine aF a5 ?_)|fail));exact k.g):A:=h ⟨k⟩
theorem W1E {A B:Prop} (k:B) (h:W00 B→A:=by intro k;(repeat' (first|refine Ng ?_|refine NG a5 IG ?_|refine NN IG ?_|refine NO NB ?_|refine bJ rfl ?_));exact k.g):A:=h ⟨k⟩
theorem W1F {A B:Prop} (k:B) (h:W00 B→A:=by intro k;(repeat' (first|refine Ng ?_|refine NG a5 IG ?_|refine NO NB ?_));exact k.g):A:=h ⟨k⟩
theorem W1G {A B:Prop} (k:B) (h:W00 B→A:=by intro k;(repeat' (first|refine Ng ?_|refine NG a5 IG ?_|refine fR (d:=5) a5 fun b'z=>?_|refine bJ rfl ?_));(repeat revert b'z);exact k.g):A:=h ⟨k⟩
theorem W1I {A B:Prop} (k:B) (h:W00 B→A:=by intro k;(repeat' (first|refine ak ?_|refine Ng ?_|refine NG a5 IG ?_|(apply aS;refine aR ?_)|fail));exact k.g):A:=h ⟨k⟩
theorem W1M {A B:Prop} (k:B) (h:W00 B→A:=by intro k;(repeat' (first|refine Ng ?_|refine NG a5 IG ?_|refine NN IG ?_|refine bR rfl ?_));exact k.g):A:=h ⟨k⟩
theorem W1O {A B:Prop} (k:B) (h:W00 B→A:=by intro k;(repeat' (first|refine Ng ?_|refine ak ?_|refine NG a5 IG ?_|refine bJ rfl ?_));exact k.g):A:=h ⟨k⟩
theorem W1P {A B:Prop} (k:B) (h:W00 B→A:=by intro k;(repeat' (first|refine Ng ?_|refine NG a5 IG ?_|refine bn a5 fun b'z=>?_|fail));(repeat revert b'z);exact k.g):A:=h ⟨k⟩
end Go.Proofs.YtpmdfoaadejmkaaGreatDoor
