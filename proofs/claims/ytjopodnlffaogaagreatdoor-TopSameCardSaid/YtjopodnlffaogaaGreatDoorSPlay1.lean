/- A part of the proof of TopSame: TpPlay1. -/
import Derived.Test.YtjopodnlffaogaaGreatDoorSL4
set_option linter.unusedVariables false
set_option linter.unusedSimpArgs false
set_option maxRecDepth 100000
set_option maxHeartbeats 4000000
section
namespace Go.Proofs.YtjopodnlffaogaaGreatDoor.Abs
open Tp
noncomputable def RU:List (Nat × AO):= [(0,.row [.int .i64 0,.int .i64 2,.int .i64 3,.int .i64 4,.int .i64 9] 224 2),
 (1,.row [.int .i64 6,.int .i64 0,.int .i64 5,.int .i64 2,.int .i64 10,.int .i64 0,.int .i64 7,.int .i64 0] 226 2),
 (2,.row [.string ⟨⟨[]⟩⟩,.string ⟨⟨[116,105,99,107,101,116]⟩⟩,.string ⟨⟨[97,110,100,101,114,115,111,110]⟩⟩,.string ⟨⟨[103,114,97,117,110,107,101]⟩⟩,.string ⟨⟨[99,108,104]⟩⟩,.string ⟨⟨[109,99,115]⟩⟩,.string ⟨⟨[107,52,50]⟩⟩,.string ⟨⟨[99,108,104,45,116,114,121]⟩⟩,.string ⟨⟨[109,99,115,45,116,114,121]⟩⟩] 232 2),
 (4,.row [.string ⟨⟨[]⟩⟩,.string ⟨⟨[99,97,108,108]⟩⟩,.string ⟨⟨[101,110,113]⟩⟩,.string ⟨⟨[103,114,97,110,116]⟩⟩,.string ⟨⟨[97,98,111,114,116]⟩⟩,.string ⟨⟨[103,111,116]⟩⟩,.string ⟨⟨[108,111,115,116]⟩⟩,.string ⟨⟨[102,117,108,108]⟩⟩,.string ⟨⟨[117,110,108,111,99,107]⟩⟩,.string ⟨⟨[114,101,108,101,97,115,101]⟩⟩,.string ⟨⟨[111,118,101,114]⟩⟩] 290 2),
 (5,.row [.int .u64 1,.int .u64 10,.int .u64 100,.int .u64 1000,.int .u64 10000,.int .u64 100000,.int .u64 1000000,.int .u64 10000000,.int .u64 100000000,.int .u64 1000000000,.int .u64 10000000000,.int .u64 100000000000,.int .u64 1000000000000,.int .u64 10000000000000,.int .u64 100000000000000,.int .u64 1000000000000000,.int .u64 10000000000000000,.int .u64 100000000000000000,.int .u64 1000000000000000000,.int .u64 10000000000000000000] 367 2),
 (8,.row [.iface 384 (.pointer (some ⟨12,0,some 0⟩))] 104 2),
 (13,.row [.string ⟨⟨[]⟩⟩] 9 0),
 (14,.row [.int .i64 0] 26 0),
 (15,.row [.pointer (some ⟨1308,0,none⟩)] 95 0),
 (16,.row [.pointer none,.slice none 0 0] 98 0),
 (1069,.obj (.map ⟨[]⟩ 0)),
 (1070,.row [.int .i64 0,.slice (some ⟨1078,0,none⟩) 2 1,.map (some 1069)] 231 0),
 (1071,.row [] 22 0),
 (1072,.row [.slice (some ⟨1071,0,none⟩) 0 0,.int .i64 0,.int .i64 0] 284 0),
 (1075,.row [] 22 0),
 (1076,.row [.slice (some ⟨1075,0,none⟩) 0 0,.int .i64 0,.int .i64 0] 284 0),
 (1078,.row [.pointer (some ⟨1072,0,none⟩),.pointer (some ⟨1076,0,none⟩)] 227 1),
 (1080,.row [.int .i64 1,.int .i64 2,.int .i64 2] 3 1),
 (1081,.row [.pointer (some ⟨1089,0,none⟩),.slice (some ⟨1080,0,none⟩) 3 1,.slice (some ⟨1087,0,none⟩) 3 1] 261 0),
 (1087,.row [.int .i64 0,.int .i64 1,.int .i64 3] 3 1),
 (1088,.row [.int .u32 0,.int .u32 0,.int .u32 0,.int .u32 0,.int .u32 0] 314 0),
 (1089,.row [.slice (some ⟨1088,0,none⟩) 5 10] 310 0),
 (1251,.row [.int .u32 0,.int .u32 0,.int .u32 0,.int .u32 0,.int .u32 0,.int .u32 0,.int .u32 0,.int .u32 0,.int .i64 0,.int .u32 0,.int .u32 0,.int .u32 0,.int .u32 0,.int .u32 0,.int .u32 0,.int .u32 0,.int .u32 0,.int .i64 0] 192 0),
 (1253,.row [.slice (some ⟨1267,0,none⟩) 24 1,.int .i64 0,.int .i64 13,.pointer (some ⟨1081,0,none⟩),.pointer (some ⟨1070,0,none⟩),.slice (some ⟨1251,0,none⟩) 2 4] 149 0),
 (1267,.row [.int .i64 11,.int .i64 1,.int .i64 0,.int .i64 0,.int .i64 0,.int .i64 0,.int .u32 0,.int .i64 0,.int .i64 3,.int .i64 2,.int .i64 1,.int .i64 0,.int .i64 0,.int .i64 0,.int .u32 1,.int .i64 0,.int .i64 17,.int .i64 0,.int .i64 1,.int .i64 0,.int .i64 0,.int .i64 1,.int .u32 0,.int .i64 0,.int .i64 1,.int .i64 3,.int .i64 0,.int .i64 0,.int .i64 0,.int .i64 0,.int .u32 1,.int .i64 0,.int .i64 17,.int .i64 0,.int .i64 1,.int .i64 3,.int .i64 0,.int .i64 2,.int .u32 0,.int .i64 0,.int .i64 18,.int .i64 4,.int .i64 0,.int .i64 2,.int .i64 0,.int .i64 0,.int .u32 0,.int .i64 0,.int .i64 12,.int .i64 0,.int .i64 0,.int .i64 0,.int .i64 0,.int .i64 0,.int .u32 1,.int .i64 0,.int .i64 8,.int .i64 0,.int .i64 4,.int .i64 0,.int .i64 0,.int .i64 0,.int .u32 0,.int .i64 11,.int .i64 3,.int .i64 4,.int .i64 4,.int .i64 0,.int .i64 0,.int .i64 0,.int .u32 4294967295,.int .i64 0,.int .i64 17,.int .i64 0,.int .i64 4,.int .i64 2,.int .i64 0,.int .i64 1,.int .u32 0,.int .i64 0,.int .i64 21,.int .i64 5,.int .i64 1,.int .i64 0,.int .i64 0,.int .i64 2,.int .u32 0,.int .i64 (-1),.int .i64 12,.int .i64 0,.int .i64 0,.int .i64 0,.int .i64 0,.int .i64 0,.int .u32 2,.int .i64 0,.int .i64 13,.int .i64 0,.int .i64 0,.int .i64 0,.int .i64 0,.int .i64 0,.int .u32 1,.int .i64 0,.int .i64 16,.int .i64 4,.int .i64 1,.int .i64 0,.int .i64 0,.int .i64 1,.int .u32 0,.int .i64 0,.int .i64 9,.int .i64 0,.int .i64 4,.int .i64 0,.int .i64 0,.int .i64 0,.int .u32 0,.int .i64 20,.int .i64 19,.int .i64 5,.int .i64 0,.int .i64 2,.int .i64 0,.int .i64 0,.int .u32 0,.int .i64 0,.int .i64 8,.int .i64 0,.int .i64 5,.int .i64 0,.int .i64 0,.int .i64 0,.int .u32 0,.int .i64 19,.int .i64 12,.int .i64 0,.int .i64 0,.int .i64 0,.int .i64 0,.int .i64 0,.int .u32 4,.int .i64 0,.int .i64 13,.int .i64 0,.int .i64 0,.int .i64 0,.int .i64 0,.int .i64 0,.int .u32 2,.int .i64 0,.int .i64 21,.int .i64 4,.int .i64 1,.int .i64 0,.int .i64 0,.int .i64 1,.int .u32 1,.int .i64 (-1),.int .i64 3,.int .i64 4,.int .i64 4,.int .i64 0,.int .i64 0,.int .i64 0,.int .u32 4294967295,.int .i64 0,.int .i64 17,.int .i64 0,.int .i64 4,.int .i64 0,.int .i64 0,.int .i64 2,.int .u32 0,.int .i64 0,.int .i64 12,.int .i64 0,.int .i64 0,.int .i64 0,.int .i64 0,.int .i64 0,.int .u32 4,.int .i64 0,.int .i64 13,.int .i64 0,.int .i64 0,.int .i64 0,.int .i64 0,.int .i64 0,.int .u32 2,.int .i64 0] 214 1),
 (1268,.row [.slice (some ⟨1287,0,none⟩) 2 1] 195 0),
 (1287,.row [.chan (some 1274),.chan (some 1285)] 196 1),
 (1291,.row [.int .i64 1,.slice (some ⟨1295,0,none⟩) 2 1,.pointer (some ⟨1268,0,none⟩)] 123 0),
 (1295,.row [.int .i64 0,.int .i64 (-1),.int .i64 0,.int .i64 (-1)] 125 1),
 (1303,.row [.int .i64 0,.int .i64 0,.int .i64 0,.int .i64 0,.int .i64 0,.int .i64 0] 86 0),
 (1305,.row [.pointer (some ⟨1253,0,none⟩),.pointer (some ⟨1291,0,none⟩),.bool false,.slice (some ⟨1303,0,none⟩) 2 4,.int .i64 0,.slice none 0 0] 76 0),
 (1308,.row [.pointer (some ⟨1305,0,none⟩),.int .i64 5,.int .i64 2,.int .i64 0,.int .i64 0,.int .i64 1,.int .u32 0,.int .i64 0] 174 0)]
set_option maxRecDepth 1000000 in
theorem XK:i7 uV C5 0 1 none 1309 RU=true:=by kernel_rfl
noncomputable def VT:List (Nat × AO):= [(0,.row [.int .i64 0,.int .i64 2,.int .i64 3,.int .i64 4,.int .i64 9] 224 2),
 (1,.row [.int .i64 6,.int .i64 0,.int .i64 5,.int .i64 2,.int .i64 10,.int .i64 0,.int .i64 7,.int .i64 0] 226 2),
 (2,.row [.string ⟨⟨[]⟩⟩,.string ⟨⟨[116,105,99,107,101,116]⟩⟩,.string ⟨⟨[97,110,100,101,114,115,111,110]⟩⟩,.string ⟨⟨[103,114,97,117,110,107,101]⟩⟩,.string ⟨⟨[99,108,104]⟩⟩,.string ⟨⟨[109,99,115]⟩⟩,.string ⟨⟨[107,52,50]⟩⟩,.string ⟨⟨[99,108,104,45,116,114,121]⟩⟩,.string ⟨⟨[109,99,115,45,116,114,121]⟩⟩] 232 2),
 (4,.row [.string ⟨⟨[]⟩⟩,.string ⟨⟨[99,97,108,108]⟩⟩,.string ⟨⟨[101,110,113]⟩⟩,.string ⟨⟨[103,114,97,110,116]⟩⟩,.string ⟨⟨[97,98,111,114,116]⟩⟩,.string ⟨⟨[103,111,116]⟩⟩,.string ⟨⟨[108,111,115,116]⟩⟩,.string ⟨⟨[102,117,108,108]⟩⟩,.string ⟨⟨[117,110,108,111,99,107]⟩⟩,.string ⟨⟨[114,101,108,101,97,115,101]⟩⟩,.string ⟨⟨[111,118,101,114]⟩⟩] 290 2),
 (5,.row [.int .u64 1,.int .u64 10,.int .u64 100,.int .u64 1000,.int .u64 10000,.int .u64 100000,.int .u64 1000000,.int .u64 10000000,.int .u64 100000000,.int .u64 1000000000,.int .u64 10000000000,.int .u64 100000000000,.int .u64 1000000000000,.int .u64 10000000000000,.int .u64 100000000000000,.int .u64 1000000000000000,.int .u64 10000000000000000,.int .u64 100000000000000000,.int .u64 1000000000000000000,.int .u64 10000000000000000000] 367 2),
 (8,.row [.iface 384 (.pointer (some ⟨12,0,some 0⟩))] 104 2),
 (13,.row [.string ⟨⟨[]⟩⟩] 9 0),
 (14,.row [.int .i64 0] 26 0),
 (15,.row [.pointer (some ⟨1308,0,none⟩)] 95 0),
 (16,.row [.pointer (some ⟨16,0,none⟩),.slice (some ⟨1769,0,none⟩) 8 1] 98 0),
 (1069,.obj (.map ⟨[]⟩ 0)),
 (1070,.row [.int .i64 0,.slice (some ⟨1078,0,none⟩) 2 1,.map (some 1069)] 231 0),
 (1071,.row [] 22 0),
 (1072,.row [.slice (some ⟨1071,0,none⟩) 0 0,.int .i64 0,.int .i64 0] 284 0),
 (1075,.row [] 22 0),
 (1076,.row [.slice (some ⟨1075,0,none⟩) 0 0,.int .i64 0,.int .i64 0] 284 0),
 (1078,.row [.pointer (some ⟨1072,0,none⟩),.pointer (some ⟨1076,0,none⟩)] 227 1),
 (1080,.row [.int .i64 1,.int .i64 2,.int .i64 2] 3 1),
 (1081,.row [.pointer (some ⟨1089,0,none⟩),.slice (some ⟨1080,0,none⟩) 3 1,.slice (some ⟨1087,0,none⟩) 3 1] 261 0),
 (1087,.row [.int .i64 0,.int .i64 1,.int .i64 3] 3 1),
 (1088,.row [.int .u32 0,.int .u32 0,.int .u32 0,.int .u32 0,.int .u32 0] 314 0),
 (1089,.row [.slice (some ⟨1088,0,none⟩) 5 10] 310 0),
 (1251,.row [.int .u32 0,.int .u32 0,.int .u32 1,.int .u32 1,.int .u32 0,.int .u32 0,.int .u32 0,.int .u32 0,.int .i64 4,.int .u32 0,.int .u32 0,.int .u32 0,.int .u32 0,.int .u32 0,.int .u32 0,.int .u32 0,.int .u32 0,.int .i64 0] 192 0),
 (1253,.row [.slice (some ⟨1267,0,none⟩) 24 1,.int .i64 0,.int .i64 13,.pointer (some ⟨1081,0,none⟩),.pointer (some ⟨1070,0,none⟩),.slice (some ⟨1251,0,none⟩) 2 4] 149 0),
 (1267,.row [.int .i64 11,.int .i64 1,.int .i64 0,.int .i64 0,.int .i64 0,.int .i64 0,.int .u32 0,.int .i64 0,.int .i64 3,.int .i64 2,.int .i64 1,.int .i64 0,.int .i64 0,.int .i64 0,.int .u32 1,.int .i64 0,.int .i64 17,.int .i64 0,.int .i64 1,.int .i64 0,.int .i64 0,.int .i64 1,.int .u32 0,.int .i64 0,.int .i64 1,.int .i64 3,.int .i64 0,.int .i64 0,.int .i64 0,.int .i64 0,.int .u32 1,.int .i64 0,.int .i64 17,.int .i64 0,.int .i64 1,.int .i64 3,.int .i64 0,.int .i64 2,.int .u32 0,.int .i64 0,.int .i64 18,.int .i64 4,.int .i64 0,.int .i64 2,.int .i64 0,.int .i64 0,.int .u32 0,.int .i64 0,.int .i64 12,.int .i64 0,.int .i64 0,.int .i64 0,.int .i64 0,.int .i64 0,.int .u32 1,.int .i64 0,.int .i64 8,.int .i64 0,.int .i64 4,.int .i64 0,.int .i64 0,.int .i64 0,.int .u32 0,.int .i64 11,.int .i64 3,.int .i64 4,.int .i64 4,.int .i64 0,.int .i64 0,.int .i64 0,.int .u32 4294967295,.int .i64 0,.int .i64 17,.int .i64 0,.int .i64 4,.int .i64 2,.int .i64 0,.int .i64 1,.int .u32 0,.int .i64 0,.int .i64 21,.int .i64 5,.int .i64 1,.int .i64 0,.int .i64 0,.int .i64 2,.int .u32 0,.int .i64 (-1),.int .i64 12,.int .i64 0,.int .i64 0,.int .i64 0,.int .i64 0,.int .i64 0,.int .u32 2,.int .i64 0,.int .i64 13,.int .i64 0,.int .i64 0,.int .i64 0,.int .i64 0,.int .i64 0,.int .u32 1,.int .i64 0,.int .i64 16,.int .i64 4,.int .i64 1,.int .i64 0,.int .i64 0,.int .i64 1,.int .u32 0,.int .i64 0,.int .i64 9,.int .i64 0,.int .i64 4,.int .i64 0,.int .i64 0,.int .i64 0,.int .u32 0,.int .i64 20,.int .i64 19,.int .i64 5,.int .i64 0,.int .i64 2,.int .i64 0,.int .i64 0,.int .u32 0,.int .i64 0,.int .i64 8,.int .i64 0,.int .i64 5,.int .i64 0,.int .i64 0,.int .i64 0,.int .u32 0,.int .i64 19,.int .i64 12,.int .i64 0,.int .i64 0,.int .i64 0,.int .i64 0,.int .i64 0,.int .u32 4,.int .i64 0,.int .i64 13,.int .i64 0,.int .i64 0,.int .i64 0,.int .i64 0,.int .i64 0,.int .u32 2,.int .i64 0,.int .i64 21,.int .i64 4,.int .i64 1,.int .i64 0,.int .i64 0,.int .i64 1,.int .u32 1,.int .i64 (-1),.int .i64 3,.int .i64 4,.int .i64 4,.int .i64 0,.int .i64 0,.int .i64 0,.int .u32 4294967295,.int .i64 0,.int .i64 17,.int .i64 0,.int .i64 4,.int .i64 0,.int .i64 0,.int .i64 2,.int .u32 0,.int .i64 0,.int .i64 12,.int .i64 0,.int .i64 0,.int .i64 0,.int .i64 0,.int .i64 0,.int .u32 4,.int .i64 0,.int .i64 13,.int .i64 0,.int .i64 0,.int .i64 0,.int .i64 0,.int .i64 0,.int .u32 2,.int .i64 0] 214 1),
 (1268,.row [.slice (some ⟨1287,0,none⟩) 2 1] 195 0),
 (1287,.row [.chan (some 1274),.chan (some 1285)] 196 1),
 (1291,.row [.int .i64 1,.slice (some ⟨1295,0,none⟩) 2 1,.pointer (some ⟨1268,0,none⟩)] 123 0),
 (1295,.row [.int .i64 0,.int .i64 (-1),.int .i64 0,.int .i64 (-1)] 125 1),
 (1303,.row [.int .i64 1,.int .i64 (-1),.int .i64 1,.int .i64 0,.int .i64 0,.int .i64 0] 86 0),
 (1305,.row [.pointer (some ⟨1253,0,none⟩),.pointer (some ⟨1291,0,none⟩),.bool false,.slice (some ⟨1303,0,none⟩) 2 4,.int .i64 0,.slice (some ⟨1366,0,none⟩) 1 1] 76 0),
 (1308,.row [.pointer (some ⟨1305,0,none⟩),.int .i64 5,.int .i64 2,.int .i64 0,.int .i64 0,.int .i64 1,.int .u32 0,.int .i64 0] 174 0),
 (1366,.row [.int .i64 1,.int .i64 0,.int .i64 0] 55 1),
 (1769,.row [.int .u8 111,.int .u8 107,.int .u8 10,.int .u8 111,.int .u8 107,.int .u8 32,.int .u8 49,.int .u8 10] 5 1)]
set_option maxRecDepth 1000000 in
theorem YV:i7 uV C5 (0+1) 2 (some (CC 1309 RU)) 1770 VT=true:=by kernel_rfl
noncomputable def QW:List (Nat × AO):= [(0,.row [.int .i64 0,.int .i64 2,.int .i64 3,.int .i64 4,.int .i64 9] 224 2),
 (1,.row [.int .i64 6,.int .i64 0,.int .i64 5,.int .i64 2,.int .i64 10,.int .i64 0,.int .i64 7,.int .i64 0] 226 2),
 (2,.row [.string ⟨⟨[]⟩⟩,.string ⟨⟨[116,105,99,107,101,116]⟩⟩,.string ⟨⟨[97,110,100,101,114,115,111,110]⟩⟩,.string ⟨⟨[103,114,97,117,110,107,101]⟩⟩,.string ⟨⟨[99,108,104]⟩⟩,.string ⟨⟨[109,99,115]⟩⟩,.string ⟨⟨[107,52,50]⟩⟩,.string ⟨⟨[99,108,104,45,116,114,121]⟩⟩,.string ⟨⟨[109,99,115,45,116,114,121]⟩⟩] 232 2),
 (4,.row [.string ⟨⟨[]⟩⟩,.string ⟨⟨[99,97,108,108]⟩⟩,.string ⟨⟨[101,110,113]⟩⟩,.string ⟨⟨[103,114,97,110,116]⟩⟩,.string ⟨⟨[97,98,111,114,116]⟩⟩,.string ⟨⟨[103,111,116]⟩⟩,.string ⟨⟨[108,111,115,116]⟩⟩,.string ⟨⟨[102,117,108,108]⟩⟩,.string ⟨⟨[117,110,108,111,99,107]⟩⟩,.string ⟨⟨[114,101,108,101,97,115,101]⟩⟩,.string ⟨⟨[111,118,101,114]⟩⟩] 290 2),
 (5,.row [.int .u64 1,.int .u64 10,.int .u64 100,.int .u64 1000,.int .u64 10000,.int .u64 100000,.int .u64 1000000,.int .u64 10000000,.int .u64 100000000,.int .u64 1000000000,.int .u64 10000000000,.int .u64 100000000000,.int .u64 1000000000000,.int .u64 10000000000000,.int .u64 100000000000000,.int .u64 1000000000000000,.int .u64 10000000000000000,.int .u64 100000000000000000,.int .u64 1000000000000000000,.int .u64 10000000000000000000] 367 2),
 (8,.row [.iface 384 (.pointer (some ⟨12,0,some 0⟩))] 104 2),
 (13,.row [.string ⟨⟨[]⟩⟩] 9 0),
 (14,.row [.int .i64 0] 26 0),
 (15,.row [.pointer (some ⟨1308,0,none⟩)] 95 0),
 (16,.row [.pointer (some ⟨16,0,none⟩),.slice (some ⟨2467,0,none⟩) 18 1] 98 0),
 (1069,.obj (.map ⟨[]⟩ 0)),
 (1070,.row [.int .i64 0,.slice (some ⟨1078,0,none⟩) 2 1,.map (some 1069)] 231 0),
 (1071,.row [] 22 0),
 (1072,.row [.slice (some ⟨1071,0,none⟩) 0 0,.int .i64 0,.int .i64 0] 284 0),
 (1075,.row [] 22 0),
 (1076,.row [.slice (some ⟨1075,0,none⟩) 0 0,.int .i64 0,.int .i64 0] 284 0),
 (1078,.row [.pointer (some ⟨1072,0,none⟩),.pointer (some ⟨1076,0,none⟩)] 227 1),
 (1080,.row [.int .i64 1,.int .i64 2,.int .i64 2] 3 1),
 (1081,.row [.pointer (some ⟨1089,0,none⟩),.slice (some ⟨1080,0,none⟩) 3 1,.slice (some ⟨1087,0,none⟩) 3 1] 261 0),
 (1087,.row [.int .i64 0,.int .i64 1,.int .i64 3] 3 1),
 (1088,.row [.int .u32 1,.int .u32 0,.int .u32 0,.int .u32 1,.int .u32 0] 314 0),
 (1089,.row [.slice (some ⟨1088,0,none⟩) 5 10] 310 0),
 (1251,.row [.int .u32 0,.int .u32 0,.int .u32 1,.int .u32 1,.int .u32 0,.int .u32 0,.int .u32 0,.int .u32 0,.int .i64 12,.int .u32 0,.int .u32 0,.int .u32 0,.int .u32 0,.int .u32 0,.int .u32 0,.int .u32 0,.int .u32 0,.int .i64 0] 192 0),
 (1253,.row [.slice (some ⟨1267,0,none⟩) 24 1,.int .i64 0,.int .i64 13,.pointer (some ⟨1081,0,none⟩),.pointer (some ⟨1070,0,none⟩),.slice (some ⟨1251,0,none⟩) 2 4] 149 0),
 (1267,.row [.int .i64 11,.int .i64 1,.int .i64 0,.int .i64 0,.int .i64 0,.int .i64 0,.int .u32 0,.int .i64 0,.int .i64 3,.int .i64 2,.int .i64 1,.int .i64 0,.int .i64 0,.int .i64 0,.int .u32 1,.int .i64 0,.int .i64 17,.int .i64 0,.int .i64 1,.int .i64 0,.int .i64 0,.int .i64 1,.int .u32 0,.int .i64 0,.int .i64 1,.int .i64 3,.int .i64 0,.int .i64 0,.int .i64 0,.int .i64 0,.int .u32 1,.int .i64 0,.int .i64 17,.int .i64 0,.int .i64 1,.int .i64 3,.int .i64 0,.int .i64 2,.int .u32 0,.int .i64 0,.int .i64 18,.int .i64 4,.int .i64 0,.int .i64 2,.int .i64 0,.int .i64 0,.int .u32 0,.int .i64 0,.int .i64 12,.int .i64 0,.int .i64 0,.int .i64 0,.int .i64 0,.int .i64 0,.int .u32 1,.int .i64 0,.int .i64 8,.int .i64 0,.int .i64 4,.int .i64 0,.int .i64 0,.int .i64 0,.int .u32 0,.int .i64 11,.int .i64 3,.int .i64 4,.int .i64 4,.int .i64 0,.int .i64 0,.int .i64 0,.int .u32 4294967295,.int .i64 0,.int .i64 17,.int .i64 0,.int .i64 4,.int .i64 2,.int .i64 0,.int .i64 1,.int .u32 0,.int .i64 0,.int .i64 21,.int .i64 5,.int .i64 1,.int .i64 0,.int .i64 0,.int .i64 2,.int .u32 0,.int .i64 (-1),.int .i64 12,.int .i64 0,.int .i64 0,.int .i64 0,.int .i64 0,.int .i64 0,.int .u32 2,.int .i64 0,.int .i64 13,.int .i64 0,.int .i64 0,.int .i64 0,.int .i64 0,.int .i64 0,.int .u32 1,.int .i64 0,.int .i64 16,.int .i64 4,.int .i64 1,.int .i64 0,.int .i64 0,.int .i64 1,.int .u32 0,.int .i64 0,.int .i64 9,.int .i64 0,.int .i64 4,.int .i64 0,.int .i64 0,.int .i64 0,.int .u32 0,.int .i64 20,.int .i64 19,.int .i64 5,.int .i64 0,.int .i64 2,.int .i64 0,.int .i64 0,.int .u32 0,.int .i64 0,.int .i64 8,.int .i64 0,.int .i64 5,.int .i64 0,.int .i64 0,.int .i64 0,.int .u32 0,.int .i64 19,.int .i64 12,.int .i64 0,.int .i64 0,.int .i64 0,.int .i64 0,.int .i64 0,.int .u32 4,.int .i64 0,.int .i64 13,.int .i64 0,.int .i64 0,.int .i64 0,.int .i64 0,.int .i64 0,.int .u32 2,.int .i64 0,.int .i64 21,.int .i64 4,.int .i64 1,.int .i64 0,.int .i64 0,.int .i64 1,.int .u32 1,.int .i64 (-1),.int .i64 3,.int .i64 4,.int .i64 4,.int .i64 0,.int .i64 0,.int .i64 0,.int .u32 4294967295,.int .i64 0,.int .i64 17,.int .i64 0,.int .i64 4,.int .i64 0,.int .i64 0,.int .i64 2,.int .u32 0,.int .i64 0,.int .i64 12,.int .i64 0,.int .i64 0,.int .i64 0,.int .i64 0,.int .i64 0,.int .u32 4,.int .i64 0,.int .i64 13,.int .i64 0,.int .i64 0,.int .i64 0,.int .i64 0,.int .i64 0,.int .u32 2,.int .i64 0] 214 1),
 (1268,.row [.slice (some ⟨1287,0,none⟩) 2 1] 195 0),
 (1287,.row [.chan (some 1274),.chan (some 1285)] 196 1),
 (1291,.row [.int .i64 1,.slice (some ⟨1295,0,none⟩) 2 1,.pointer (some ⟨1268,0,none⟩)] 123 0),
 (1295,.row [.int .i64 0,.int .i64 (-1),.int .i64 0,.int .i64 (-1)] 125 1),
 (1303,.row [.int .i64 2,.int .i64 (-1),.int .i64 3,.int .i64 0,.int .i64 0,.int .i64 0] 86 0),
 (1305,.row [.pointer (some ⟨1253,0,none⟩),.pointer (some ⟨1291,0,none⟩),.bool false,.slice (some ⟨1303,0,none⟩) 2 4,.int .i64 0,.slice (some ⟨2407,0,none⟩) 4 1] 76 0),
 (1308,.row [.pointer (some ⟨1305,0,none⟩),.int .i64 5,.int .i64 2,.int .i64 0,.int .i64 0,.int .i64 1,.int .u32 0,.int .i64 0] 174 0),
 (2407,.row [.int .i64 1,.int .i64 0,.int .i64 0,.int .i64 2,.int .i64 0,.int .i64 0,.int .i64 3,.int .i64 0,.int .i64 0,.int .i64 5,.int .i64 0,.int .i64 0] 55 1),
 (2467,.row [.int .u8 111,.int .u8 107,.int .u8 10,.int .u8 111,.int .u8 107,.int .u8 32,.int .u8 49,.int .u8 10,.int .u8 111,.int .u8 107,.int .u8 32,.int .u8 49,.int .u8 10,.int .u8 111,.int .u8 107,.int .u8 32,.int .u8 49,.int .u8 10] 5 1)]
set_option maxRecDepth 1000000 in
theorem YQ:i7 uV C5 ((0+1)+2) 2 (some (CC 1770 VT)) 2468 QW=true:=by kernel_rfl
noncomputable def UH:List (Nat × AO):= [(0,.row [.int .i64 0,.int .i64 2,.int .i64 3,.int .i64 4,.int .i64 9] 224 2),
 (1,.row [.int .i64 6,.int .i64 0,.int .i64 5,.int .i64 2,.int .i64 10,.int .i64 0,.int .i64 7,.int .i64 0] 226 2),
 (2,.row [.string ⟨⟨[]⟩⟩,.string ⟨⟨[116,105,99,107,101,116]⟩⟩,.string ⟨⟨[97,110,100,101,114,115,111,110]⟩⟩,.string ⟨⟨[103,114,97,117,110,107,101]⟩⟩,.string ⟨⟨[99,108,104]⟩⟩,.string ⟨⟨[109,99,115]⟩⟩,.string ⟨⟨[107,52,50]⟩⟩,.string ⟨⟨[99,108,104,45,116,114,121]⟩⟩,.string ⟨⟨[109,99,115,45,116,114,121]⟩⟩] 232 2),
 (4,.row [.string ⟨⟨[]⟩⟩,.string ⟨⟨[99,97,108,108]⟩⟩,.string ⟨⟨[101,110,113]⟩⟩,.string ⟨⟨[103,114,97,110,116]⟩⟩,.string ⟨⟨[97,98,111,114,116]⟩⟩,.string ⟨⟨[103,111,116]⟩⟩,.string ⟨⟨[108,111,115,116]⟩⟩,.string ⟨⟨[102,117,108,108]⟩⟩,.string ⟨⟨[117,110,108,111,99,107]⟩⟩,.string ⟨⟨[114,101,108,101,97,115,101]⟩⟩,.string ⟨⟨[111,118,101,114]⟩⟩] 290 2),
 (5,.row [.int .u64 1,.int .u64 10,.int .u64 100,.int .u64 1000,.int .u64 10000,.int .u64 100000,.int .u64 1000000,.int .u64 10000000,.int .u64 100000000,.int .u64 1000000000,.int .u64 10000000000,.int .u64 100000000000,.int .u64 1000000000000,.int .u64 10000000000000,.int .u64 100000000000000,.int .u64 1000000000000000,.int .u64 10000000000000000,.int .u64 100000000000000000,.int .u64 1000000000000000000,.int .u64 10000000000000000000] 367 2),
 (8,.row [.iface 384 (.pointer (some ⟨12,0,some 0⟩))] 104 2),
 (13,.row [.string ⟨⟨[]⟩⟩] 9 0),
 (14,.row [.int .i64 0] 26 0),
 (15,.row [.pointer (some ⟨1308,0,none⟩)] 95 0),
 (16,.row [.pointer (some ⟨16,0,none⟩),.slice (some ⟨2928,0,none⟩) 26 1] 98 0),
 (1069,.obj (.map ⟨[]⟩ 0)),
 (1070,.row [.int .i64 0,.slice (some ⟨1078,0,none⟩) 2 1,.map (some 1069)] 231 0),
 (1071,.row [] 22 0),
 (1072,.row [.slice (some ⟨1071,0,none⟩) 0 0,.int .i64 0,.int .i64 0] 284 0),
 (1075,.row [] 22 0),
 (1076,.row [.slice (some ⟨1075,0,none⟩) 0 0,.int .i64 0,.int .i64 0] 284 0),
 (1078,.row [.pointer (some ⟨1072,0,none⟩),.pointer (some ⟨1076,0,none⟩)] 227 1),
 (1080,.row [.int .i64 1,.int .i64 2,.int .i64 2] 3 1),
 (1081,.row [.pointer (some ⟨1089,0,none⟩),.slice (some ⟨1080,0,none⟩) 3 1,.slice (some ⟨1087,0,none⟩) 3 1] 261 0),
 (1087,.row [.int .i64 0,.int .i64 1,.int .i64 3] 3 1),
 (1088,.row [.int .u32 1,.int .u32 0,.int .u32 0,.int .u32 1,.int .u32 0] 314 0),
 (1089,.row [.slice (some ⟨1088,0,none⟩) 5 10] 310 0),
 (1251,.row [.int .u32 0,.int .u32 0,.int .u32 1,.int .u32 1,.int .u32 0,.int .u32 0,.int .u32 0,.int .u32 0,.int .i64 12,.int .u32 0,.int .u32 1,.int .u32 2,.int .u32 1,.int .u32 0,.int .u32 0,.int .u32 0,.int .u32 0,.int .i64 4] 192 0),
 (1253,.row [.slice (some ⟨1267,0,none⟩) 24 1,.int .i64 0,.int .i64 13,.pointer (some ⟨1081,0,none⟩),.pointer (some ⟨1070,0,none⟩),.slice (some ⟨1251,0,none⟩) 2 4] 149 0),
 (1267,.row [.int .i64 11,.int .i64 1,.int .i64 0,.int .i64 0,.int .i64 0,.int .i64 0,.int .u32 0,.int .i64 0,.int .i64 3,.int .i64 2,.int .i64 1,.int .i64 0,.int .i64 0,.int .i64 0,.int .u32 1,.int .i64 0,.int .i64 17,.int .i64 0,.int .i64 1,.int .i64 0,.int .i64 0,.int .i64 1,.int .u32 0,.int .i64 0,.int .i64 1,.int .i64 3,.int .i64 0,.int .i64 0,.int .i64 0,.int .i64 0,.int .u32 1,.int .i64 0,.int .i64 17,.int .i64 0,.int .i64 1,.int .i64 3,.int .i64 0,.int .i64 2,.int .u32 0,.int .i64 0,.int .i64 18,.int .i64 4,.int .i64 0,.int .i64 2,.int .i64 0,.int .i64 0,.int .u32 0,.int .i64 0,.int .i64 12,.int .i64 0,.int .i64 0,.int .i64 0,.int .i64 0,.int .i64 0,.int .u32 1,.int .i64 0,.int .i64 8,.int .i64 0,.int .i64 4,.int .i64 0,.int .i64 0,.int .i64 0,.int .u32 0,.int .i64 11,.int .i64 3,.int .i64 4,.int .i64 4,.int .i64 0,.int .i64 0,.int .i64 0,.int .u32 4294967295,.int .i64 0,.int .i64 17,.int .i64 0,.int .i64 4,.int .i64 2,.int .i64 0,.int .i64 1,.int .u32 0,.int .i64 0,.int .i64 21,.int .i64 5,.int .i64 1,.int .i64 0,.int .i64 0,.int .i64 2,.int .u32 0,.int .i64 (-1),.int .i64 12,.int .i64 0,.int .i64 0,.int .i64 0,.int .i64 0,.int .i64 0,.int .u32 2,.int .i64 0,.int .i64 13,.int .i64 0,.int .i64 0,.int .i64 0,.int .i64 0,.int .i64 0,.int .u32 1,.int .i64 0,.int .i64 16,.int .i64 4,.int .i64 1,.int .i64 0,.int .i64 0,.int .i64 1,.int .u32 0,.int .i64 0,.int .i64 9,.int .i64 0,.int .i64 4,.int .i64 0,.int .i64 0,.int .i64 0,.int .u32 0,.int .i64 20,.int .i64 19,.int .i64 5,.int .i64 0,.int .i64 2,.int .i64 0,.int .i64 0,.int .u32 0,.int .i64 0,.int .i64 8,.int .i64 0,.int .i64 5,.int .i64 0,.int .i64 0,.int .i64 0,.int .u32 0,.int .i64 19,.int .i64 12,.int .i64 0,.int .i64 0,.int .i64 0,.int .i64 0,.int .i64 0,.int .u32 4,.int .i64 0,.int .i64 13,.int .i64 0,.int .i64 0,.int .i64 0,.int .i64 0,.int .i64 0,.int .u32 2,.int .i64 0,.int .i64 21,.int .i64 4,.int .i64 1,.int .i64 0,.int .i64 0,.int .i64 1,.int .u32 1,.int .i64 (-1),.int .i64 3,.int .i64 4,.int .i64 4,.int .i64 0,.int .i64 0,.int .i64 0,.int .u32 4294967295,.int .i64 0,.int .i64 17,.int .i64 0,.int .i64 4,.int .i64 0,.int .i64 0,.int .i64 2,.int .u32 0,.int .i64 0,.int .i64 12,.int .i64 0,.int .i64 0,.int .i64 0,.int .i64 0,.int .i64 0,.int .u32 4,.int .i64 0,.int .i64 13,.int .i64 0,.int .i64 0,.int .i64 0,.int .i64 0,.int .i64 0,.int .u32 2,.int .i64 0] 214 1),
 (1268,.row [.slice (some ⟨1287,0,none⟩) 2 1] 195 0),
 (1287,.row [.chan (some 1274),.chan (some 1285)] 196 1),
 (1291,.row [.int .i64 1,.slice (some ⟨1295,0,none⟩) 2 1,.pointer (some ⟨1268,0,none⟩)] 123 0),
 (1295,.row [.int .i64 0,.int .i64 (-1),.int .i64 0,.int .i64 (-1)] 125 1),
 (1303,.row [.int .i64 2,.int .i64 (-1),.int .i64 3,.int .i64 1,.int .i64 (-1),.int .i64 1] 86 0),
 (1305,.row [.pointer (some ⟨1253,0,none⟩),.pointer (some ⟨1291,0,none⟩),.bool false,.slice (some ⟨1303,0,none⟩) 2 4,.int .i64 0,.slice (some ⟨2525,0,none⟩) 5 1] 76 0),
 (1308,.row [.pointer (some ⟨1305,0,none⟩),.int .i64 5,.int .i64 2,.int .i64 0,.int .i64 0,.int .i64 1,.int .u32 0,.int .i64 0] 174 0),
 (2525,.row [.int .i64 1,.int .i64 0,.int .i64 0,.int .i64 2,.int .i64 0,.int .i64 0,.int .i64 3,.int .i64 0,.int .i64 0,.int .i64 5,.int .i64 0,.int .i64 0,.int .i64 1,.int .i64 1,.int .i64 0] 55 1),
 (2928,.row [.int .u8 111,.int .u8 107,.int .u8 10,.int .u8 111,.int .u8 107,.int .u8 32,.int .u8 49,.int .u8 10,.int .u8 111,.int .u8 107,.int .u8 32,.int .u8 49,.int .u8 10,.int .u8 111,.int .u8 107,.int .u8 32,.int .u8 49,.int .u8 10,.int .u8 111,.int .u8 107,.int .u8 10,.int .u8 111,.int .u8 107,.int .u8 32,.int .u8 49,.int .u8 10] 5 1)]
set_option maxRecDepth 1000000 in
theorem WU:i7 uV C5 (((0+1)+2)+2) 2 (some (CC 2468 QW)) 2929 UH=true:=by kernel_rfl
noncomputable def R2:List (Nat × AO):= [(0,.row [.int .i64 0,.int .i64 2,.int .i64 3,.int .i64 4,.int .i64 9] 224 2),
 (1,.row [.int .i64 6,.int .i64 0,.int .i64 5,.int .i64 2,.int .i64 10,.int .i64 0,.int .i64 7,.int .i64 0] 226 2),
 (2,.row [.string ⟨⟨[]⟩⟩,.string ⟨⟨[116,105,99,107,101,116]⟩⟩,.string ⟨⟨[97,110,100,101,114,115,111,110]⟩⟩,.string ⟨⟨[103,114,97,117,110,107,101]⟩⟩,.string ⟨⟨[99,108,104]⟩⟩,.string ⟨⟨[109,99,115]⟩⟩,.string ⟨⟨[107,52,50]⟩⟩,.string ⟨⟨[99,108,104,45,116,114,121]⟩⟩,.string ⟨⟨[109,99,115,45,116,114,121]⟩⟩] 232 2),
 (4,.row [.string ⟨⟨[]⟩⟩,.string ⟨⟨[99,97,108,108]⟩⟩,.string ⟨⟨[101,110,113]⟩⟩,.string ⟨⟨[103,114,97,110,116]⟩⟩,.string ⟨⟨[97,98,111,114,116]⟩⟩,.string ⟨⟨[103,111,116]⟩⟩,.string ⟨⟨[108,111,115,116]⟩⟩,.string ⟨⟨[102,117,108,108]⟩⟩,.string ⟨⟨[117,110,108,111,99,107]⟩⟩,.string ⟨⟨[114,101,108,101,97,115,101]⟩⟩,.string ⟨⟨[111,118,101,114]⟩⟩] 290 2),
 (5,.row [.int .u64 1,.int .u64 10,.int .u64 100,.int .u64 1000,.int .u64 10000,.int .u64 100000,.int .u64 1000000,.int .u64 10000000,.int .u64 100000000,.int .u64 1000000000,.int .u64 10000000000,.int .u64 100000000000,.int .u64 1000000000000,.int .u64 10000000000000,.int .u64 100000000000000,.int .u64 1000000000000000,.int .u64 10000000000000000,.int .u64 100000000000000000,.int .u64 1000000000000000000,.int .u64 10000000000000000000] 367 2),
 (8,.row [.iface 384 (.pointer (some ⟨12,0,some 0⟩))] 104 2),
 (13,.row [.string ⟨⟨[]⟩⟩] 9 0),
 (14,.row [.int .i64 0] 26 0),
 (15,.row [.pointer (some ⟨1308,0,none⟩)] 95 0),
 (16,.row [.pointer (some ⟨16,0,none⟩),.slice (some ⟨3568,0,none⟩) 36 1] 98 0),
 (1069,.obj (.map ⟨[]⟩ 0)),
 (1070,.row [.int .i64 0,.slice (some ⟨1078,0,none⟩) 2 1,.map (some 1069)] 231 0),
 (1071,.row [] 22 0),
 (1072,.row [.slice (some ⟨1071,0,none⟩) 0 0,.int .i64 0,.int .i64 0] 284 0),
 (1075,.row [] 22 0),
 (1076,.row [.slice (some ⟨1075,0,none⟩) 0 0,.int .i64 0,.int .i64 0] 284 0),
 (1078,.row [.pointer (some ⟨1072,0,none⟩),.pointer (some ⟨1076,0,none⟩)] 227 1),
 (1080,.row [.int .i64 1,.int .i64 2,.int .i64 2] 3 1),
 (1081,.row [.pointer (some ⟨1089,0,none⟩),.slice (some ⟨1080,0,none⟩) 3 1,.slice (some ⟨1087,0,none⟩) 3 1] 261 0),
 (1087,.row [.int .i64 0,.int .i64 1,.int .i64 3] 3 1),
 (1088,.row [.int .u32 2,.int .u32 0,.int .u32 0,.int .u32 1,.int .u32 1] 314 0),
 (1089,.row [.slice (some ⟨1088,0,none⟩) 5 10] 310 0),
 (1251,.row [.int .u32 0,.int .u32 0,.int .u32 1,.int .u32 1,.int .u32 0,.int .u32 0,.int .u32 0,.int .u32 0,.int .i64 12,.int .u32 0,.int .u32 1,.int .u32 2,.int .u32 1,.int .u32 0,.int .u32 0,.int .u32 0,.int .u32 0,.int .i64 9] 192 0),
 (1253,.row [.slice (some ⟨1267,0,none⟩) 24 1,.int .i64 0,.int .i64 13,.pointer (some ⟨1081,0,none⟩),.pointer (some ⟨1070,0,none⟩),.slice (some ⟨1251,0,none⟩) 2 4] 149 0),
 (1267,.row [.int .i64 11,.int .i64 1,.int .i64 0,.int .i64 0,.int .i64 0,.int .i64 0,.int .u32 0,.int .i64 0,.int .i64 3,.int .i64 2,.int .i64 1,.int .i64 0,.int .i64 0,.int .i64 0,.int .u32 1,.int .i64 0,.int .i64 17,.int .i64 0,.int .i64 1,.int .i64 0,.int .i64 0,.int .i64 1,.int .u32 0,.int .i64 0,.int .i64 1,.int .i64 3,.int .i64 0,.int .i64 0,.int .i64 0,.int .i64 0,.int .u32 1,.int .i64 0,.int .i64 17,.int .i64 0,.int .i64 1,.int .i64 3,.int .i64 0,.int .i64 2,.int .u32 0,.int .i64 0,.int .i64 18,.int .i64 4,.int .i64 0,.int .i64 2,.int .i64 0,.int .i64 0,.int .u32 0,.int .i64 0,.int .i64 12,.int .i64 0,.int .i64 0,.int .i64 0,.int .i64 0,.int .i64 0,.int .u32 1,.int .i64 0,.int .i64 8,.int .i64 0,.int .i64 4,.int .i64 0,.int .i64 0,.int .i64 0,.int .u32 0,.int .i64 11,.int .i64 3,.int .i64 4,.int .i64 4,.int .i64 0,.int .i64 0,.int .i64 0,.int .u32 4294967295,.int .i64 0,.int .i64 17,.int .i64 0,.int .i64 4,.int .i64 2,.int .i64 0,.int .i64 1,.int .u32 0,.int .i64 0,.int .i64 21,.int .i64 5,.int .i64 1,.int .i64 0,.int .i64 0,.int .i64 2,.int .u32 0,.int .i64 (-1),.int .i64 12,.int .i64 0,.int .i64 0,.int .i64 0,.int .i64 0,.int .i64 0,.int .u32 2,.int .i64 0,.int .i64 13,.int .i64 0,.int .i64 0,.int .i64 0,.int .i64 0,.int .i64 0,.int .u32 1,.int .i64 0,.int .i64 16,.int .i64 4,.int .i64 1,.int .i64 0,.int .i64 0,.int .i64 1,.int .u32 0,.int .i64 0,.int .i64 9,.int .i64 0,.int .i64 4,.int .i64 0,.int .i64 0,.int .i64 0,.int .u32 0,.int .i64 20,.int .i64 19,.int .i64 5,.int .i64 0,.int .i64 2,.int .i64 0,.int .i64 0,.int .u32 0,.int .i64 0,.int .i64 8,.int .i64 0,.int .i64 5,.int .i64 0,.int .i64 0,.int .i64 0,.int .u32 0,.int .i64 19,.int .i64 12,.int .i64 0,.int .i64 0,.int .i64 0,.int .i64 0,.int .i64 0,.int .u32 4,.int .i64 0,.int .i64 13,.int .i64 0,.int .i64 0,.int .i64 0,.int .i64 0,.int .i64 0,.int .u32 2,.int .i64 0,.int .i64 21,.int .i64 4,.int .i64 1,.int .i64 0,.int .i64 0,.int .i64 1,.int .u32 1,.int .i64 (-1),.int .i64 3,.int .i64 4,.int .i64 4,.int .i64 0,.int .i64 0,.int .i64 0,.int .u32 4294967295,.int .i64 0,.int .i64 17,.int .i64 0,.int .i64 4,.int .i64 0,.int .i64 0,.int .i64 2,.int .u32 0,.int .i64 0,.int .i64 12,.int .i64 0,.int .i64 0,.int .i64 0,.int .i64 0,.int .i64 0,.int .u32 4,.int .i64 0,.int .i64 13,.int .i64 0,.int .i64 0,.int .i64 0,.int .i64 0,.int .i64 0,.int .u32 2,.int .i64 0] 214 1),
 (1268,.row [.slice (some ⟨1287,0,none⟩) 2 1] 195 0),
 (1287,.row [.chan (some 1274),.chan (some 1285)] 196 1),
 (1291,.row [.int .i64 1,.slice (some ⟨1295,0,none⟩) 2 1,.pointer (some ⟨1268,0,none⟩)] 123 0),
 (1295,.row [.int .i64 0,.int .i64 (-1),.int .i64 0,.int .i64 (-1)] 125 1),
 (1303,.row [.int .i64 2,.int .i64 (-1),.int .i64 3,.int .i64 1,.int .i64 (-1),.int .i64 3] 86 0),
 (1305,.row [.pointer (some ⟨1253,0,none⟩),.pointer (some ⟨1291,0,none⟩),.bool false,.slice (some ⟨1303,0,none⟩) 2 4,.int .i64 0,.slice (some ⟨3563,0,none⟩) 6 1] 76 0),
 (1308,.row [.pointer (some ⟨1305,0,none⟩),.int .i64 5,.int .i64 2,.int .i64 0,.int .i64 0,.int .i64 1,.int .u32 0,.int .i64 0] 174 0),
 (3563,.row [.int .i64 1,.int .i64 0,.int .i64 0,.int .i64 2,.int .i64 0,.int .i64 0,.int .i64 3,.int .i64 0,.int .i64 0,.int .i64 5,.int .i64 0,.int .i64 0,.int .i64 1,.int .i64 1,.int .i64 0,.int .i64 2,.int .i64 1,.int .i64 0] 55 1),
 (3568,.row [.int .u8 111,.int .u8 107,.int .u8 10,.int .u8 111,.int .u8 107,.int .u8 32,.int .u8 49,.int .u8 10,.int .u8 111,.int .u8 107,.int .u8 32,.int .u8 49,.int .u8 10,.int .u8 111,.int .u8 107,.int .u8 32,.int .u8 49,.int .u8 10,.int .u8 111,.int .u8 107,.int .u8 10,.int .u8 111,.int .u8 107,.int .u8 32,.int .u8 49,.int .u8 10,.int .u8 111,.int .u8 107,.int .u8 32,.int .u8 49,.int .u8 10,.int .u8 111,.int .u8 107,.int .u8 32,.int .u8 49,.int .u8 10] 5 1)]
set_option maxRecDepth 1000000 in
theorem YF:i7 uV C5 ((((0+1)+2)+2)+2) 2 (some (CC 2929 UH)) 3569 R2=true:=by kernel_rfl
def EO:Value:= .tuple ⟨[.string YY,.int .i64 0]⟩
set_option maxRecDepth 1000000 in
theorem QE:zV uV C5 1000 (((((0+1)+2)+2)+2)+2) (some (CC 3569 R2)) (fun r=>OM r EO)=true:=by kernel_rfl
set_option maxRecDepth 1000000 in
theorem FK:uV.isSome=true:=by kernel_rfl
theorem JF:tJ Tryz.prog V2 22 [.string qL] EO:=by
 obtain ⟨v,a',h1,h2⟩:=sT (f:=22) (lf:=1000) (args:= [.string qL]) (a:=jU V2) vJ wide FK (chk:=fun r=>OM r EO) (mY.piece vJ XK (mY.piece vJ YV (mY.piece vJ YQ (mY.piece vJ WU (mY.piece vJ YF (mY.end vJ QE)))))) rfl
 have e:v=EO:=lY h1
 subst e
 exact EM Q6 h2 rfl rfl
def playT:List (List Value × Value):= [([.string qL],EO)]
theorem QL:cF V2 22 playT:=fun r hr=>by
 rcases List.mem_cons.1 hr with rfl|hr
 ·exact ⟨rfl,rfl,JF⟩
 ·cases hr
noncomputable def C6:Callee:=run Tryz.prog 12 (or (yL V2 22 playT) I1) 1000 30
theorem C6_ok:bV Tryz.prog 12 C6:=qB (rI QL.callee AD) wide fit 1000 30
set_option maxRecDepth 1000000 in
theorem ES:tJ Tryz.prog V2 10 [] (.bool true):=wF C6_ok Q6 (by kernel_rfl) (by kernel_rfl) (by kernel_rfl)
end Go.Proofs.YtjopodnlffaogaaGreatDoor.Abs
end
