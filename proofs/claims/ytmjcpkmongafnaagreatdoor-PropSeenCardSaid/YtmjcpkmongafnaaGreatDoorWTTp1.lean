import Derived.Test.YtmjcpkmongafnaaGreatDoorCln
import Derived.Test.YtmjcpkmongafnaaGreatDoorDTT
import Derived.Test.YtmjcpkmongafnaaGreatDoorProg
set_option linter.unusedVariables false
set_option maxRecDepth 10000
set_option maxHeartbeats 2000000
set_option synthInstance.maxHeartbeats 200000
set_option synthInstance.maxSize 2000
namespace Go.Proofs.YtmjcpkmongafnaaGreatDoor.TT
open Go Go.Proofs.YtmjcpkmongafnaaGreatDoor.Ab
noncomputable abbrev PP:Program:=Tryz.prog
theorem hm:PP.follows .mixedOrders=true:=by kernel_rfl
theorem zL:∀{α:Type} {d:Kd α} (H:FH),(kL d).reps H [.slice none 0 0] []:=fun _=>⟨none,0,rfl,Nat.le_refl _,by omega,by simp[big],.inl rfl⟩
theorem ze25:zeroIs PP 25 [(.slice none 0 0),(.slice none 0 0)]:=by unfold zeroIs;kernel_rfl
theorem o25_1:fofs PP 25 1=some 1:=by kernel_rfl
instance nq:FlI PP 25 1 aj (kL (kI .u32)) ab.Up:=⟨o25_1,rfl⟩
theorem t23:tinf PP 23=some (false,1):=by kernel_rfl
instance jt23:TinI PP 23 (kL (kI .u32)):=⟨t23⟩
theorem u23:PP.underlying 23=some (.slice 70):=by kernel_rfl
instance ju23:UndI PP 23 70:=⟨u23⟩
theorem z70:sizeIs PP 70 1:=by unfold sizeIs;kernel_rfl
theorem pl25:places PP 25=some [(0,1),(1,1)]:=by kernel_rfl
theorem po25_0:∀q f,fP[q]?=some f->([(0,1),(1,1)]:List (Nat×Nat))[q]?=some (offF fP q,f.d.sz):=fun q f h=>by
 unfold fP at h
 match q,h with
 |0,h=>cases h;rfl
 |1,h=>cases h;rfl
 |n+2,h=>simp at h
theorem z25:sizeIs PP 25 2:=by unfold sizeIs;kernel_rfl
theorem o25_0:fofs PP 25 0=some 0:=by kernel_rfl
instance nr:FlI PP 25 0 aj (kL kS) ab.Names:=⟨o25_0,rfl⟩
theorem t22:tinf PP 22=some (false,1):=by kernel_rfl
instance jt22:TinI PP 22 (kL kS):=⟨t22⟩
theorem u22:PP.underlying 22=some (.slice 9):=by kernel_rfl
instance ju22:UndI PP 22 9:=⟨u22⟩
theorem z9:sizeIs PP 9 1:=by unfold sizeIs;kernel_rfl
instance ji_i64_0:IntI .i64 0:=⟨by decide⟩
theorem t9:tinf PP 9=some (false,1):=by kernel_rfl
instance jt9:TinI PP 9 kS:=⟨t9⟩
instance jo25_0:FofI PP 25 0 0:=⟨o25_0⟩
theorem u9:PP.underlying 9=some (.string):=by kernel_rfl
theorem el22:ElTy PP 22 9 1 16:=⟨by kernel_rfl,by kernel_rfl⟩
theorem z22:sizeIs PP 22 1:=by unfold sizeIs;kernel_rfl
instance ji_i64_1:IntI .i64 1:=⟨by decide⟩
theorem t25:tinf PP 25=some (true,2):=by kernel_rfl
theorem ze28:zeroIs PP 28 [(.slice none 0 0)]:=by unfold zeroIs;kernel_rfl
theorem o28_0:fofs PP 28 0=some 0:=by kernel_rfl
instance nw:FlI PP 28 0 aL (kL (kR aJ)) aZ.Rows:=⟨o28_0,rfl⟩
theorem t26:tinf PP 26=some (false,1):=by kernel_rfl
instance jt26:TinI PP 26 (kL (kR aJ)):=⟨t26⟩
theorem u26:PP.underlying 26=some (.slice 58):=by kernel_rfl
instance ju26:UndI PP 26 58:=⟨u26⟩
theorem z58:sizeIs PP 58 3:=by unfold sizeIs;kernel_rfl
theorem t58:tinf PP 58=some (true,3):=by kernel_rfl
instance jt58:TinI PP 58 (kR aJ):=⟨t58⟩
theorem ze58:zeroIs PP 58 [(.slice none 0 0),(.slice none 0 0),(.slice none 0 0)]:=by unfold zeroIs;kernel_rfl
abbrev Z58:List Leaf:=[.d (kL (kI .i64)) [],.d (kL (kI .i64)) [],.d (kL (kI .i64)) []]
theorem zl58:∀g:G,leafs Z58 g [(.slice none 0 0),(.slice none 0 0),(.slice none 0 0)]:=fun g=>⟨[(.slice none 0 0)],_,rfl,zL g.H,⟨[(.slice none 0 0)],_,rfl,zL g.H,⟨[(.slice none 0 0)],_,rfl,zL g.H,rfl⟩⟩⟩
instance jo28_0:FofI PP 28 0 0:=⟨o28_0⟩
theorem o58_0:fofs PP 58 0=some 0:=by kernel_rfl
instance jo58_0:FofI PP 58 0 0:=⟨o58_0⟩
theorem t56:tinf PP 56=some (false,1):=by kernel_rfl
theorem u56:PP.underlying 56=some (.slice 3):=by kernel_rfl
instance ju56:UndI PP 56 3:=⟨u56⟩
theorem z3:sizeIs PP 3 1:=by unfold sizeIs;kernel_rfl
theorem o58_1:fofs PP 58 1=some 1:=by kernel_rfl
instance jo58_1:FofI PP 58 1 1:=⟨o58_1⟩
theorem o58_2:fofs PP 58 2=some 2:=by kernel_rfl
instance jo58_2:FofI PP 58 2 2:=⟨o58_2⟩
theorem pl58:places PP 58=some [(0,1),(1,1),(2,1)]:=by kernel_rfl
theorem po58:∀q f,aJ[q]?=some f->([(0,1),(1,1),(2,1)]:List (Nat×Nat))[q]?=some (offF aJ q,f.d.sz):=fun q f h=>by
 unfold aJ at h
 match q,h with
 |0,h=>cases h;rfl
 |1,h=>cases h;rfl
 |2,h=>cases h;rfl
 |n+3,h=>simp at h
theorem el26:ElTy PP 26 58 3 72:=⟨by kernel_rfl,by kernel_rfl⟩
theorem z26:sizeIs PP 26 1:=by unfold sizeIs;kernel_rfl
theorem t28:tinf PP 28=some (true,1):=by kernel_rfl
theorem z28:sizeIs PP 28 1:=by unfold sizeIs;kernel_rfl
abbrev L35(x:aa):List Leaf:=[.d (kI .i64) x.Pc.V,.d (kI .i64) x.Pc.L,.d (kL (kR ao)) x.Code,.d (kL (kR ai)) x.Mem,.d (kL (kR ak)) x.Stack,.d (kL (kR ai)) x.Out]
theorem pt35{x:aa}:Part (L35 x) (kR ae) x:=by
 have h:Part _ (kR ae) x:=(lfS (lfC (lfS (lfC lf1 (lfC lf1 lfN))) (lfC lf1 (lfC lf1 (lfC lf1 (lfC lf1 lfN))))))
 exact h
theorem zI_i64:∀H,(kI .i64).reps H [.int .i64 0] 0:=fun _=>⟨rfl,by decide⟩
theorem ze35:zeroIs PP 35 [(.int .i64 0),(.int .i64 0),(.slice none 0 0),(.slice none 0 0),(.slice none 0 0),(.slice none 0 0)]:=by unfold zeroIs;kernel_rfl
abbrev Z35:List Leaf:=[.d (kI .i64) 0,.d (kI .i64) 0,.d (kL (kR ao)) [],.d (kL (kR ai)) [],.d (kL (kR ak)) [],.d (kL (kR ai)) []]
theorem zl35:∀g:G,leafs Z35 g [(.int .i64 0),(.int .i64 0),(.slice none 0 0),(.slice none 0 0),(.slice none 0 0),(.slice none 0 0)]:=fun g=>⟨[(.int .i64 0)],_,rfl,zI_i64 g.H,⟨[(.int .i64 0)],_,rfl,zI_i64 g.H,⟨[(.slice none 0 0)],_,rfl,zL g.H,⟨[(.slice none 0 0)],_,rfl,zL g.H,⟨[(.slice none 0 0)],_,rfl,zL g.H,⟨[(.slice none 0 0)],_,rfl,zL g.H,rfl⟩⟩⟩⟩⟩⟩
theorem o35_1:fofs PP 35 1=some 2:=by kernel_rfl
instance jo35_1:FofI PP 35 1 2:=⟨o35_1⟩
theorem t31:tinf PP 31=some (false,1):=by kernel_rfl
theorem u31:PP.underlying 31=some (.slice 73):=by kernel_rfl
instance ju31:UndI PP 31 73:=⟨u31⟩
theorem z73:sizeIs PP 73 3:=by unfold sizeIs;kernel_rfl
theorem o35_2:fofs PP 35 2=some 3:=by kernel_rfl
instance jo35_2:FofI PP 35 2 3:=⟨o35_2⟩
theorem t32:tinf PP 32=some (false,1):=by kernel_rfl
theorem u32:PP.underlying 32=some (.slice 30):=by kernel_rfl
instance ju32:UndI PP 32 30:=⟨u32⟩
theorem z30:sizeIs PP 30 2:=by unfold sizeIs;kernel_rfl
theorem o35_3:fofs PP 35 3=some 4:=by kernel_rfl
instance jo35_3:FofI PP 35 3 4:=⟨o35_3⟩
theorem t33:tinf PP 33=some (false,1):=by kernel_rfl
theorem u33:PP.underlying 33=some (.slice 88):=by kernel_rfl
instance ju33:UndI PP 33 88:=⟨u33⟩
theorem z88:sizeIs PP 88 3:=by unfold sizeIs;kernel_rfl
theorem o35_4:fofs PP 35 4=some 5:=by kernel_rfl
instance jo35_4:FofI PP 35 4 5:=⟨o35_4⟩
theorem z31:sizeIs PP 31 1:=by unfold sizeIs;kernel_rfl
theorem z32:sizeIs PP 32 1:=by unfold sizeIs;kernel_rfl
theorem z33:sizeIs PP 33 1:=by unfold sizeIs;kernel_rfl
theorem t35:tinf PP 35=some (true,6):=by kernel_rfl
theorem z35:sizeIs PP 35 6:=by unfold sizeIs;kernel_rfl
instance ji_u8_97:IntI .u8 97:=⟨by decide⟩
instance ji_u8_122:IntI .u8 122:=⟨by decide⟩
instance ji_i64_12:IntI .i64 12:=⟨by decide⟩
instance ji_i64_m1:IntI .i64 (-1):=⟨by decide⟩
instance ji_i64_8:IntI .i64 8:=⟨by decide⟩
theorem b135:bodied PP 135:=by unfold bodied;kernel_rfl
theorem t70:tinf PP 70=some (false,1):=by kernel_rfl
instance jt70:TinI PP 70 (kI .u32):=⟨t70⟩
instance ji_u32_0:IntI .u32 0:=⟨by decide⟩
theorem t3:tinf PP 3=some (false,1):=by kernel_rfl
instance jt3:TinI PP 3 (kI .i64):=⟨t3⟩
instance ji_u32_1:IntI .u32 1:=⟨by decide⟩
theorem zB:∀H,kB.reps H [.bool false] false:=fun _=>rfl
theorem ze4:zeroIs PP 4 [(.bool false)]:=by unfold zeroIs;kernel_rfl
instance jt25:TinI PP 25 (kR aj):=⟨t25⟩
theorem b127:bodied PP 127:=by unfold bodied;kernel_rfl
theorem z4:sizeIs PP 4 1:=by unfold sizeIs;kernel_rfl
theorem t4:tinf PP 4=some (false,1):=by kernel_rfl
theorem b136:bodied PP 136:=by unfold bodied;kernel_rfl
theorem zI_u32:∀H,(kI .u32).reps H [.int .u32 0] 0:=fun _=>⟨rfl,by decide⟩
theorem ze70:zeroIs PP 70 [(.int .u32 0)]:=by unfold zeroIs;kernel_rfl
theorem b137:bodied PP 137:=by unfold bodied;kernel_rfl
theorem b27:bodied PP 27:=by unfold bodied;kernel_rfl
theorem ze39:zeroIs PP 39 [(.int .i64 0)]:=by unfold zeroIs;kernel_rfl
theorem z39:sizeIs PP 39 1:=by unfold sizeIs;kernel_rfl
theorem t39:tinf PP 39=some (false,1):=by kernel_rfl
theorem b111:bodied PP 111:=by unfold bodied;kernel_rfl
theorem ze248:zeroIs PP 248 [(.slice none 0 0)]:=by unfold zeroIs;kernel_rfl
theorem t248:tinf PP 248=some (false,1):=by kernel_rfl
theorem u248:PP.underlying 248=some (.slice 232):=by kernel_rfl
theorem z232:sizeIs PP 232 1:=by unfold sizeIs;kernel_rfl
theorem t232:tinf PP 232=some (false,1):=by kernel_rfl
theorem u232:PP.underlying 232=some (.bool):=by kernel_rfl
theorem z248:sizeIs PP 248 1:=by unfold sizeIs;kernel_rfl
theorem el248:ElTy PP 248 232 1 1:=⟨by kernel_rfl,by kernel_rfl⟩
instance ji_i64_2:IntI .i64 2:=⟨by decide⟩
instance ji_i64_6:IntI .i64 6:=⟨by decide⟩
instance ji_i64_7:IntI .i64 7:=⟨by decide⟩
instance ji_i64_9:IntI .i64 9:=⟨by decide⟩
instance ji_i64_10:IntI .i64 10:=⟨by decide⟩
instance ji_i64_11:IntI .i64 11:=⟨by decide⟩
instance ji_i64_3:IntI .i64 3:=⟨by decide⟩
theorem b199:bodied PP 199:=by unfold bodied;kernel_rfl
instance ji_i64_4:IntI .i64 4:=⟨by decide⟩
instance ji_i64_5:IntI .i64 5:=⟨by decide⟩
instance ji_i64_13:IntI .i64 13:=⟨by decide⟩
instance ji_i64_40:IntI .i64 40:=⟨by decide⟩
theorem u4:PP.underlying 4=some (.bool):=by kernel_rfl
instance jf58_0_api_Row:FlI PP 58 0 aJ (kL (kI .i64)) aE.May:=⟨o58_0,rfl⟩
instance jt56:TinI PP 56 (kL (kI .i64)):=⟨t56⟩
theorem b166:bodied PP 166:=by unfold bodied;kernel_rfl
instance jf58_1_api_Row:FlI PP 58 1 aJ (kL (kI .i64)) aE.Res:=⟨o58_1,rfl⟩
instance jf58_2_api_Row:FlI PP 58 2 aJ (kL (kI .i64)) aE.Pc:=⟨o58_2,rfl⟩
theorem gm0:GlobIs (kI .i64) 0 gl0:=globI (.head _) (by kernel_rfl)
theorem u237:PP.underlying 237=some (.array 13 3):=by kernel_rfl
theorem b167:bodied PP 167:=by unfold bodied;kernel_rfl
instance ji_i64_m20:IntI .i64 (-20):=⟨by decide⟩
instance ji_i64_20:IntI .i64 20:=⟨by decide⟩
theorem b201:bodied PP 201:=by unfold bodied;kernel_rfl
theorem b200:bodied PP 200:=by unfold bodied;kernel_rfl
theorem u239:PP.underlying 239=some (.map 3 117):=by kernel_rfl
theorem u3:PP.underlying 3=some (.int .i64):=by kernel_rfl
theorem mk3:MKey PP 3 (.int .i64) (kI .i64):=keyI u3
theorem o73_0:fofs PP 73 0=some 0:=by kernel_rfl
instance ny:FlI PP 73 0 ao (kI .i64) ap.Op:=⟨o73_0,rfl⟩
theorem zv117:zeroV PP 117 .nilFunc:=by unfold zeroV;kernel_rfl
theorem o73_1:fofs PP 73 1=some 1:=by kernel_rfl
instance nz:FlI PP 73 1 ao (kI .i64) ap.N:=⟨o73_1,rfl⟩
theorem o73_2:fofs PP 73 2=some 2:=by kernel_rfl
instance nA:FlI PP 73 2 ao (kI .i64) ap.L:=⟨o73_2,rfl⟩
theorem t73:tinf PP 73=some (true,3):=by kernel_rfl
instance jt73:TinI PP 73 (kR ao):=⟨t73⟩
theorem b168:bodied PP 168:=by unfold bodied;kernel_rfl
theorem b170:bodied PP 170:=by unfold bodied;kernel_rfl
theorem t30:tinf PP 30=some (true,2):=by kernel_rfl
instance jt30:TinI PP 30 (kR ai):=⟨t30⟩
theorem b126:bodied PP 126:=by unfold bodied;kernel_rfl
theorem t88:tinf PP 88=some (true,3):=by kernel_rfl
instance jt88:TinI PP 88 (kR ak):=⟨t88⟩
theorem b146:bodied PP 146:=by unfold bodied;kernel_rfl
theorem ze117:zeroIs PP 117 [.nilFunc]:=by unfold zeroIs;kernel_rfl
theorem z117:sizeIs PP 117 1:=by unfold sizeIs;kernel_rfl
theorem o30_0:fofs PP 30 0=some 0:=by kernel_rfl
instance jf30_0_api_Atom:FlI PP 30 0 ai (kI .i64) am.V:=⟨o30_0,rfl⟩
theorem b148:bodied PP 148:=by unfold bodied;kernel_rfl
theorem t117:tinf PP 117=some (false,1):=by kernel_rfl
instance jt117:TinI PP 117 (kFn PP (rl1 (kI .i64) kB)):=⟨t117⟩
theorem o30_1:fofs PP 30 1=some 1:=by kernel_rfl
instance jf30_1_api_Atom:FlI PP 30 1 ai (kI .i64) am.L:=⟨o30_1,rfl⟩
theorem b147:bodied PP 147:=by unfold bodied;kernel_rfl
theorem o88_2:fofs PP 88 2=some 2:=by kernel_rfl
instance jf88_2_api_Slot:FlI PP 88 2 ak (kI .i64) al.L:=⟨o88_2,rfl⟩
theorem o88_0:fofs PP 88 0=some 0:=by kernel_rfl
instance jf88_0_api_Slot:FlI PP 88 0 ak kB al.Ret:=⟨o88_0,rfl⟩
instance jt4:TinI PP 4 kB:=⟨t4⟩
theorem o88_1:fofs PP 88 1=some 1:=by kernel_rfl
instance jf88_1_api_Slot:FlI PP 88 1 ak (kI .i64) al.V:=⟨o88_1,rfl⟩
theorem b150:bodied PP 150:=by unfold bodied;kernel_rfl
theorem b149:bodied PP 149:=by unfold bodied;kernel_rfl
instance nB:FlI PP 35 2 ae (kL (kR ai)) aa.Mem:=⟨o35_2,rfl⟩
instance jt32:TinI PP 32 (kL (kR ai)):=⟨t32⟩
instance nC:FlI PP 35 3 ae (kL (kR ak)) aa.Stack:=⟨o35_3,rfl⟩
instance jt33:TinI PP 33 (kL (kR ak)):=⟨t33⟩
instance nD:FlI PP 35 4 ae (kL (kR ai)) aa.Out:=⟨o35_4,rfl⟩
instance nE:FlI PP 35 1 ae (kL (kR ao)) aa.Code:=⟨o35_1,rfl⟩
instance jt31:TinI PP 31 (kL (kR ao)):=⟨t31⟩
theorem o35_0:fofs PP 35 0=some 0:=by kernel_rfl
instance nF:FlI PP 35 0 ae (kR ai) aa.Pc:=⟨o35_0,rfl⟩
theorem b152:bodied PP 152:=by unfold bodied;kernel_rfl
theorem b153:bodied PP 153:=by unfold bodied;kernel_rfl
theorem cb199:conB PP 199=true:=by kernel_rfl
theorem b66:bodied PP 66:=by unfold bodied;kernel_rfl
theorem b65:bodied PP 65:=by unfold bodied;kernel_rfl
theorem b26:bodied PP 26:=by unfold bodied;kernel_rfl
abbrev L204(x:ah):List Leaf:=[.d (kL kS) x.l_.Names,.d (kL (kI .u32)) x.l_.Up,.d (kI .i64) x.s_.Pc.V,.d (kI .i64) x.s_.Pc.L,.d (kL (kR ao)) x.s_.Code,.d (kL (kR ai)) x.s_.Mem,.d (kL (kR ak)) x.s_.Stack,.d (kL (kR ai)) x.s_.Out,.d (kI .i64) x.x_.Op,.d (kI .i64) x.x_.N,.d (kI .i64) x.x_.L,.d kB x.a_.Ret,.d (kI .i64) x.a_.V,.d (kI .i64) x.a_.L,.d kB x.b_.Ret,.d (kI .i64) x.b_.V,.d (kI .i64) x.b_.L,.d kB x.r_.Ret,.d (kI .i64) x.r_.V,.d (kI .i64) x.r_.L,.d (kI .i64) x.below_,.d (kI .i64) x.one_.x0_,.d (kI .i64) x.one_.x1_,.d (kI .i64) x.one_.x2_]
theorem o204_2:fofs PP 204 2=some 8:=by kernel_rfl
instance jo204_2:FofI PP 204 2 8:=⟨o204_2⟩
instance jo73_2:FofI PP 73 2 2:=⟨o73_2⟩
theorem o204_7:fofs PP 204 7=some 21:=by kernel_rfl
instance jo204_7:FofI PP 204 7 21:=⟨o204_7⟩
theorem u202:PP.underlying 202=some (.array 3 3):=by kernel_rfl
theorem ze88:zeroIs PP 88 [(.bool false),(.int .i64 0),(.int .i64 0)]:=by unfold zeroIs;kernel_rfl
abbrev Z88:List Leaf:=[.d kB false,.d (kI .i64) 0,.d (kI .i64) 0]
theorem zl88:∀g:G,leafs Z88 g [(.bool false),(.int .i64 0),(.int .i64 0)]:=fun g=>⟨[(.bool false)],_,rfl,zB g.H,⟨[(.int .i64 0)],_,rfl,zI_i64 g.H,⟨[(.int .i64 0)],_,rfl,zI_i64 g.H,rfl⟩⟩⟩
theorem o204_1:fofs PP 204 1=some 2:=by kernel_rfl
instance jo204_1:FofI PP 204 1 2:=⟨o204_1⟩
theorem b155:bodied PP 155:=by unfold bodied;kernel_rfl
theorem b192:bodied PP 192:=by unfold bodied;kernel_rfl
theorem o204_3:fofs PP 204 3=some 11:=by kernel_rfl
instance jo204_3:FofI PP 204 3 11:=⟨o204_3⟩
abbrev L88(x:al):List Leaf:=[.d kB x.Ret,.d (kI .i64) x.V,.d (kI .i64) x.L]
theorem pt88{x:al}:Part (L88 x) (kR ak) x:=by
 have h:Part _ (kR ak) x:=(lfS (lfC lf1 (lfC lf1 (lfC lf1 lfN))))
 exact h
theorem o204_6:fofs PP 204 6=some 20:=by kernel_rfl
instance jo204_6:FofI PP 204 6 20:=⟨o204_6⟩
instance jo88_2:FofI PP 88 2 2:=⟨o88_2⟩
theorem b175:bodied PP 175:=by unfold bodied;kernel_rfl
theorem o204_4:fofs PP 204 4=some 14:=by kernel_rfl
instance jo204_4:FofI PP 204 4 14:=⟨o204_4⟩
instance jo88_1:FofI PP 88 1 1:=⟨o88_1⟩
theorem b193:bodied PP 193:=by unfold bodied;kernel_rfl
theorem b176:bodied PP 176:=by unfold bodied;kernel_rfl
theorem b179:bodied PP 179:=by unfold bodied;kernel_rfl
instance jo73_1:FofI PP 73 1 1:=⟨o73_1⟩
theorem o204_5:fofs PP 204 5=some 17:=by kernel_rfl
instance jo204_5:FofI PP 204 5 17:=⟨o204_5⟩
theorem u216:PP.underlying 216=some (.map 3 1):=by kernel_rfl
instance jo73_0:FofI PP 73 0 0:=⟨o73_0⟩
theorem zv1:zeroV PP 1 .nilFunc:=by unfold zeroV;kernel_rfl
theorem b173:bodied PP 173:=by unfold bodied;kernel_rfl
theorem b174:bodied PP 174:=by unfold bodied;kernel_rfl
theorem b177:bodied PP 177:=by unfold bodied;kernel_rfl
theorem b178:bodied PP 178:=by unfold bodied;kernel_rfl
theorem b180:bodied PP 180:=by unfold bodied;kernel_rfl
theorem b181:bodied PP 181:=by unfold bodied;kernel_rfl
theorem b194:bodied PP 194:=by unfold bodied;kernel_rfl
theorem o225_2:fofs PP 225 2=some 3:=by kernel_rfl
instance jo225_2:FofI PP 225 2 3:=⟨o225_2⟩
theorem t223:tinf PP 223=some (false,1):=by kernel_rfl
theorem el223:ElTy PP 223 221 1 16:=⟨by kernel_rfl,by kernel_rfl⟩
theorem z223:sizeIs PP 223 1:=by unfold sizeIs;kernel_rfl
theorem u5:PP.underlying 5=some (.int .u8):=by kernel_rfl
theorem b28:bodied PP 28:=by unfold bodied;kernel_rfl
theorem u223:PP.underlying 223=some (.slice 221):=by kernel_rfl
theorem z221:sizeIs PP 221 1:=by unfold sizeIs;kernel_rfl
theorem t221:tinf PP 221=some (false,1):=by kernel_rfl
theorem el56:ElTy PP 56 3 1 8:=⟨by kernel_rfl,by kernel_rfl⟩
theorem cb218:conB PP 218=true:=by kernel_rfl
theorem zv218:zeroV PP 218 (.bool false):=by unfold zeroV;kernel_rfl
theorem cb227:conB PP 227=true:=by kernel_rfl
theorem zv227:zeroV PP 227 (.int .i64 0):=by unfold zeroV;kernel_rfl
theorem o225_0:fofs PP 225 0=some 0:=by kernel_rfl
instance jo225_0:FofI PP 225 0 0:=⟨o225_0⟩
abbrev L25(x:ab):List Leaf:=[.d (kL kS) x.Names,.d (kL (kI .u32)) x.Up]
theorem pt25{x:ab}:Part (L25 x) (kR aj) x:=by
 have h:Part _ (kR aj) x:=(lfS (lfC lf1 (lfC lf1 lfN)))
 exact h
theorem b195:bodied PP 195:=by unfold bodied;kernel_rfl
theorem o225_1:fofs PP 225 1=some 2:=by kernel_rfl
instance jo225_1:FofI PP 225 1 2:=⟨o225_1⟩
theorem b196:bodied PP 196:=by unfold bodied;kernel_rfl
theorem b197:bodied PP 197:=by unfold bodied;kernel_rfl
theorem pl225:places PP 225=some [(0,2),(2,1),(3,1)]:=by kernel_rfl
theorem po225_2:∀q f,fe[q]?=some f->([(0,2),(2,1),(3,1)]:List (Nat×Nat))[q]?=some (offF fe q,f.d.sz):=fun q f h=>by
 unfold fe at h
 match q,h with
 |0,h=>cases h;rfl
 |1,h=>cases h;rfl
 |2,h=>cases h;rfl
 |n+3,h=>simp at h
theorem ze225:zeroIs PP 225 [(.slice none 0 0),(.slice none 0 0),(.slice none 0 0),(.slice none 0 0)]:=by unfold zeroIs;kernel_rfl
theorem b183:bodied PP 183:=by unfold bodied;kernel_rfl
theorem pl88:places PP 88=some [(0,1),(1,1),(2,1)]:=by kernel_rfl
theorem po88:∀q f,ak[q]?=some f->([(0,1),(1,1),(2,1)]:List (Nat×Nat))[q]?=some (offF ak q,f.d.sz):=fun q f h=>by
 unfold ak at h
 match q,h with
 |0,h=>cases h;rfl
 |1,h=>cases h;rfl
 |2,h=>cases h;rfl
 |n+3,h=>simp at h
theorem el33:ElTy PP 33 88 3 24:=⟨by kernel_rfl,by kernel_rfl⟩
theorem u147:PP.underlying 147=some (.slice 33):=by kernel_rfl
instance ju147:UndI PP 147 33:=⟨u147⟩
theorem db:∀H,(kR ak).reps H [(.bool false),(.int .i64 0),(.int .i64 0)] (⟨false,0,0⟩:al):=fun H=>⟨[(.bool false)],_,rfl,zB H,⟨[(.int .i64 0)],_,rfl,zI_i64 H,⟨[(.int .i64 0)],_,rfl,zI_i64 H,rfl⟩⟩⟩
theorem b198:bodied PP 198:=by unfold bodied;kernel_rfl
theorem b184:bodied PP 184:=by unfold bodied;kernel_rfl
instance jo35_0:FofI PP 35 0 0:=⟨o35_0⟩
instance jo30_0:FofI PP 30 0 0:=⟨o30_0⟩
theorem b185:bodied PP 185:=by unfold bodied;kernel_rfl
theorem el32:ElTy PP 32 30 2 16:=⟨by kernel_rfl,by kernel_rfl⟩
theorem b95:bodied PP 95:=by unfold bodied;kernel_rfl
theorem pl30:places PP 30=some [(0,1),(1,1)]:=by kernel_rfl
theorem po30:∀q f,ai[q]?=some f->([(0,1),(1,1)]:List (Nat×Nat))[q]?=some (offF ai q,f.d.sz):=fun q f h=>by
 unfold ai at h
 match q,h with
 |0,h=>cases h;rfl
 |1,h=>cases h;rfl
 |n+2,h=>simp at h
theorem ze30:zeroIs PP 30 [(.int .i64 0),(.int .i64 0)]:=by unfold zeroIs;kernel_rfl
instance jo30_1:FofI PP 30 1 1:=⟨o30_1⟩
theorem el147:ElTy PP 147 33 1 24:=⟨by kernel_rfl,by kernel_rfl⟩
theorem ze3:zeroIs PP 3 [(.int .i64 0)]:=by unfold zeroIs;kernel_rfl
instance jt35:TinI PP 35 (kR ae):=⟨t35⟩
theorem po202:∀q f,ju[q]?=some f->(q*1,1)=(offF ju q,f.d.sz):=fun q f h=>by
 unfold ju at h
 match q,h with
 |0,h=>cases h;rfl
 |1,h=>cases h;rfl
 |2,h=>cases h;rfl
 |n+3,h=>simp at h
theorem ze202:zeroIs PP 202 [(.int .i64 0),(.int .i64 0),(.int .i64 0)]:=by unfold zeroIs;kernel_rfl
theorem pl204:places PP 204=some [(0,2),(2,6),(8,3),(11,3),(14,3),(17,3),(20,1),(21,3)]:=by kernel_rfl
theorem po204:∀q f,fv[q]?=some f->([(0,2),(2,6),(8,3),(11,3),(14,3),(17,3),(20,1),(21,3)]:List (Nat×Nat))[q]?=some (offF fv q,f.d.sz):=fun q f h=>by
 unfold fv at h
 match q,h with
 |0,h=>cases h;rfl
 |1,h=>cases h;rfl
 |2,h=>cases h;rfl
 |3,h=>cases h;rfl
 |4,h=>cases h;rfl
 |5,h=>cases h;rfl
 |6,h=>cases h;rfl
 |7,h=>cases h;rfl
 |n+8,h=>simp at h
theorem ze204:zeroIs PP 204 [(.slice none 0 0),(.slice none 0 0),(.int .i64 0),(.int .i64 0),(.slice none 0 0),(.slice none 0 0),(.slice none 0 0),(.slice none 0 0),(.int .i64 0),(.int .i64 0),(.int .i64 0),(.bool false),(.int .i64 0),(.int .i64 0),(.bool false),(.int .i64 0),(.int .i64 0),(.bool false),(.int .i64 0),(.int .i64 0),(.int .i64 0),(.int .i64 0),(.int .i64 0),(.int .i64 0)]:=by unfold zeroIs;kernel_rfl
theorem pt204{x:ah}:Part (L204 x) (kR fv) x:=by
 have h:Part _ (kR fv) x:=(lfS (lfC (lfS (lfC lf1 (lfC lf1 lfN))) (lfC (lfS (lfC (lfS (lfC lf1 (lfC lf1 lfN))) (lfC lf1 (lfC lf1 (lfC lf1 (lfC lf1 lfN)))))) (lfC (lfS (lfC lf1 (lfC lf1 (lfC lf1 lfN)))) (lfC (lfS (lfC lf1 (lfC lf1 (lfC lf1 lfN)))) (lfC (lfS (lfC lf1 (lfC lf1 (lfC lf1 lfN)))) (lfC (lfS (lfC lf1 (lfC lf1 (lfC lf1 lfN)))) (lfC lf1 (lfC (lfS (lfC lf1 (lfC lf1 (lfC lf1 lfN)))) lfN)))))))))
 exact h
theorem b157:bodied PP 157:=by unfold bodied;kernel_rfl
abbrev L58(x:aE):List Leaf:=[.d (kL (kI .i64)) x.May,.d (kL (kI .i64)) x.Res,.d (kL (kI .i64)) x.Pc]
theorem b160:bodied PP 160:=by unfold bodied;kernel_rfl
theorem u20:PP.underlying 20=some (.interface #[]):=by kernel_rfl
theorem b154:bodied PP 154:=by unfold bodied;kernel_rfl
instance jt28:TinI PP 28 (kR aL):=⟨t28⟩
theorem fy:∀H,(kR ai).reps H [(.int .i64 0),(.int .i64 0)] (⟨0,0⟩:am):=fun H=>⟨[(.int .i64 0)],_,rfl,zI_i64 H,⟨[(.int .i64 0)],_,rfl,zI_i64 H,rfl⟩⟩
theorem pl35:places PP 35=some [(0,2),(2,1),(3,1),(4,1),(5,1)]:=by kernel_rfl
theorem po35:∀q f,ae[q]?=some f->([(0,2),(2,1),(3,1),(4,1),(5,1)]:List (Nat×Nat))[q]?=some (offF ae q,f.d.sz):=fun q f h=>by
 unfold ae at h
 match q,h with
 |0,h=>cases h;rfl
 |1,h=>cases h;rfl
 |2,h=>cases h;rfl
 |3,h=>cases h;rfl
 |4,h=>cases h;rfl
 |n+5,h=>simp at h
theorem b37:bodied PP 37:=by unfold bodied;kernel_rfl
theorem b75:bodied PP 75:=by unfold bodied;kernel_rfl
theorem ze49:zeroIs PP 49 [(.slice none 0 0)]:=by unfold zeroIs;kernel_rfl
theorem t49:tinf PP 49=some (false,1):=by kernel_rfl
theorem el49:ElTy PP 49 35 6 112:=⟨by kernel_rfl,by kernel_rfl⟩
theorem z49:sizeIs PP 49 1:=by unfold sizeIs;kernel_rfl
theorem o68_0:fofs PP 68 0=some 0:=by kernel_rfl
instance nG:FlI PP 68 0 bW (kR aj) ce.l_:=⟨o68_0,rfl⟩
theorem o68_2:fofs PP 68 2=some 3:=by kernel_rfl
instance nH:FlI PP 68 2 bW (kI .i64) ce.o_:=⟨o68_2,rfl⟩
theorem u49:PP.underlying 49=some (.slice 35):=by kernel_rfl
instance ju49:UndI PP 49 35:=⟨u49⟩
theorem b113:bodied PP 113:=by unfold bodied;kernel_rfl
theorem o68_1:fofs PP 68 1=some 2:=by kernel_rfl
instance nI:FlI PP 68 1 bW (kR aL) ce.t_:=⟨o68_1,rfl⟩
theorem o68_3:fofs PP 68 3=some 4:=by kernel_rfl
instance nJ:FlI PP 68 3 bW (kI .i64) ce.fuel_:=⟨o68_3,rfl⟩
theorem b67:bodied PP 67:=by unfold bodied;kernel_rfl
theorem t68:tinf PP 68=some (true,17):=by kernel_rfl
instance jt68:TinI PP 68 (kR bW):=⟨t68⟩
theorem b70:bodied PP 70:=by unfold bodied;kernel_rfl
theorem b69:bodied PP 69:=by unfold bodied;kernel_rfl
theorem ij:∀H,(kR ae).reps H [(.int .i64 0),(.int .i64 0),(.slice none 0 0),(.slice none 0 0),(.slice none 0 0),(.slice none 0 0)] (⟨(⟨0,0⟩:am),[],[],[],[]⟩:aa):=fun H=>⟨[(.int .i64 0),(.int .i64 0)],_,rfl,fy H,⟨[(.slice none 0 0)],_,rfl,zL H,⟨[(.slice none 0 0)],_,rfl,zL H,⟨[(.slice none 0 0)],_,rfl,zL H,⟨[(.slice none 0 0)],_,rfl,zL H,rfl⟩⟩⟩⟩⟩
theorem b68:bodied PP 68:=by unfold bodied;kernel_rfl
theorem pl68:places PP 68=some [(0,2),(2,1),(3,1),(4,1),(5,6),(11,6)]:=by kernel_rfl
theorem po68:∀q f,bW[q]?=some f->([(0,2),(2,1),(3,1),(4,1),(5,6),(11,6)]:List (Nat×Nat))[q]?=some (offF bW q,f.d.sz):=fun q f h=>by
 unfold bW at h
 match q,h with
 |0,h=>cases h;rfl
 |1,h=>cases h;rfl
 |2,h=>cases h;rfl
 |3,h=>cases h;rfl
 |4,h=>cases h;rfl
 |5,h=>cases h;rfl
 |n+6,h=>simp at h
theorem ze68:zeroIs PP 68 [(.slice none 0 0),(.slice none 0 0),(.slice none 0 0),(.int .i64 0),(.int .i64 0),(.int .i64 0),(.int .i64 0),(.slice none 0 0),(.slice none 0 0),(.slice none 0 0),(.slice none 0 0),(.int .i64 0),(.int .i64 0),(.slice none 0 0),(.slice none 0 0),(.slice none 0 0),(.slice none 0 0)]:=by unfold zeroIs;kernel_rfl
theorem b140:bodied PP 140:=by unfold bodied;kernel_rfl
theorem b101:bodied PP 101:=by unfold bodied;kernel_rfl
theorem b117:bodied PP 117:=by unfold bodied;kernel_rfl
theorem b187:bodied PP 187:=by unfold bodied;kernel_rfl
theorem b141:bodied PP 141:=by unfold bodied;kernel_rfl
theorem b142:bodied PP 142:=by unfold bodied;kernel_rfl
theorem ze137:zeroIs PP 137 [(.int .i64 0),(.int .i64 0)]:=by unfold zeroIs;kernel_rfl
abbrev Z137:List Leaf:=[.d (kI .i64) 0,.d (kI .i64) 0]
theorem zl137:∀g:G,leafs Z137 g [(.int .i64 0),(.int .i64 0)]:=fun g=>⟨[(.int .i64 0)],_,rfl,zI_i64 g.H,⟨[(.int .i64 0)],_,rfl,zI_i64 g.H,rfl⟩⟩
theorem pl137:places PP 137=some [(0,1),(1,1)]:=by kernel_rfl
theorem po137:∀q f,cH[q]?=some f->([(0,1),(1,1)]:List (Nat×Nat))[q]?=some (offF cH q,f.d.sz):=fun q f h=>by
 unfold cH at h
 match q,h with
 |0,h=>cases h;rfl
 |1,h=>cases h;rfl
 |n+2,h=>simp at h
theorem z137:sizeIs PP 137 2:=by unfold sizeIs;kernel_rfl
theorem t137:tinf PP 137=some (true,2):=by kernel_rfl
theorem ze73:zeroIs PP 73 [(.int .i64 0),(.int .i64 0),(.int .i64 0)]:=by unfold zeroIs;kernel_rfl
abbrev Z73:List Leaf:=[.d (kI .i64) 0,.d (kI .i64) 0,.d (kI .i64) 0]
theorem zl73:∀g:G,leafs Z73 g [(.int .i64 0),(.int .i64 0),(.int .i64 0)]:=fun g=>⟨[(.int .i64 0)],_,rfl,zI_i64 g.H,⟨[(.int .i64 0)],_,rfl,zI_i64 g.H,⟨[(.int .i64 0)],_,rfl,zI_i64 g.H,rfl⟩⟩⟩
abbrev Z30:List Leaf:=[.d (kI .i64) 0,.d (kI .i64) 0]
theorem zl30:∀g:G,leafs Z30 g [(.int .i64 0),(.int .i64 0)]:=fun g=>⟨[(.int .i64 0)],_,rfl,zI_i64 g.H,⟨[(.int .i64 0)],_,rfl,zI_i64 g.H,rfl⟩⟩
theorem b120:bodied PP 120:=by unfold bodied;kernel_rfl
instance jo88_0:FofI PP 88 0 0:=⟨o88_0⟩
theorem b121:bodied PP 121:=by unfold bodied;kernel_rfl
theorem b122:bodied PP 122:=by unfold bodied;kernel_rfl
theorem ff137_1:ffld PP 137 1=some (1,39):=by kernel_rfl
theorem pl28:places PP 28=some [(0,1)]:=by kernel_rfl
theorem po28:∀q f,aL[q]?=some f->([(0,1)]:List (Nat×Nat))[q]?=some (offF aL q,f.d.sz):=fun q f h=>by
 unfold aL at h
 match q,h with
 |0,h=>cases h;rfl
 |n+1,h=>simp at h
theorem ze98:zeroIs PP 98 [.nilFunc,.nilFunc,.nilFunc]:=by unfold zeroIs;kernel_rfl
noncomputable abbrev Z98:List Leaf:=[.d (kFn PP (rl2 (kR ao) (kR ao) kB)) none,.d (kFn PP (rl1 (kR ao) (kI .i64))) none,.d (kFn PP (rl2 (kR ao) (kR ao) kB)) none]
theorem zl98:∀g:G,leafs Z98 g [.nilFunc,.nilFunc,.nilFunc]:=fun g=>⟨[.nilFunc],_,rfl,zFn g.H,⟨[.nilFunc],_,rfl,zFn g.H,⟨[.nilFunc],_,rfl,zFn g.H,rfl⟩⟩⟩
theorem b78:bodied PP 78:=by unfold bodied;kernel_rfl
theorem b79:bodied PP 79:=by unfold bodied;kernel_rfl
theorem b80:bodied PP 80:=by unfold bodied;kernel_rfl
theorem pl98:places PP 98=some [(0,1),(1,1),(2,1)]:=by kernel_rfl
theorem po98:∀q f,dc[q]?=some f->([(0,1),(1,1),(2,1)]:List (Nat×Nat))[q]?=some (offF dc q,f.d.sz):=fun q f h=>by
 unfold dc at h
 match q,h with
 |0,h=>cases h;rfl
 |1,h=>cases h;rfl
 |2,h=>cases h;rfl
 |n+3,h=>simp at h
theorem z98:sizeIs PP 98 3:=by unfold sizeIs;kernel_rfl
theorem t98:tinf PP 98=some (true,3):=by kernel_rfl
theorem u145:PP.underlying 145=some (.slice 31):=by kernel_rfl
instance ju145:UndI PP 145 31:=⟨u145⟩
theorem o98_1:fofs PP 98 1=some 1:=by kernel_rfl
instance nj:FlI PP 98 1 dc (kFn PP (rl1 (kR ao) (kI .i64))) dx.label_:=⟨o98_1,rfl⟩
theorem t96:tinf PP 96=some (false,1):=by kernel_rfl
instance jt96:TinI PP 96 (kFn PP (rl1 (kR ao) (kI .i64))):=⟨t96⟩
theorem ze104:zeroIs PP 104 [.nilFunc,.nilFunc,.nilFunc]:=by unfold zeroIs;kernel_rfl
noncomputable abbrev Z104:List Leaf:=[.d (kFn PP (rl2 (kR ai) (kR ai) kB)) none,.d (kFn PP (rl1 (kR ai) (kI .i64))) none,.d (kFn PP (rl2 (kR ai) (kR ai) kB)) none]
theorem zl104:∀g:G,leafs Z104 g [.nilFunc,.nilFunc,.nilFunc]:=fun g=>⟨[.nilFunc],_,rfl,zFn g.H,⟨[.nilFunc],_,rfl,zFn g.H,⟨[.nilFunc],_,rfl,zFn g.H,rfl⟩⟩⟩
theorem b81:bodied PP 81:=by unfold bodied;kernel_rfl
theorem b82:bodied PP 82:=by unfold bodied;kernel_rfl
theorem b83:bodied PP 83:=by unfold bodied;kernel_rfl
theorem pl104:places PP 104=some [(0,1),(1,1),(2,1)]:=by kernel_rfl
theorem po104:∀q f,dd[q]?=some f->([(0,1),(1,1),(2,1)]:List (Nat×Nat))[q]?=some (offF dd q,f.d.sz):=fun q f h=>by
 unfold dd at h
 match q,h with
 |0,h=>cases h;rfl
 |1,h=>cases h;rfl
 |2,h=>cases h;rfl
 |n+3,h=>simp at h
theorem z104:sizeIs PP 104 3:=by unfold sizeIs;kernel_rfl
theorem t104:tinf PP 104=some (true,3):=by kernel_rfl
theorem u146:PP.underlying 146=some (.slice 32):=by kernel_rfl
instance ju146:UndI PP 146 32:=⟨u146⟩
theorem o104_1:fofs PP 104 1=some 1:=by kernel_rfl
instance mV:FlI PP 104 1 dd (kFn PP (rl1 (kR ai) (kI .i64))) dy.label_:=⟨o104_1,rfl⟩
theorem t102:tinf PP 102=some (false,1):=by kernel_rfl
instance jt102:TinI PP 102 (kFn PP (rl1 (kR ai) (kI .i64))):=⟨t102⟩
theorem ze110:zeroIs PP 110 [.nilFunc,.nilFunc,.nilFunc]:=by unfold zeroIs;kernel_rfl
noncomputable abbrev Z110:List Leaf:=[.d (kFn PP (rl2 (kR ak) (kR ak) kB)) none,.d (kFn PP (rl1 (kR ak) (kI .i64))) none,.d (kFn PP (rl2 (kR ak) (kR ak) kB)) none]
theorem zl110:∀g:G,leafs Z110 g [.nilFunc,.nilFunc,.nilFunc]:=fun g=>⟨[.nilFunc],_,rfl,zFn g.H,⟨[.nilFunc],_,rfl,zFn g.H,⟨[.nilFunc],_,rfl,zFn g.H,rfl⟩⟩⟩
theorem b84:bodied PP 84:=by unfold bodied;kernel_rfl
theorem b85:bodied PP 85:=by unfold bodied;kernel_rfl
theorem b86:bodied PP 86:=by unfold bodied;kernel_rfl
theorem pl110:places PP 110=some [(0,1),(1,1),(2,1)]:=by kernel_rfl
theorem po110:∀q f,de[q]?=some f->([(0,1),(1,1),(2,1)]:List (Nat×Nat))[q]?=some (offF de q,f.d.sz):=fun q f h=>by
 unfold de at h
 match q,h with
 |0,h=>cases h;rfl
 |1,h=>cases h;rfl
 |2,h=>cases h;rfl
 |n+3,h=>simp at h
theorem z110:sizeIs PP 110 3:=by unfold sizeIs;kernel_rfl
theorem t110:tinf PP 110=some (true,3):=by kernel_rfl
theorem o110_1:fofs PP 110 1=some 1:=by kernel_rfl
instance mW:FlI PP 110 1 de (kFn PP (rl1 (kR ak) (kI .i64))) dz.label_:=⟨o110_1,rfl⟩
theorem t108:tinf PP 108=some (false,1):=by kernel_rfl
instance jt108:TinI PP 108 (kFn PP (rl1 (kR ak) (kI .i64))):=⟨t108⟩
theorem u143:PP.underlying 143=some (.slice 56):=by kernel_rfl
instance ju143:UndI PP 143 56:=⟨u143⟩
theorem z56:sizeIs PP 56 1:=by unfold sizeIs;kernel_rfl
theorem b77:bodied PP 77:=by unfold bodied;kernel_rfl
theorem b87:bodied PP 87:=by unfold bodied;kernel_rfl
theorem o113_0:fofs PP 113 0=some 0:=by kernel_rfl
instance nu:FlI PP 113 0 bC (kR aj) bp.l_:=⟨o113_0,rfl⟩
theorem o113_1:fofs PP 113 1=some 2:=by kernel_rfl
instance nv:FlI PP 113 1 bC (kI .i64) bp.o_:=⟨o113_1,rfl⟩
theorem o98_0:fofs PP 98 0=some 0:=by kernel_rfl
instance nk:FlI PP 98 0 dc (kFn PP (rl2 (kR ao) (kR ao) kB)) dx.same_:=⟨o98_0,rfl⟩
theorem t95:tinf PP 95=some (false,1):=by kernel_rfl
instance jt95:TinI PP 95 (kFn PP (rl2 (kR ao) (kR ao) kB)):=⟨t95⟩
theorem t113:tinf PP 113=some (true,3):=by kernel_rfl
instance jt113:TinI PP 113 (kR bC):=⟨t113⟩
theorem b52:bodied PP 52:=by unfold bodied;kernel_rfl
theorem o98_2:fofs PP 98 2=some 2:=by kernel_rfl
instance np:FlI PP 98 2 dc (kFn PP (rl2 (kR ao) (kR ao) kB)) dx.seen_:=⟨o98_2,rfl⟩
theorem b89:bodied PP 89:=by unfold bodied;kernel_rfl
theorem o104_0:fofs PP 104 0=some 0:=by kernel_rfl
instance mX:FlI PP 104 0 dd (kFn PP (rl2 (kR ai) (kR ai) kB)) dy.same_:=⟨o104_0,rfl⟩
theorem t101:tinf PP 101=some (false,1):=by kernel_rfl
instance jt101:TinI PP 101 (kFn PP (rl2 (kR ai) (kR ai) kB)):=⟨t101⟩
theorem o104_2:fofs PP 104 2=some 2:=by kernel_rfl
instance mY:FlI PP 104 2 dd (kFn PP (rl2 (kR ai) (kR ai) kB)) dy.seen_:=⟨o104_2,rfl⟩
theorem b91:bodied PP 91:=by unfold bodied;kernel_rfl
theorem eqk30:EqK PP (kR ai) 30 2:=eqKR (fs:=[(true,0,3),(true,1,3)]) (by kernel_rfl) (by kernel_rfl) (.cons rfl t3 (eqKI u3) (.cons rfl t3 (eqKI u3) .nil)) (fun x y=>by cases x;cases y;simp[am.mk.injEq,Bool.decide_and])
theorem eg30:PP.eqGuardType PP.depth 30=false:=by kernel_rfl
theorem b92:bodied PP 92:=by unfold bodied;kernel_rfl
theorem b94:bodied PP 94:=by unfold bodied;kernel_rfl
theorem o110_0:fofs PP 110 0=some 0:=by kernel_rfl
instance mZ:FlI PP 110 0 de (kFn PP (rl2 (kR ak) (kR ak) kB)) dz.same_:=⟨o110_0,rfl⟩
theorem t107:tinf PP 107=some (false,1):=by kernel_rfl
instance jt107:TinI PP 107 (kFn PP (rl2 (kR ak) (kR ak) kB)):=⟨t107⟩
theorem o110_2:fofs PP 110 2=some 2:=by kernel_rfl
instance m0:FlI PP 110 2 de (kFn PP (rl2 (kR ak) (kR ak) kB)) dz.seen_:=⟨o110_2,rfl⟩
theorem b98:bodied PP 98:=by unfold bodied;kernel_rfl
theorem el145:ElTy PP 145 31 1 24:=⟨by kernel_rfl,by kernel_rfl⟩
theorem b45:bodied PP 45:=by unfold bodied;kernel_rfl
theorem el146:ElTy PP 146 32 1 24:=⟨by kernel_rfl,by kernel_rfl⟩
theorem b47:bodied PP 47:=by unfold bodied;kernel_rfl
theorem el143:ElTy PP 143 56 1 24:=⟨by kernel_rfl,by kernel_rfl⟩
theorem pl113:places PP 113=some [(0,2),(2,1)]:=by kernel_rfl
theorem po113:∀q f,bC[q]?=some f->([(0,2),(2,1)]:List (Nat×Nat))[q]?=some (offF bC q,f.d.sz):=fun q f h=>by
 unfold bC at h
 match q,h with
 |0,h=>cases h;rfl
 |1,h=>cases h;rfl
 |n+2,h=>simp at h
theorem ze113:zeroIs PP 113 [(.slice none 0 0),(.slice none 0 0),(.int .i64 0)]:=by unfold zeroIs;kernel_rfl
abbrev Z113:List Leaf:=[.d (kL kS) [],.d (kL (kI .u32)) [],.d (kI .i64) 0]
theorem zl113:∀g:G,leafs Z113 g [(.slice none 0 0),(.slice none 0 0),(.int .i64 0)]:=fun g=>⟨[(.slice none 0 0)],_,rfl,zL g.H,⟨[(.slice none 0 0)],_,rfl,zL g.H,⟨[(.int .i64 0)],_,rfl,zI_i64 g.H,rfl⟩⟩⟩
abbrev L113(x:bp):List Leaf:=[.d (kL kS) x.l_.Names,.d (kL (kI .u32)) x.l_.Up,.d (kI .i64) x.o_]
theorem pt113{x:bp}:Part (L113 x) (kR bC) x:=by
 have h:Part _ (kR bC) x:=(lfS (lfC (lfS (lfC lf1 (lfC lf1 lfN))) (lfC lf1 lfN)))
 exact h
theorem z113:sizeIs PP 113 3:=by unfold sizeIs;kernel_rfl
theorem b50:bodied PP 50:=by unfold bodied;kernel_rfl
theorem b51:bodied PP 51:=by unfold bodied;kernel_rfl
theorem b53:bodied PP 53:=by unfold bodied;kernel_rfl
theorem o68_4:fofs PP 68 4=some 5:=by kernel_rfl
instance nK:FlI PP 68 4 bW (kR ae) ce.a_:=⟨o68_4,rfl⟩
theorem o68_5:fofs PP 68 5=some 11:=by kernel_rfl
instance nL:FlI PP 68 5 bW (kR ae) ce.b_:=⟨o68_5,rfl⟩
theorem b76:bodied PP 76:=by unfold bodied;kernel_rfl
theorem b38:bodied PP 38:=by unfold bodied;kernel_rfl
theorem u63:PP.underlying 63=some (.map 3 61):=by kernel_rfl
theorem b39:bodied PP 39:=by unfold bodied;kernel_rfl
theorem b40:bodied PP 40:=by unfold bodied;kernel_rfl
theorem zv61:zeroV PP 61 .nilFunc:=by unfold zeroV;kernel_rfl
theorem el23:ElTy PP 23 70 1 4:=⟨by kernel_rfl,by kernel_rfl⟩
theorem po25:∀q f,aj[q]?=some f->([(0,1),(1,1)]:List (Nat×Nat))[q]?=some (offF aj q,f.d.sz):=fun q f h=>by
 unfold aj at h
 match q,h with
 |0,h=>cases h;rfl
 |1,h=>cases h;rfl
 |n+2,h=>simp at h
abbrev Z25:List Leaf:=[.d (kL kS) [],.d (kL (kI .u32)) []]
theorem zl25:∀g:G,leafs Z25 g [(.slice none 0 0),(.slice none 0 0)]:=fun g=>⟨[(.slice none 0 0)],_,rfl,zL g.H,⟨[(.slice none 0 0)],_,rfl,zL g.H,rfl⟩⟩
theorem b22:bodied PP 22:=by unfold bodied;kernel_rfl
theorem pl73:places PP 73=some [(0,1),(1,1),(2,1)]:=by kernel_rfl
theorem po73:∀q f,ao[q]?=some f->([(0,1),(1,1),(2,1)]:List (Nat×Nat))[q]?=some (offF ao q,f.d.sz):=fun q f h=>by
 unfold ao at h
 match q,h with
 |0,h=>cases h;rfl
 |1,h=>cases h;rfl
 |2,h=>cases h;rfl
 |n+3,h=>simp at h
theorem el31:ElTy PP 31 73 3 24:=⟨by kernel_rfl,by kernel_rfl⟩
theorem ze158:zeroIs PP 158 [(.bool false),(.bool false),(.int .i64 0),(.int .i64 0),(.bool false),(.int .i64 0),(.int .i64 0),(.bool false),(.int .i64 0),(.int .i64 0),(.int .i64 0),(.int .i64 0),(.int .i64 0),(.int .i64 0)]:=by unfold zeroIs;kernel_rfl
abbrev Z158:List Leaf:=[.d kB false,.d kB false,.d (kI .i64) 0,.d (kI .i64) 0,.d kB false,.d (kI .i64) 0,.d (kI .i64) 0,.d kB false,.d (kI .i64) 0,.d (kI .i64) 0,.d (kI .i64) 0,.d (kI .i64) 0,.d (kI .i64) 0,.d (kI .i64) 0]
theorem zl158:∀g:G,leafs Z158 g [(.bool false),(.bool false),(.int .i64 0),(.int .i64 0),(.bool false),(.int .i64 0),(.int .i64 0),(.bool false),(.int .i64 0),(.int .i64 0),(.int .i64 0),(.int .i64 0),(.int .i64 0),(.int .i64 0)]:=fun g=>⟨[(.bool false)],_,rfl,zB g.H,⟨[(.bool false)],_,rfl,zB g.H,⟨[(.int .i64 0)],_,rfl,zI_i64 g.H,⟨[(.int .i64 0)],_,rfl,zI_i64 g.H,⟨[(.bool false)],_,rfl,zB g.H,⟨[(.int .i64 0)],_,rfl,zI_i64 g.H,⟨[(.int .i64 0)],_,rfl,zI_i64 g.H,⟨[(.bool false)],_,rfl,zB g.H,⟨[(.int .i64 0)],_,rfl,zI_i64 g.H,⟨[(.int .i64 0)],_,rfl,zI_i64 g.H,⟨[(.int .i64 0)],_,rfl,zI_i64 g.H,⟨[(.int .i64 0)],_,rfl,zI_i64 g.H,⟨[(.int .i64 0)],_,rfl,zI_i64 g.H,⟨[(.int .i64 0)],_,rfl,zI_i64 g.H,rfl⟩⟩⟩⟩⟩⟩⟩⟩⟩⟩⟩⟩⟩⟩
theorem pl158:places PP 158=some [(0,1),(1,3),(4,3),(7,3),(10,1),(11,1),(12,1),(13,1)]:=by kernel_rfl
theorem po158:∀q f,aM[q]?=some f->([(0,1),(1,3),(4,3),(7,3),(10,1),(11,1),(12,1),(13,1)]:List (Nat×Nat))[q]?=some (offF aM q,f.d.sz):=fun q f h=>by
 unfold aM at h
 match q,h with
 |0,h=>cases h;rfl
 |1,h=>cases h;rfl
 |2,h=>cases h;rfl
 |3,h=>cases h;rfl
 |4,h=>cases h;rfl
 |5,h=>cases h;rfl
 |6,h=>cases h;rfl
 |7,h=>cases h;rfl
 |n+8,h=>simp at h
abbrev L158(x:aq):List Leaf:=[.d kB x.Is,.d kB x.A.Ret,.d (kI .i64) x.A.V,.d (kI .i64) x.A.L,.d kB x.B.Ret,.d (kI .i64) x.B.V,.d (kI .i64) x.B.L,.d kB x.R.Ret,.d (kI .i64) x.R.V,.d (kI .i64) x.R.L,.d (kI .i64) x.One,.d (kI .i64) x.Two,.d (kI .i64) x.Three,.d (kI .i64) x.Below]
theorem pt158{x:aq}:Part (L158 x) (kR aM) x:=by
 have h:Part _ (kR aM) x:=(lfS (lfC lf1 (lfC (lfS (lfC lf1 (lfC lf1 (lfC lf1 lfN)))) (lfC (lfS (lfC lf1 (lfC lf1 (lfC lf1 lfN)))) (lfC (lfS (lfC lf1 (lfC lf1 (lfC lf1 lfN)))) (lfC lf1 (lfC lf1 (lfC lf1 (lfC lf1 lfN)))))))))
 exact h
theorem z158:sizeIs PP 158 14:=by unfold sizeIs;kernel_rfl
theorem t158:tinf PP 158=some (true,14):=by kernel_rfl
theorem o158_1:fofs PP 158 1=some 1:=by kernel_rfl
instance jo158_1:FofI PP 158 1 1:=⟨o158_1⟩
theorem o158_4:fofs PP 158 4=some 10:=by kernel_rfl
instance jo158_4:FofI PP 158 4 10:=⟨o158_4⟩
theorem o158_2:fofs PP 158 2=some 4:=by kernel_rfl
instance jo158_2:FofI PP 158 2 4:=⟨o158_2⟩
theorem o158_5:fofs PP 158 5=some 11:=by kernel_rfl
instance jo158_5:FofI PP 158 5 11:=⟨o158_5⟩
theorem o158_0:fofs PP 158 0=some 0:=by kernel_rfl
instance jo158_0:FofI PP 158 0 0:=⟨o158_0⟩
theorem o158_6:fofs PP 158 6=some 12:=by kernel_rfl
instance jo158_6:FofI PP 158 6 12:=⟨o158_6⟩
abbrev L73(x:ap):List Leaf:=[.d (kI .i64) x.Op,.d (kI .i64) x.N,.d (kI .i64) x.L]
theorem o158_7:fofs PP 158 7=some 13:=by kernel_rfl
instance jo158_7:FofI PP 158 7 13:=⟨o158_7⟩
theorem o158_3:fofs PP 158 3=some 7:=by kernel_rfl
instance jo158_3:FofI PP 158 3 7:=⟨o158_3⟩
theorem ze161:zeroIs PP 161 [(.bool false),(.int .i64 0),(.int .i64 0)]:=by unfold zeroIs;kernel_rfl
abbrev Z161:List Leaf:=[.d kB false,.d (kI .i64) 0,.d (kI .i64) 0]
theorem zl161:∀g:G,leafs Z161 g [(.bool false),(.int .i64 0),(.int .i64 0)]:=fun g=>⟨[(.bool false)],_,rfl,zB g.H,⟨[(.int .i64 0)],_,rfl,zI_i64 g.H,⟨[(.int .i64 0)],_,rfl,zI_i64 g.H,rfl⟩⟩⟩
theorem pl161:places PP 161=some [(0,1),(1,1),(2,1)]:=by kernel_rfl
theorem po161:∀q f,ba[q]?=some f->([(0,1),(1,1),(2,1)]:List (Nat×Nat))[q]?=some (offF ba q,f.d.sz):=fun q f h=>by
 unfold ba at h
 match q,h with
 |0,h=>cases h;rfl
 |1,h=>cases h;rfl
 |2,h=>cases h;rfl
 |n+3,h=>simp at h
theorem z161:sizeIs PP 161 3:=by unfold sizeIs;kernel_rfl
theorem t161:tinf PP 161=some (true,3):=by kernel_rfl
theorem o161_2:fofs PP 161 2=some 2:=by kernel_rfl
instance jo161_2:FofI PP 161 2 2:=⟨o161_2⟩
theorem o161_0:fofs PP 161 0=some 0:=by kernel_rfl
instance jo161_0:FofI PP 161 0 0:=⟨o161_0⟩
abbrev L161(x:bY):List Leaf:=[.d kB x.Is,.d (kI .i64) x.A,.d (kI .i64) x.From]
theorem o161_1:fofs PP 161 1=some 1:=by kernel_rfl
instance jo161_1:FofI PP 161 1 1:=⟨o161_1⟩
instance mq:FlI PP 158 1 aM (kR ak) aq.A:=⟨o158_1,rfl⟩
instance mr:FlI PP 158 2 aM (kR ak) aq.B:=⟨o158_2,rfl⟩
instance mu:FlI PP 158 7 aM (kI .i64) aq.Below:=⟨o158_7,rfl⟩
theorem b133:bodied PP 133:=by unfold bodied;kernel_rfl
instance mv:FlI PP 158 3 aM (kR ak) aq.R:=⟨o158_3,rfl⟩
theorem ze127:zeroIs PP 127 [(.int .i64 0),(.int .i64 0),(.slice none 0 0),(.slice none 0 0),(.slice none 0 0),(.slice none 0 0),(.int .i64 0)]:=by unfold zeroIs;kernel_rfl
abbrev Z127:List Leaf:=[.d (kI .i64) 0,.d (kI .i64) 0,.d (kL (kR ao)) [],.d (kL (kR ai)) [],.d (kL (kR ak)) [],.d (kL (kR ai)) [],.d (kI .i64) 0]
theorem zl127:∀g:G,leafs Z127 g [(.int .i64 0),(.int .i64 0),(.slice none 0 0),(.slice none 0 0),(.slice none 0 0),(.slice none 0 0),(.int .i64 0)]:=fun g=>⟨[(.int .i64 0)],_,rfl,zI_i64 g.H,⟨[(.int .i64 0)],_,rfl,zI_i64 g.H,⟨[(.slice none 0 0)],_,rfl,zL g.H,⟨[(.slice none 0 0)],_,rfl,zL g.H,⟨[(.slice none 0 0)],_,rfl,zL g.H,⟨[(.slice none 0 0)],_,rfl,zL g.H,⟨[(.int .i64 0)],_,rfl,zI_i64 g.H,rfl⟩⟩⟩⟩⟩⟩⟩
theorem pl127:places PP 127=some [(0,6),(6,1)]:=by kernel_rfl
theorem po127:∀q f,bj[q]?=some f->([(0,6),(6,1)]:List (Nat×Nat))[q]?=some (offF bj q,f.d.sz):=fun q f h=>by
 unfold bj at h
 match q,h with
 |0,h=>cases h;rfl
 |1,h=>cases h;rfl
 |n+2,h=>simp at h
abbrev L127(x:aP):List Leaf:=[.d (kI .i64) x.S.Pc.V,.d (kI .i64) x.S.Pc.L,.d (kL (kR ao)) x.S.Code,.d (kL (kR ai)) x.S.Mem,.d (kL (kR ak)) x.S.Stack,.d (kL (kR ai)) x.S.Out,.d (kI .i64) x.What]
theorem pt127{x:aP}:Part (L127 x) (kR bj) x:=by
 have h:Part _ (kR bj) x:=(lfS (lfC (lfS (lfC (lfS (lfC lf1 (lfC lf1 lfN))) (lfC lf1 (lfC lf1 (lfC lf1 (lfC lf1 lfN)))))) (lfC lf1 lfN)))
 exact h
theorem z127:sizeIs PP 127 7:=by unfold sizeIs;kernel_rfl
theorem t127:tinf PP 127=some (true,7):=by kernel_rfl
theorem ff161_0:ffld PP 161 0=some (0,4):=by kernel_rfl
theorem ff161_1:ffld PP 161 1=some (1,3):=by kernel_rfl
abbrev L30(x:am):List Leaf:=[.d (kI .i64) x.V,.d (kI .i64) x.L]
theorem pt30{x:am}:Part (L30 x) (kR ai) x:=by
 have h:Part _ (kR ai) x:=(lfS (lfC lf1 (lfC lf1 lfN)))
 exact h
theorem ze82:zeroIs PP 82 [(.slice none 0 0),(.int .i64 0)]:=by unfold zeroIs;kernel_rfl
theorem pl82:places PP 82=some [(0,1),(1,1)]:=by kernel_rfl
theorem po82_0:∀q f,fj[q]?=some f->([(0,1),(1,1)]:List (Nat×Nat))[q]?=some (offF fj q,f.d.sz):=fun q f h=>by
 unfold fj at h
 match q,h with
 |0,h=>cases h;rfl
 |1,h=>cases h;rfl
 |n+2,h=>simp at h
theorem z82:sizeIs PP 82 2:=by unfold sizeIs;kernel_rfl
theorem o82_0:fofs PP 82 0=some 0:=by kernel_rfl
instance jo82_0:FofI PP 82 0 0:=⟨o82_0⟩
theorem o127_1:fofs PP 127 1=some 6:=by kernel_rfl
instance jo127_1:FofI PP 127 1 6:=⟨o127_1⟩
theorem o82_1:fofs PP 82 1=some 1:=by kernel_rfl
instance jo82_1:FofI PP 82 1 1:=⟨o82_1⟩
theorem o127_0:fofs PP 127 0=some 0:=by kernel_rfl
instance jo127_0:FofI PP 127 0 0:=⟨o127_0⟩
theorem t82:tinf PP 82=some (true,2):=by kernel_rfl
theorem o43_0:fofs PP 43 0=some 0:=by kernel_rfl
instance mA:FlI PP 43 0 cy (kR aj) cY.L:=⟨o43_0,rfl⟩
theorem o43_2:fofs PP 43 2=some 3:=by kernel_rfl
instance mB:FlI PP 43 2 cy (kI .i64) cY.O:=⟨o43_2,rfl⟩
theorem o43_1:fofs PP 43 1=some 2:=by kernel_rfl
instance mC:FlI PP 43 1 cy (kR aL) cY.T:=⟨o43_1,rfl⟩
theorem o43_3:fofs PP 43 3=some 4:=by kernel_rfl
instance mD:FlI PP 43 3 cy (kI .i64) cY.Fuel:=⟨o43_3,rfl⟩
theorem ff82_0:ffld PP 82 0=some (0,49):=by kernel_rfl
theorem t43:tinf PP 43=some (true,5):=by kernel_rfl
instance jt43:TinI PP 43 (kR cy):=⟨t43⟩
theorem eqk73:EqK PP (kR ao) 73 2:=eqKR (fs:=[(true,0,3),(true,1,3),(true,2,3)]) (by kernel_rfl) (by kernel_rfl) (.cons rfl t3 (eqKI u3) (.cons rfl t3 (eqKI u3) (.cons rfl t3 (eqKI u3) .nil))) (fun x y=>by cases x;cases y;simp[ap.mk.injEq,Bool.decide_and])
theorem eg73:PP.eqGuardType PP.depth 73=false:=by kernel_rfl
theorem b34:bodied PP 34:=by unfold bodied;kernel_rfl
theorem b35:bodied PP 35:=by unfold bodied;kernel_rfl
theorem eqk88:EqK PP (kR ak) 88 2:=eqKR (fs:=[(true,0,4),(true,1,3),(true,2,3)]) (by kernel_rfl) (by kernel_rfl) (.cons rfl t4 (eqKB u4) (.cons rfl t3 (eqKI u3) (.cons rfl t3 (eqKI u3) .nil))) (fun x y=>by cases x;cases y;simp[al.mk.injEq,Bool.decide_and])
theorem eg88:PP.eqGuardType PP.depth 88=false:=by kernel_rfl
instance jo25_1:FofI PP 25 1 1:=⟨o25_1⟩
theorem pl43:places PP 43=some [(0,2),(2,1),(3,1),(4,1)]:=by kernel_rfl
theorem po43:∀q f,cy[q]?=some f->([(0,2),(2,1),(3,1),(4,1)]:List (Nat×Nat))[q]?=some (offF cy q,f.d.sz):=fun q f h=>by
 unfold cy at h
 match q,h with
 |0,h=>cases h;rfl
 |1,h=>cases h;rfl
 |2,h=>cases h;rfl
 |3,h=>cases h;rfl
 |n+4,h=>simp at h
theorem ze43:zeroIs PP 43 [(.slice none 0 0),(.slice none 0 0),(.slice none 0 0),(.int .i64 0),(.int .i64 0)]:=by unfold zeroIs;kernel_rfl
theorem b11:bodied PP 11:=by unfold bodied;kernel_rfl
theorem cZ.ok{a0:ab} {r:ab}(h:cZ.f a0=some r):FnA PP 6 [(kR aj).sig a0] ((kR aj).sig r):=by
 refine fnIntro Tryz.func6 u (by kernel_rfl) fun H0 w0=>?_
 unfold cZ.f at h
 refine wSeq<|rx (c1<|cw (oAlloc (id:=2) (ls:=[.d (kN Str) [],.d (kL (kI .u32)) []]) ze25 (fun g=>⟨[(.slice none 0 0)],_,u,zN g.H,⟨[(.slice none 0 0)],_,u,zL g.H,u⟩⟩)) tv<|.nil)<|pSeq<|wSeq ?_
 obtain⟨hc1,h⟩:=ib h
 refine rx (c4<|c1<|cp (oMin tm (cI (by decide))) (s1 u)<|cp (oCutHi u23 z70 hc1.1 hc1.2 tm tm) (s2 u u)<|cp (oBuild (fs:=fP) (u:=⟨[],lCut a0.Up 0 (if 10<(a0.Up.length:Int) then 10 else (a0.Up.length:Int))⟩) u ze25 pl25 po25_0 (.ze (zc:=[(.slice none 0 0)]) zN (.op (zc:=[(.slice none 0 0)]) tm u .nil))) (s1 u)<|cw (oAlloc (id:=3) (ls:=[.d (kN Str) [],.d (kL (kI .u32)) []]) ze25 (fun g=>⟨[(.slice none 0 0)],_,u,zN g.H,⟨[(.slice none 0 0)],_,u,zL g.H,u⟩⟩)) tv<|cwn (oStA (n:=0) (fs:=fP) u u z25 tm tm) (s2 u u)<|.nil)<|pSeq<|wSeq<|wSeq ?_
 obtain⟨hc2,h⟩:=ib h
 refine rx (c4<|c1<|cp (oMin tm (cI (by decide))) (s1 u)<|cp (oCutHi u22 z9 hc2.1 hc2.2 tm tm) (s2 u u)<|c2<|.nil)<|pSeq<|wNilL kS 9 5150 (n:=0) (k:=0) u u u ?_
 obtain⟨o1,h,hk1⟩:=bd h
 refine wK1 (fun x13=>x13=o1) (fun x13=>[(2,.p 2 0),(3,.p 3 0)]) (fun x13=>[.row 5150 9 kS x13,.box 3 25 [.v 5150,.d (kL (kI .u32)) (lCut a0.Up 0 (if 10<(a0.Up.length:Int) then 10 else (a0.Up.length:Int)))],.box 2 25 [.d (kN Str) [],.d (kL (kI .u32)) []]]) ?_ ?_
 ·refine wBlock (wLoop ?_)
  refine lW (pc2 o1 (fun v11 v12=>[(2,.p 2 0),(3,.p 3 0),(20,.d ((kL kS).sig (lCut a0.Names 0 (if 10<(a0.Names.length:Int) then 10 else (a0.Names.length:Int))))),(21,.d (ki.sig ((lCut a0.Names 0 (if 10<(a0.Names.length:Int) then 10 else (a0.Names.length:Int))).length:Int))),(22,.d (ki.sig v12))]) (fun v11 v12=>[.row 5150 9 kS v11,.box 3 25 [.v 5150,.d (kL (kI .u32)) (lCut a0.Up 0 (if 10<(a0.Up.length:Int) then 10 else (a0.Up.length:Int)))],.box 2 25 [.d (kN Str) [],.d (kL (kI .u32)) []]]) (cZ.l0.partial_correctness a0) ?_ _ _ h) ⟨u,u,u,u,u,tv⟩ u
  clear h
  intro f' ih v11 v12 h
  refine wSeq<|rx (c1<|.nil)<|pSeq<|wSeq ?_
  obtain⟨hp14,h⟩|⟨hp14,h⟩:=ik h
  ·refine wCT hp14.1 tm (s1 u)<|wSkip<|pSeq<|wSeq<|wBlock<|wSeq ?_
   obtain⟨y15,hy15,h⟩:=bd h
   refine rx (cp (oIdx u22 z9 hy15 tm tm) (s2 u u)<|c2<|.nil)<|pSeq ?_
   obtain⟨hc16,h⟩:=ib h
   obtain⟨hc17,h⟩:=ib h
   exact rdx hm (c1<|cr (oLdN (n:=1) (k:=0) u u u t22 tm) (s1 u)<|c2<|cp (oLenS u9 tm) (s1 u)<|cp (oMin tm (cI (by decide))) (s1 u)<|cp (oCutSH u9 hc16.1 hc16.2 tm tm) (s2 u u)<|cp (oLit (d:=kS) el22 (by decide) u u u (e1 tm e0)) (s1 u)<|cw (oApp (n:=0) (id':=34) el22 (by decide) u (by decide) hc17 tm tm) (s2 u u)<|c1<|cwn (oStN (n:=1) (m:=0) (k:=0) u u u u z22 u tm tm) (s2 u u)<|.nil)<|pBlkN<|pSeq<|rx (c2<|.nil)<|pSub (Γ':=[(2,.p 2 0),(3,.p 3 0),(20,.d ((kL kS).sig (lCut a0.Names 0 (if 10<(a0.Names.length:Int) then 10 else (a0.Names.length:Int))))),(21,.d (ki.sig ((lCut a0.Names 0 (if 10<(a0.Names.length:Int) then 10 else (a0.Names.length:Int))).length:Int))),(22,.d (ki.sig (IntKind.i64.wrap (v12+1))))]) (sb u)<|pRen 34 5150 u<|pLoop (lW (ih _ _ h) ⟨u,u,u,u,u,tv⟩ u)
  ·exact wCF hp14.1 tm (s1 u)<|wExit<|pThenX<|pThenX<|pBlkX<|pJ1 _ (so h) (sb u) u
 ·rintro x13 rfl
  replace h:=hk1
  refine pSeq<|wSeq<|wFrzR (n:=0) (id:=5150) [] u u tv<|rx (cr (oLdA (n:=0) (fs:=aj) (u:=⟨x13,lCut a0.Up 0 (if 10<(a0.Up.length:Int) then 10 else (a0.Up.length:Int))⟩) u ⟨u,u,tv⟩ t25 tm) (s1 u)<|cwn (oStA (n:=1) (fs:=aj) u u z25 tm tm) (s2 u u)<|.nil)<|pSeq<|wRet ?_
  obtain rfl:=so h
  exact pR1 (.inl u) u (.box (n:=1) (fs:=aj) (u:=⟨x13,lCut a0.Up 0 (if 10<(a0.Up.length:Int) then 10 else (a0.Up.length:Int))⟩) u u ⟨u,u,tv⟩ t25<|.nil)
theorem cM.ok{a0:aZ} {r:aZ}(h:cM.f a0=some r):FnA PP 7 [(kR aL).sig a0] ((kR aL).sig r):=by
 refine fnIntro Tryz.func7 u (by kernel_rfl) fun H0 w0=>?_
 unfold cM.f at h
 refine wSeq<|rx (c1<|cw (oAlloc (id:=2) (ls:=[.d (kN aE) []]) ze28 (fun g=>⟨[(.slice none 0 0)],_,u,zN g.H,u⟩)) tv<|.nil)<|pSeq<|wSeq<|rx (cw (oAlloc (id:=3) (ls:=[.d (kN aE) []]) ze28 (fun g=>⟨[(.slice none 0 0)],_,u,zN g.H,u⟩)) tv<|.nil)<|pSeq<|wSeq<|wSeq ?_
 obtain⟨hc1,h⟩:=ib h
 refine rx (c4<|c1<|cp (oMin tm (cI (by decide))) (s1 u)<|cp (oCutHi u26 z58 hc1.1 hc1.2 tm tm) (s2 u u)<|c2<|.nil)<|pSeq<|wNilL (kR aJ) 58 5150 (n:=0) (k:=0) u u u ?_
 obtain⟨o1,h,hk1⟩:=bd h
 refine wK1 (fun x16=>x16=o1) (fun x16=>[(2,.p 2 0),(3,.p 3 0)]) (fun x16=>[.row 5150 58 (kR aJ) x16,.box 3 28 [.v 5150],.box 2 28 [.d (kN aE) []]]) ?_ ?_
 ·refine wBlock (wLoop ?_)
  refine lW (pc2 o1 (fun v14 v15=>[(2,.p 2 0),(3,.p 3 0),(12,.d ((kL (kR aJ)).sig (lCut a0.Rows 0 (if 15<(a0.Rows.length:Int) then 15 else (a0.Rows.length:Int))))),(13,.d (ki.sig ((lCut a0.Rows 0 (if 15<(a0.Rows.length:Int) then 15 else (a0.Rows.length:Int))).length:Int))),(14,.d (ki.sig v15))]) (fun v14 v15=>[.row 5150 58 (kR aJ) v14,.box 3 28 [.v 5150],.box 2 28 [.d (kN aE) []]]) (cM.l0.partial_correctness a0) ?_ _ _ h) ⟨u,u,u,u,u,tv⟩ u
  clear h
  intro f' ih v14 v15 h
  refine wSeq<|rx (c1<|.nil)<|pSeq<|wSeq ?_
  obtain⟨hp17,h⟩|⟨hp17,h⟩:=ik h
  ·refine wCT hp17.1 tm (s1 u)<|wSkip<|pSeq<|wSeq<|wBlock<|wSeq ?_
   obtain⟨y18,hy18,h⟩:=bd h
   refine rx (cp (oIdx u26 z58 hy18 tm tm) (s2 u u)<|c1<|cw (oAlloc (id:=5) (ls:=Z58) ze58 zl58) tv<|cwn (oStA (n:=0) (fs:=aJ) u u z58 tm tm) (s2 u u)<|.nil)<|pSeq ?_
   obtain⟨hc19,h⟩:=ib h
   obtain⟨hc20,h⟩:=ib h
   obtain⟨hc21,h⟩:=ib h
   obtain⟨hc22,h⟩:=ib h
   exact rdx hm (c1<|cr (oLdN (n:=2) (k:=0) u u u t26 tm) (s1 u)<|c1<|cr (oLdB (n:=0) (k:=0) u u u t56 tm) (s1 u)<|c1<|cr (oLdB (n:=0) (k:=0) u u u t56 tm) (s1 u)<|c1<|cp (oMin tm (cI (by decide))) (s1 u)<|cp (oCutHi u56 z3 hc19.1 hc19.2 tm tm) (s2 u u)<|c1<|cr (oLdB (n:=0) (k:=1) u u u t56 tm) (s1 u)<|c1<|cr (oLdB (n:=0) (k:=1) u u u t56 tm) (s1 u)<|c1<|cp (oMin tm (cI (by decide))) (s1 u)<|cp (oCutHi u56 z3 hc20.1 hc20.2 tm tm) (s2 u u)<|c1<|cr (oLdB (n:=0) (k:=2) u u u t56 tm) (s1 u)<|c1<|cr (oLdB (n:=0) (k:=2) u u u t56 tm) (s1 u)<|c1<|cp (oMin tm (cI (by decide))) (s1 u)<|cp (oCutHi u56 z3 hc21.1 hc21.2 tm tm) (s2 u u)<|cp (oBuild (fs:=aJ) (u:=⟨lCut y18.May 0 (if 45<(y18.May.length:Int) then 45 else (y18.May.length:Int)),lCut y18.Res 0 (if 45<(y18.Res.length:Int) then 45 else (y18.Res.length:Int)),lCut y18.Pc 0 (if 45<(y18.Pc.length:Int) then 45 else (y18.Pc.length:Int))⟩) u ze58 pl58 po58 (.op (zc:=[(.slice none 0 0)]) tm u (.op (zc:=[(.slice none 0 0)]) tm u (.op (zc:=[(.slice none 0 0)]) tm u .nil)))) (s3 u u u)<|cp (oLit (d:=(kR aJ)) el26 (by decide) u u u (e1 tm e0)) (s1 u)<|cw (oApp (n:=1) (id':=43) el26 (by decide) u (by decide) hc22 tm tm) (s2 u u)<|c1<|cwn (oStN (n:=2) (m:=1) (k:=0) u u u u z26 u tm tm) (s2 u u)<|.nil)<|pBlkN<|pSeq<|rx (c2<|.nil)<|pDrop (.cons _ (.cons_cons _ (.cons_cons _ (.cons_cons _ .slnil))))<|pSub (Γ':=[(2,.p 2 0),(3,.p 3 0),(12,.d ((kL (kR aJ)).sig (lCut a0.Rows 0 (if 15<(a0.Rows.length:Int) then 15 else (a0.Rows.length:Int))))),(13,.d (ki.sig ((lCut a0.Rows 0 (if 15<(a0.Rows.length:Int) then 15 else (a0.Rows.length:Int))).length:Int))),(14,.d (ki.sig (IntKind.i64.wrap (v15+1))))]) (sb u)<|pRen 43 5150 u<|pLoop (lW (ih _ _ h) ⟨u,u,u,u,u,tv⟩ u)
  ·exact wCF hp17.1 tm (s1 u)<|wExit<|pThenX<|pThenX<|pBlkX<|pJ1 _ (so h) (sb u) u
 ·rintro x16 rfl
  replace h:=hk1
  refine pSeq<|wSeq<|wFrzR (n:=0) (id:=5150) [] u u tv<|rx (cr (oLdA (n:=0) (fs:=aL) (u:=⟨x16⟩) u ⟨u,tv⟩ t28 tm) (s1 u)<|cwn (oStA (n:=1) (fs:=aL) u u z28 tm tm) (s2 u u)<|.nil)<|pSeq<|wRet ?_
  obtain rfl:=so h
  exact pR1 (.inl u) u (.box (n:=1) (fs:=aL) (u:=⟨x16⟩) u u ⟨u,tv⟩ t28<|.nil)
theorem eQ.ok{a0:aa} {r:aa}(h:eQ.f a0=some r):FnA PP 8 [(kR ae).sig a0] ((kR ae).sig r):=by
 refine fnIntro Tryz.func8 u (by kernel_rfl) fun H0 w0=>?_
 unfold eQ.f at h
 refine wSeq<|rx (cw (oBoxP (id:=1) (d:=(kR ae)) (ls:=[.d ki a0.Pc.V,.d ki a0.Pc.L,.d (kL (kR ao)) a0.Code,.d (kL (kR ai)) a0.Mem,.d (kL (kR ak)) a0.Stack,.d (kL (kR ai)) a0.Out]) pt35 u tm) (s1 u)<|cw (oAlloc (id:=2) (ls:=Z35) ze35 zl35) tv<|.nil)<|pSeq<|wSeq ?_
 obtain⟨hc1,h⟩:=ib h
 obtain⟨hc2,h⟩:=ib h
 obtain⟨hc3,h⟩:=ib h
 obtain⟨hc4,h⟩:=ib h
 refine rdx hm (c1<|cr (oLdB (n:=1) (k:=2) u u u t31 tm) (s1 u)<|c1<|cr (oLdB (n:=1) (k:=2) u u u t31 tm) (s1 u)<|c1<|cp (oMin tm (cI (by decide))) (s1 u)<|cp (oCutHi u31 z73 hc1.1 hc1.2 tm tm) (s2 u u)<|c1<|cr (oLdB (n:=1) (k:=3) u u u t32 tm) (s1 u)<|c1<|cr (oLdB (n:=1) (k:=3) u u u t32 tm) (s1 u)<|c1<|cp (oMin tm (cI (by decide))) (s1 u)<|cp (oCutHi u32 z30 hc2.1 hc2.2 tm tm) (s2 u u)<|c1<|cr (oLdB (n:=1) (k:=4) u u u t33 tm) (s1 u)<|c1<|cr (oLdB (n:=1) (k:=4) u u u t33 tm) (s1 u)<|c1<|cp (oMin tm (cI (by decide))) (s1 u)<|cp (oCutHi u33 z88 hc3.1 hc3.2 tm tm) (s2 u u)<|c1<|cr (oLdB (n:=1) (k:=5) u u u t32 tm) (s1 u)<|c1<|cr (oLdB (n:=1) (k:=5) u u u t32 tm) (s1 u)<|c1<|cp (oMin tm (cI (by decide))) (s1 u)<|cp (oCutHi u32 z30 hc4.1 hc4.2 tm tm) (s2 u u)<|c1<|cwn (oSt (n:=1) (k:=2) u u u u z31 tm tm) (s2 u u)<|c1<|cwn (oSt (n:=1) (k:=3) u u u u z32 tm tm) (s2 u u)<|c1<|cwn (oSt (n:=1) (k:=4) u u u u z33 tm tm) (s2 u u)<|c1<|cwn (oSt (n:=1) (k:=5) u u u u z32 tm tm) (s2 u u)<|.nil)<|pSeq<|wSeq<|rx (cr (oLdP (n:=1) (k:=0) (m:=6) (d:=(kR ae)) (u:=(⟨a0.Pc,lCut a0.Code 0 (if 15<(a0.Code.length:Int) then 15 else (a0.Code.length:Int)),lCut a0.Mem 0 (if 15<(a0.Mem.length:Int) then 15 else (a0.Mem.length:Int)),lCut a0.Stack 0 (if 15<(a0.Stack.length:Int) then 15 else (a0.Stack.length:Int)),lCut a0.Out 0 (if 15<(a0.Out.length:Int) then 15 else (a0.Out.length:Int))⟩:aa)) pt35 u u u t35 tm) (s1 u)<|cwn (oStP (n:=0) (k:=0) (m:=6) (d:=(kR ae)) (u:=(⟨a0.Pc,lCut a0.Code 0 (if 15<(a0.Code.length:Int) then 15 else (a0.Code.length:Int)),lCut a0.Mem 0 (if 15<(a0.Mem.length:Int) then 15 else (a0.Mem.length:Int)),lCut a0.Stack 0 (if 15<(a0.Stack.length:Int) then 15 else (a0.Stack.length:Int)),lCut a0.Out 0 (if 15<(a0.Out.length:Int) then 15 else (a0.Out.length:Int))⟩:aa)) pt35 u u u z35 tm tm) (s2 u u)<|.nil)<|pSeq<|wRet ?_
 obtain rfl:=so h
 exact pR1 (.inl u) u (.boxP (n:=0) (d:=(kR ae)) (u:=(⟨a0.Pc,lCut a0.Code 0 (if 15<(a0.Code.length:Int) then 15 else (a0.Code.length:Int)),lCut a0.Mem 0 (if 15<(a0.Mem.length:Int) then 15 else (a0.Mem.length:Int)),lCut a0.Stack 0 (if 15<(a0.Stack.length:Int) then 15 else (a0.Stack.length:Int)),lCut a0.Out 0 (if 15<(a0.Out.length:Int) then 15 else (a0.Out.length:Int))⟩:aa)) u u pt35 u t35<|.nil)
theorem b8.ok{a0:Str} {r:Bool}(h:b8.f a0=some r):FnA PP 134 [kS.sig a0] (kB.sig r):=by
 refine fnIntro Tryz.func134 u (by kernel_rfl) fun H0 w0=>?_
 unfold b8.f at h
 refine wSeq<|rx (c1<|.nil)<|pSeq<|wSeq<|wSeq<|rx (c1<|cp (oLenS u9 tm) (s1 u)<|c1<|.nil)<|pSeq ?_
 obtain⟨o1,h,hk1⟩:=bd h
 refine wK0 (.inr ()=o1) ([(0,.d (kS.sig a0))]) ([]) ?_ ?_
 ·refine wBlock (wLoop ?_)
  refine lW (pc1 o1 (fun v19=>[(0,.d (kS.sig a0)),(5,.d (ki.sig (a0.length:Int))),(6,.d (ki.sig v19))]) (fun v19=>[]) (b8.l0.partial_correctness a0) ?_ _ h) ⟨u,u,u,tv⟩ u
  clear h
  intro f' ih v19 h
  refine wSeq<|rx (c1<|.nil)<|pSeq<|wSeq ?_
  obtain⟨hp20,h⟩|⟨hp20,h⟩:=ik h
  ·refine wCT hp20.1 tm (s1 u)<|wSkip<|pSeq<|wSeq<|wBlock<|wSeq<|rx (c2<|.nil)<|pSeq ?_
   obtain⟨o2,h,hk2⟩:=bd h
   refine wJ1 (fun x24=>x24=o2) (fun x24=>[(0,.d (kS.sig a0)),(5,.d (ki.sig (a0.length:Int))),(6,.d (ki.sig v19)),(18,.d (kB.sig x24))]) (fun x24=>[]) ?_ ?_
   ·obtain⟨hc25,h⟩:=ib h
    obtain⟨hp26,h⟩|⟨hp26,h⟩:=ik h
    ·exact rx (c2<|cp (oIdxS u9 hc25.1 hc25.2 tm tm) (s2 u u)<|c6<|c1<|.nil)<|pJ1 _ (so h) (sb u) u
    ·obtain⟨hc27,h⟩:=ib h
     exact rx (c2<|cp (oIdxS u9 hc25.1 hc25.2 tm tm) (s2 u u)<|c4<|cgB (dF hp26.1) u u (oIdxS u9 hc27.1 hc27.2 tm tm) (s2 u u)<|c2<|.nil)<|pJ1 _ (so h) (sb u) u
   ·rintro x24 rfl
    replace h:=hk2
    obtain⟨hp28,h⟩|⟨hp28,h⟩:=ik h
    ·refine wBT hp28.1 tm (s1 u)<|wSeq<|rx (c1<|.nil)<|pSeq<|wRet<|pBlkR<|pThenR<|pThenR<|pBlkR<|pThenR ?_
     obtain rfl:=so h
     replace h:=hk1
     refine pThenR ?_
     obtain rfl:=so h
     exact pR1 (.inl u) u (.tmp u<|.nil)
    ·exact wBF hp28.1 tm (s1 u)<|wSkip<|pBlkN<|pSeq<|rx (c2<|.nil)<|pLoop (lW (ih _ h) ⟨u,u,u,tv⟩ u)
  ·exact wCF hp20.1 tm (s1 u)<|wExit<|pThenX<|pThenX<|pBlkX<|pJ0 (so h) (sb u) u
 ·rintro rfl
  replace h:=hk1
  refine pSeq ?_
  obtain⟨o1,h,hk1⟩:=bd h
  refine wJ1 (fun x30=>x30=o1) (fun x30=>[(2,.d (kB.sig x30))]) (fun x30=>[]) ?_ ?_
  ·obtain⟨hp31,h⟩|⟨hp31,h⟩:=ik h
   ·exact rx (c1<|cp (oSNe u tm (cS (by decide))) (s1 u)<|c6<|.nil)<|pJ1 _ (so h) (sb u) u
   ·exact rx (c1<|cp (oSNe u tm (cS (by decide))) (s1 u)<|c2<|cgB (nt hp31.1) u u (oLenS u9 tm) (s1 u)<|c3<|.nil)<|pJ1 _ (so h) (sb u) u
  ·rintro x30 rfl
   replace h:=hk1
   refine wRet ?_
   obtain rfl:=so h
   exact pR1 (.inl u) u (.tmp u<|.nil)
theorem aV.ok{a0:List Str} {a1:Str} {r:Int}(h:aV.f a0 a1=some r):FnA PP 162 [(kL kS).sig a0,kS.sig a1] (ki.sig r):=by
 refine fnIntro Tryz.func162 u (by kernel_rfl) fun H0 w0=>?_
 unfold aV.f at h
 refine wSeq<|rx (c1<|.nil)<|pSeq<|wSeq<|wSeq<|rx (c3<|.nil)<|pSeq ?_
 obtain⟨o1,h,hk1⟩:=bd h
 refine wK0 (.inr ()=o1) ([]) ([]) ?_ ?_
 ·refine wBlock (wLoop ?_)
  refine lW (pc1 o1 (fun v7=>[(0,.d ((kL kS).sig a0)),(1,.d (kS.sig a1)),(7,.d (ki.sig (a0.length:Int))),(8,.d (ki.sig v7))]) (fun v7=>[]) (aV.l0.partial_correctness a0 a1) ?_ _ h) ⟨u,u,u,u,tv⟩ u
  clear h
  intro f' ih v7 h
  refine wSeq<|rx (c1<|.nil)<|pSeq<|wSeq ?_
  obtain⟨hp8,h⟩|⟨hp8,h⟩:=ik h
  ·refine wCT hp8.1 tm (s1 u)<|wSkip<|pSeq<|wSeq<|wBlock<|wSeq<|rx (c2<|.nil)<|pSeq<|wSeq ?_
   obtain⟨y9,hy9,h⟩:=bd h
   refine rx (c3<|cp (oIdx u22 z9 hy9 tm tm) (s2 u u)<|c1<|cp (oSEq u tm tm) (s2 u u)<|.nil)<|pSeq ?_
   obtain⟨hp10,h⟩|⟨hp10,h⟩:=ik h
   ·refine wCT hp10.1 tm (s1 u)<|wSeq<|rx (c2<|.nil)<|pSeq<|wRet<|pBlkR<|pThenR<|pThenR<|pBlkR<|pThenR ?_
    obtain rfl:=so h
    replace h:=hk1
    refine pThenR ?_
    obtain rfl:=so h
    exact pR1 (.inl u) u (.tmp u<|.nil)
   ·exact wCF hp10.1 tm (s1 u)<|wSkip<|pBlkN<|pSeq<|rx (c2<|.nil)<|pLoop (lW (ih _ h) ⟨u,u,u,u,tv⟩ u)
  ·exact wCF hp8.1 tm (s1 u)<|wExit<|pThenX<|pThenX<|pBlkX<|pJ0 (so h) tv u
 ·rintro rfl
  replace h:=hk1
  refine pSeq<|wSeq<|rx (c1<|.nil)<|pSeq<|wRet ?_
  obtain rfl:=so h
  exact pR1 (.inl u) u (.tmp u<|.nil)
theorem bR.ok{a0:List Str} {a1:Str} {r:Bool}(h:bR.f a0 a1=some r):FnA PP 135 [(kL kS).sig a0,kS.sig a1] (kB.sig r):=by
 refine fnIntro Tryz.func135 u (by kernel_rfl) fun H0 w0=>?_
 unfold bR.f at h
 refine wSeq<|rx (c1<|.nil)<|pSeq<|wSeq ?_
 obtain⟨y1,hy1,h⟩:=bd h
 refine rx (c2<|cC (aV.ok hy1)<|c2<|.nil)<|pSeq<|wRet ?_
 obtain rfl:=so h
 exact pR1 (.inl u) u (.tmp u<|.nil)
theorem cF.ok{a0:ab} {r:Bool}(h:cF.f a0=some r):FnA PP 107 [(kR aj).sig a0] (kB.sig r):=by
 refine fnIntro Tryz.func107 u (by kernel_rfl) fun H0 w0=>?_
 unfold cF.f at h
 refine wSeq<|rx (c2<|.nil)<|pSeq<|wSeq<|rx (c4<|.nil)<|pSeq<|wSeq ?_
 obtain⟨o1,h,hk1⟩:=bd h
 refine wJ1 (fun x3=>x3=o1) (fun x3=>[(1,.d (sP (kR aj) a0)),(3,.d (ki.sig (a0.Up.length:Int))),(21,.d (kB.sig x3))]) (fun x3=>[]) ?_ ?_
 ·obtain⟨hp4,h⟩|⟨hp4,h⟩:=ik h
  ·exact rx (c12<|c1<|.nil)<|pJ1 _ (so h) (sb u) u
  ·obtain⟨hp5,h⟩|⟨hp5,h⟩:=ik h
   ·exact rx (c12<|c1<|.nil)<|pJ1 _ (so h) (sb u) u
   ·exact rx (c12<|c1<|.nil)<|pJ1 _ (so h) (sb u) u
 ·rintro x3 rfl
  replace h:=hk1
  obtain⟨hp6,h⟩|⟨hp6,h⟩:=ik h
  ·refine wBT hp6.1 tm (s1 u)<|wSeq<|rx (c1<|.nil)<|pSeq<|wRet<|pThenR ?_
   obtain rfl:=so h
   exact pR1 (.inl u) u (.tmp u<|.nil)
  ·refine wBF hp6.1 tm (s1 u)<|wSkip<|pSeq<|wSeq<|wSeq<|rx (c4<|.nil)<|pSeq ?_
   obtain⟨o1,h,hk1⟩:=bd h
   refine wK0 (.inr ()=o1) ([]) ([]) ?_ ?_
   ·refine wBlock (wLoop ?_)
    refine lW (pc1 o1 (fun v43=>[(1,.d (sP (kR aj) a0)),(3,.d (ki.sig (a0.Up.length:Int))),(23,.d ((kL kS).sig a0.Names)),(24,.d (ki.sig (a0.Names.length:Int))),(25,.d (ki.sig v43))]) (fun v43=>[]) (cF.l0.partial_correctness a0) ?_ _ h) ⟨u,u,u,u,u,tv⟩ u
    clear h
    intro f' ih v43 h
    refine wSeq<|rx (c1<|.nil)<|pSeq<|wSeq ?_
    obtain⟨hp44,h⟩|⟨hp44,h⟩:=ik h
    ·refine wCT hp44.1 tm (s1 u)<|wSkip<|pSeq<|wSeq<|wBlock<|wSeq ?_
     obtain⟨y45,hy45,h⟩:=bd h
     refine rx (c1<|cp (oIdx u22 z9 hy45 tm tm) (s2 u u)<|c3<|.nil)<|pSeq ?_
     obtain⟨o2,h,hk2⟩:=bd h
     refine wJ1 (fun x53=>x53=o2) (fun x53=>[(1,.d (sP (kR aj) a0)),(3,.d (ki.sig (a0.Up.length:Int))),(23,.d ((kL kS).sig a0.Names)),(24,.d (ki.sig (a0.Names.length:Int))),(25,.d (ki.sig v43)),(50,.d (kB.sig x53))]) (fun x53=>[]) ?_ ?_
     ·obtain⟨y54,hy54,h⟩:=bd h
      obtain⟨hp55,h⟩|⟨hp55,h⟩:=ik h
      ·exact rx (c1<|cC (b8.ok hy54)<|c12<|c6<|c1<|.nil)<|pJ1 _ (so h) (sb u) u
      ·obtain⟨hc56,h⟩:=ib h
       obtain⟨y57,hy57,h⟩:=bd h
       obtain⟨hp58,h⟩|⟨hp58,h⟩:=ik h
       ·exact rx (c1<|cC (b8.ok hy54)<|c4<|c1<|cgB (nb hp55.1) u u (oCutHi u22 z9 hc56.1 hc56.2 tm tm) (s2 u u)<|c1<|cgB (nb hp55.1) u u (oCall u (bR.ok hy57) b135 (oc tm (oc tm o0))) (s2 u u)<|c8<|c3<|.nil)<|pJ1 _ (so h) (sb u) u
       ·obtain⟨y59,hy59,h⟩:=bd h
        obtain⟨hc60,h⟩:=ib h
        exact rx (c1<|cC (b8.ok hy54)<|c4<|c1<|cgB (nb hp55.1) u u (oCutHi u22 z9 hc56.1 hc56.2 tm tm) (s2 u u)<|c1<|cgB (nb hp55.1) u u (oCall u (bR.ok hy57) b135 (oc tm (oc tm o0))) (s2 u u)<|c4<|c1<|cgB (nb hp58.1) u u (oIdx u23 z70 hy59 tm tm) (s2 u u)<|c2<|cgB (nb hp58.1) u u (oShr hc60 tm tm) (s2 u u)<|c2<|.nil)<|pJ1 _ (so h) (sb u) u
     ·rintro x53 rfl
      replace h:=hk2
      obtain⟨hp61,h⟩|⟨hp61,h⟩:=ik h
      ·refine wBT hp61.1 tm (s1 u)<|wSeq<|rx (c1<|.nil)<|pSeq<|wRet<|pBlkR<|pThenR<|pThenR<|pBlkR<|pThenR ?_
       obtain rfl:=so h
       replace h:=hk1
       refine pThenR ?_
       obtain rfl:=so h
       exact pR1 (.inl u) u (.tmp u<|.nil)
      ·exact wBF hp61.1 tm (s1 u)<|wSkip<|pBlkN<|pSeq<|rx (c2<|.nil)<|pLoop (lW (ih _ h) ⟨u,u,u,u,u,tv⟩ u)
    ·exact wCF hp44.1 tm (s1 u)<|wExit<|pThenX<|pThenX<|pBlkX<|pJ0 (so h) tv u
   ·rintro rfl
    replace h:=hk1
    refine pSeq<|wSeq<|rx (c1<|.nil)<|pSeq<|wRet ?_
    obtain rfl:=so h
    exact pR1 (.inl u) u (.tmp u<|.nil)
theorem aR.ok{a1:Int}:FnY PP 136 (fun z=>ki.sig z) (fun z=>ki.sig z) [sP ki a1] (fun {σ} a_y a_s=>aR.f a_y a_s a1):=by
 refine fnIntroY 7777 Tryz.func136 u (by kernel_rfl) (fun σ A a_y a_s a_r h bs H0 w0=>?_)
 replace h:aR.f a_y a_s a1=some a_r:=h
 unfold aR.f at h
 refine wSeq<|rx (c2<|.nil)<|pSeq ?_
 obtain⟨o1,h,hk1⟩:=bd h
 refine wK1 (fun x29=>.inr x29=o1) (fun x29=>[]) (fun x29=>[.abs 7777 A x29]) ?_ ?_
 ·refine wBlock (wLoop ?_)
  refine lW (pc2 o1 (fun v27 v28=>[(0,.d (sYield PP A a_y (fun z=>ki.sig z) (fun z=>ki.sig z))),(1,.d (sP ki a1)),(5,.d (ki.sig a1)),(6,.d (ki.sig v28))]) (fun v27 v28=>[.abs 7777 A v27]) (aR.l2.partial_correctness a_y a1) ?_ _ _ h) ⟨u,u,u,u,tv⟩ u
  clear h
  intro f' ih v27 v28 h
  refine wSeq<|rx (c1<|.nil)<|pSeq<|wSeq ?_
  obtain⟨hp30,h⟩|⟨hp30,h⟩:=ik h
  ·refine wCT hp30.1 tm (s1 u)<|wSkip<|pSeq<|wSeq<|wBlock<|wSeq<|rx (c2<|.nil)<|pSeq<|wSeq<|rx (c2<|.nil)<|pSeq ?_
   obtain⟨o2,h,hk2⟩:=bd h
   refine wK1 (fun x39=>.inr x39=o2) (fun x39=>[(0,.d (sYield PP A a_y (fun z=>ki.sig z) (fun z=>ki.sig z))),(1,.d (sP ki a1)),(5,.d (ki.sig a1)),(6,.d (ki.sig v28))]) (fun x39=>[.abs 7777 A x39]) ?_ ?_
   ·refine wBlock (wLoop ?_)
    refine lW (pc2 o2 (fun v37 v38=>[(0,.d (sYield PP A a_y (fun z=>ki.sig z) (fun z=>ki.sig z))),(1,.d (sP ki a1)),(3,.d (ki.sig v28)),(5,.d (ki.sig a1)),(6,.d (ki.sig v28)),(9,.d (ki.sig a1)),(10,.d (ki.sig v38))]) (fun v37 v38=>[.abs 7777 A v37]) (aR.l3.partial_correctness a_y a1 v28) ?_ _ _ h) ⟨u,u,u,u,u,u,u,tv⟩ u
    clear h
    intro f' ih v37 v38 h
    refine wSeq<|rx (c1<|.nil)<|pSeq<|wSeq ?_
    obtain⟨hp40,h⟩|⟨hp40,h⟩:=ik h
    ·refine wCT hp40.1 tm (s1 u)<|wSkip<|pSeq<|wSeq<|wBlock<|wSeq<|rx (c2<|.nil)<|pSeq<|wSeq ?_
     obtain⟨y41,hy41,h⟩:=bd h
     refine rx (c3<|cm (oYield (n:=0) (id':=16) u hy41 tm tm tm) (s3 u u u)<|c1<|.nil)<|pSeq ?_
     obtain⟨hp42,h⟩|⟨hp42,h⟩:=ik h
     ·refine wBT hp42.1 tm (s1 u)<|wRet<|pBlkR<|pThenR<|pThenR<|pBlkR<|pThenR ?_
      obtain rfl:=so h
      replace h:=hk2
      refine pBlkR<|pThenR<|pThenR<|pBlkR<|pThenR ?_
      obtain rfl:=so h
      replace h:=hk1
      obtain rfl:=so h
      exact pRY (n:=0) (.inl u) u u u
     ·exact wBF hp42.1 tm (s1 u)<|wSkip<|pBlkN<|pSeq<|rx (c2<|.nil)<|pSub (Γ':=[(0,.d (sYield PP A a_y (fun z=>ki.sig z) (fun z=>ki.sig z))),(1,.d (sP ki a1)),(3,.d (ki.sig v28)),(5,.d (ki.sig a1)),(6,.d (ki.sig v28)),(9,.d (ki.sig a1)),(10,.d (ki.sig (IntKind.i64.wrap (v38+1))))]) (sb u)<|pRen 16 7777 u<|pLoop (lW (ih _ _ h) ⟨u,u,u,u,u,u,u,tv⟩ u)
    ·exact wCF hp40.1 tm (s1 u)<|wExit<|pThenX<|pThenX<|pBlkX<|pJ1 _ (so h) (sb u) u
   ·rintro x39 rfl
    replace h:=hk2
    exact pBlkN<|pSeq<|rx (c2<|.nil)<|pLoop (lW (ih _ _ h) ⟨u,u,u,u,tv⟩ u)
  ·exact wCF hp30.1 tm (s1 u)<|wExit<|pThenX<|pThenX<|pBlkX<|pJ1 _ (so h) tv u
 ·rintro x29 rfl
  replace h:=hk1
  obtain rfl:=so h
  exact pRY (n:=0) (.inr u) u u u
theorem fc.ok{a0:Int} {r:Int}(h:fc.f a0=some r):FnA PP 109 [ki.sig a0] ((sClo 136 [sP ki r])):=by
 refine fnIntro Tryz.func109 u (by kernel_rfl) fun H0 w0=>?_
 unfold fc.f at h
 refine wSeq<|rx (c1<|cp (oAs cV) tv<|.nil)<|pSeq<|wSeq<|rx (cp (oMkC (caps:=[sP ki a0]) u (oc tm o0)) (s1 u)<|c1<|.nil)<|pSeq<|wRet ?_
 obtain rfl:=so h
 exact pR1 (.inl u) u (.tmp u<|.nil)
theorem dg.ok{a0:ab} {a1:Int} {a2:Int} {r:Bool}(h:dg.f a0 a1 a2=some r):FnA PP 127 [(kR aj).sig a0,ki.sig a1,ki.sig a2] (kB.sig r):=by
 refine fnIntro Tryz.func127 u (by kernel_rfl) fun H0 w0=>?_
 unfold dg.f at h
 refine wSeq<|rx (c2<|.nil)<|pSeq<|wSeq ?_
 obtain⟨y1,hy1,h⟩:=bd h
 obtain⟨hc2,h⟩:=ib h
 refine rx (c3<|cp (oIdx u23 z70 hy1 tm tm) (s2 u u)<|c2<|cp (oShr hc2 tm tm) (s2 u u)<|cp (oAnd tm (cI (by decide))) (s1 u)<|c2<|.nil)<|pSeq<|wRet ?_
 obtain rfl:=so h
 exact pR1 (.inl u) u (.tmp u<|.nil)
theorem dh.ok{a0:ab} {r:Bool}(h:dh.f a0=some r):FnA PP 108 [(kR aj).sig a0] (kB.sig r):=by
 refine fnIntro Tryz.func108 u (by kernel_rfl) fun H0 w0=>?_
 unfold dh.f at h
 refine wSeq<|rx (c1<|cw (oAlloc (id:=2) (ls:=[.d kB false]) ze4 (fun g=>⟨[(.bool false)],_,u,zB g.H,u⟩)) tv<|.nil)<|pSeq<|wSeq<|wSeq ?_
 obtain⟨y1,hy1,h⟩:=bd h
 refine rx (c3<|cC (fc.ok hy1)<|.nil)<|pSeq<|wBlock ?_
 obtain⟨y53,hy53,h⟩:=bd h
 refine wRange (Γ':=[(1,.d (sP (kR aj) a0)),(2,.p 2 0)]) (Γ2:=fun v27 v28=>[(1,.d (sP (kR aj) a0)),(2,.p 2 0),(3,.d (ki.sig v27)),(4,.d (ki.sig v28))]) (fun(v26:Unit)=>[.box 2 4 [.d kB false]]) (fun(v26:Unit) v27 v28=>[.box 2 4 [.d kB false]]) [Code.ret] [2] (dh.y0 a0) () u (aR.ok (a1:=y1)) b136 hy53 u ⟨u,u,tv⟩ u u u ?_ ?_ ?_
 ·intro X H0 w0 l pv v26 v27 v28
  exact wSeq<|rx (c1<|.nil)<|pSeq<|rx (c1<|.nil)<|qA ⟨u,u,u,u,tv⟩
 ·intro X H0 w0 l pv v26 v27 v28 o h
  unfold dh.y0 at h
  refine wBlock<|wSeq ?_
  obtain⟨o2,h,hk2⟩:=bd h
  refine wJ1 (fun x35=>x35=o2) (fun x35=>[(1,.d (sP (kR aj) a0)),(2,.p 2 0),(3,.d (ki.sig v27)),(4,.d (ki.sig v28)),(37,.d (kB.sig x35))]) (fun x35=>[.box 2 4 [.d kB false]]) ?_ ?_
  ·obtain⟨hp36,h⟩|⟨hp36,h⟩:=ik h
   ·obtain⟨y37,hy37,h⟩:=bd h
    obtain⟨hp38,h⟩|⟨hp38,h⟩:=ik h
    ·exact rx (c6<|c1<|cgB (dT hp36.1) u u (oCall u (dg.ok hy37) b127 (oc tm (oc tm (oc tm o0)))) (s3 u u u)<|c6<|c1<|csU u u<|csU u u<|csU u u<|csU u u<|c2<|csU u u<|csU u u<|csU u u<|csU u u<|c2<|.nil)<|pJ1 _ (so h) (sb u) u
    ·exact rx (c6<|c1<|cgB (dT hp36.1) u u (oCall u (dg.ok hy37) b127 (oc tm (oc tm (oc tm o0)))) (s3 u u u)<|c12<|c6<|c1<|.nil)<|pJ1 _ (so h) (sb u) u
   ·obtain⟨y39,hy39,h⟩:=bd h
    obtain⟨hp40,h⟩|⟨hp40,h⟩:=ik h
    ·obtain⟨y41,hy41,h⟩:=bd h
     exact rx (c12<|c6<|cgB (nt hp36.1) u u (oCall u (dg.ok hy39) b127 (oc tm (oc tm (oc tm o0)))) (s3 u u u)<|c4<|c1<|cgB hp40.1 u u (oCall u (dg.ok hy41) b127 (oc tm (oc tm (oc tm o0)))) (s3 u u u)<|c2<|.nil)<|pJ1 _ (so h) (sb u) u
    ·exact rx (c12<|c6<|cgB (nt hp36.1) u u (oCall u (dg.ok hy39) b127 (oc tm (oc tm (oc tm o0)))) (s3 u u u)<|c8<|.nil)<|pJ1 _ (so h) (sb u) u
  ·rintro x35 rfl
   replace h:=hk2
   obtain⟨hp42,h⟩|⟨hp42,h⟩:=ik h
   ·refine wBT hp42.1 tm (s1 u)<|wSeq<|rx (cwn (oSt (n:=0) (k:=0) u u u u z4 tm cB) (s1 u)<|.nil)<|pSeq<|wRet<|pThenR<|pBlkR ?_
    obtain rfl:=so h
    exact qR u
   ·refine wBF hp42.1 tm (s1 u)<|wSkip<|pSeq ?_
    obtain⟨o2,h,hk2⟩:=bd h
    refine wJ1 (fun x47=>x47=o2) (fun x47=>[(2,.p 2 0),(55,.d (kB.sig x47))]) (fun x47=>[.box 2 4 [.d kB false]]) ?_ ?_
    ·obtain⟨y48,hy48,h⟩:=bd h
     obtain⟨hp49,h⟩|⟨hp49,h⟩:=ik h
     ·obtain⟨y50,hy50,h⟩:=bd h
      obtain⟨y51,hy51,h⟩:=bd h
      exact rdx hm (c3<|cC (dg.ok hy48)<|c4<|cgB hp49.1 u u (oIdx u23 z70 hy50 tm tm) (s2 u u)<|c4<|cgB hp49.1 u u (oIdx u23 z70 hy51 tm tm) (s2 u u)<|c1<|cgB hp49.1 u u (oAndNot tm tm) (s2 u u)<|c2<|.nil)<|pJ1 _ (so h) (sb u) u
     ·exact rdx hm (c3<|cC (dg.ok hy48)<|c12<|c2<|.nil)<|pJ1 _ (so h) (sb u) u
    ·rintro x47 rfl
     replace h:=hk2
     obtain⟨hp52,h⟩|⟨hp52,h⟩:=ik h
     ·refine wBT hp52.1 tm (s1 u)<|wSeq<|rx (cwn (oSt (n:=0) (k:=0) u u u u z4 tm cB) (s1 u)<|.nil)<|pSeq<|wRet<|pBlkR ?_
      obtain rfl:=so h
      exact qR u
     ·refine wBF hp52.1 tm (s1 u)<|wSkip<|pBlkN ?_
      obtain rfl:=so h
      exact qN
 ·obtain⟨hj53,h⟩|⟨hj53,h⟩:=ic h
  ·refine jp0 hj53<|pBlkN<|pSeq<|wSeq<|rx (cwn (oSt (n:=0) (k:=0) u u u u z4 tm cB) (s1 u)<|.nil)<|pSeq<|wRet ?_
   obtain rfl:=so h
   exact pR1 (.inl u) u (.boxV (n:=0) u u t4<|.nil)
  ·obtain⟨hj53,h⟩|⟨hj53,h⟩:=ic h
   ·refine jpR hj53 u<|pBlkR<|pThenR ?_
    obtain rfl:=so h
    exact pR1 (.inl u) u (.boxV (n:=0) u u t4<|.nil)
   ·cases h
theorem az.ok{a0:List Int} {a1:Int->Option Bool} {r:Int}(h:az.f a0 a1=some r):FnA PP 27 [(kL (kI .u32)).sig a0,(sFun PP (rl1 (kI .u32) kB a1))] (ki.sig r):=by
 refine fnIntro Tryz.func27 u (by kernel_rfl) fun H0 w0=>?_
 unfold az.f at h
 refine wSeq<|rx (c1<|.nil)<|pSeq<|wSeq<|wSeq<|rx (c3<|.nil)<|pSeq ?_
 obtain⟨o1,h,hk1⟩:=bd h
 refine wK0 (.inr ()=o1) ([]) ([]) ?_ ?_
 ·refine wBlock (wLoop ?_)
  refine lW (pc1 o1 (fun v9=>[(0,.d ((kL (kI .u32)).sig a0)),(1,.d ((sFun PP (rl1 (kI .u32) kB a1)))),(7,.d (ki.sig (a0.length:Int))),(8,.d (ki.sig v9))]) (fun v9=>[]) (az.l0.partial_correctness a0 a1) ?_ _ h) ⟨u,u,u,u,tv⟩ u
  clear h
  intro f' ih v9 h
  refine wSeq<|rx (c1<|.nil)<|pSeq<|wSeq ?_
  obtain⟨hp10,h⟩|⟨hp10,h⟩:=ik h
  ·refine wCT hp10.1 tm (s1 u)<|wSkip<|pSeq<|wSeq<|wBlock<|wSeq<|rx (c2<|.nil)<|pSeq<|wSeq ?_
   obtain⟨y11,hy11,h⟩:=bd h
   obtain⟨y12,hy12,h⟩:=bd h
   refine rx (c3<|cp (oIdx u23 z70 hy11 tm tm) (s2 u u)<|c1<|cp (oCallV u (rl1i (f:=a1) hy12) tm (oc tm o0)) (s2 u u)<|.nil)<|pSeq ?_
   obtain⟨hp13,h⟩|⟨hp13,h⟩:=ik h
   ·refine wBT hp13.1 tm (s1 u)<|wSeq<|rx (c2<|.nil)<|pSeq<|wRet<|pBlkR<|pThenR<|pThenR<|pBlkR<|pThenR ?_
    obtain rfl:=so h
    replace h:=hk1
    refine pThenR ?_
    obtain rfl:=so h
    exact pR1 (.inl u) u (.tmp u<|.nil)
   ·exact wBF hp13.1 tm (s1 u)<|wSkip<|pBlkN<|pSeq<|rx (c2<|.nil)<|pLoop (lW (ih _ h) ⟨u,u,u,u,tv⟩ u)
  ·exact wCF hp10.1 tm (s1 u)<|wExit<|pThenX<|pThenX<|pBlkX<|pJ0 (so h) tv u
 ·rintro rfl
  replace h:=hk1
  refine pSeq<|wSeq<|rx (c1<|.nil)<|pSeq<|wRet ?_
  obtain rfl:=so h
  exact pR1 (.inl u) u (.tmp u<|.nil)
theorem fw.ok{a0:Int} {a1:Int} {r:Bool}(h:fw.f a0 a1=some r):FnA PP 137 [(kI .u32).sig a0,sP (kI .u32) a1] (kB.sig r):=by
 refine fnIntro Tryz.func137 u (by kernel_rfl) fun H0 w0=>?_
 unfold fw.f at h
 refine wSeq<|rx (c1<|.nil)<|pSeq<|wSeq<|rx (c4<|.nil)<|pSeq<|wRet ?_
 obtain rfl:=so h
 exact pR1 (.inl u) u (.tmp u<|.nil)
theorem ed.ok{a0:ab} {a1:Int} {a2:Int} {r:Int}(h:ed.f a0 a1 a2=some r):FnA PP 110 [(kR aj).sig a0,ki.sig a1,ki.sig a2] (ki.sig r):=by
 refine fnIntro Tryz.func110 u (by kernel_rfl) fun H0 w0=>?_
 unfold ed.f at h
 refine wSeq<|rx (c2<|.nil)<|pSeq<|wSeq ?_
 obtain⟨y1,hy1,h⟩:=bd h
 obtain⟨y2,hy2,h⟩:=bd h
 refine rdx hm (c3<|cp (oIdx u23 z70 hy1 tm tm) (s2 u u)<|c4<|cp (oIdx u23 z70 hy2 tm tm) (s2 u u)<|c1<|cp (oAnd tm tm) (s2 u u)<|cw (oAlloc (id:=7) (ls:=[.d (kI .u32) 0]) ze70 (fun g=>⟨[(.int .u32 0)],_,u,zI_u32 g.H,u⟩)) tv<|cwn (oSt (n:=0) (k:=0) u u u u z70 tm tm) (s2 u u)<|.nil)<|pSeq<|wSeq<|wFrzV 7 (n:=0) (id:=7) u u u ?_
 obtain⟨y3,hy3,h⟩:=bd h
 refine rx (c2<|cp (oMkF (Rl:=rl1 (kI .u32) kB (fun z0=>fw.f z0 (bAnd .u32 y1 y2))) u b137 (rl1e fw.ok) (oc tm o0)) (s1 u)<|cC (az.ok hy3)<|c1<|.nil)<|pSeq<|wRet ?_
 obtain rfl:=so h
 exact pR1 (.inl u) u (.tmp u<|.nil)
theorem cf.ok{a0:ab} {a1:Int} {r:Int}(h:cf.f a0 a1=some r):FnA PP 138 [(kR aj).sig a0,ki.sig a1] ((kI .u32).sig r):=by
 refine fnIntro Tryz.func138 u (by kernel_rfl) fun H0 w0=>?_
 unfold cf.f at h
 refine wSeq<|rx (c2<|.nil)<|pSeq<|wSeq<|rx (c1<|.nil)<|pSeq<|wSeq<|wSeq<|rx (c4<|.nil)<|pSeq ?_
 obtain⟨o1,h,hk1⟩:=bd h
 refine wK1 (fun x10=>x10=o1) (fun x10=>[(5,.d ((kI .u32).sig x10))]) (fun x10=>[]) ?_ ?_
 ·refine wBlock (wLoop ?_)
  refine lW (pc2 o1 (fun v8 v9=>[(1,.d (ki.sig a1)),(2,.d (sP (kR aj) a0)),(5,.d ((kI .u32).sig v9)),(9,.d (ki.sig (a0.Up.length:Int))),(10,.d (ki.sig v8))]) (fun v8 v9=>[]) (cf.l0.partial_correctness a0 a1) ?_ _ _ h) ⟨u,u,u,u,u,tv⟩ u
  clear h
  intro f' ih v8 v9 h
  refine wSeq<|rx (c1<|.nil)<|pSeq<|wSeq ?_
  obtain⟨hp11,h⟩|⟨hp11,h⟩:=ik h
  ·refine wCT hp11.1 tm (s1 u)<|wSkip<|pSeq<|wSeq<|wBlock<|wSeq<|rx (c2<|.nil)<|pSeq ?_
   obtain⟨y12,hy12,h⟩:=bd h
   obtain⟨hc13,h⟩:=ib h
   obtain⟨hc14,h⟩:=ib h
   exact rx (c4<|cp (oIdx u23 z70 hy12 tm tm) (s2 u u)<|c2<|cp (oShr hc13 tm tm) (s2 u u)<|cp (oAnd tm (cI (by decide))) (s1 u)<|c1<|cp (oShl hc14 tm tm) (s2 u u)<|cp (oOr tm tm) (s2 u u)<|c1<|.nil)<|pBlkN<|pSeq<|rx (c2<|.nil)<|pLoop (lW (ih _ _ h) ⟨u,u,u,u,u,tv⟩ u)
  ·exact wCF hp11.1 tm (s1 u)<|wExit<|pThenX<|pThenX<|pBlkX<|pJ1 _ (so h) (sb u) u
 ·rintro x10 rfl
  replace h:=hk1
  refine pSeq<|wSeq<|rx (c2<|.nil)<|pSeq<|wRet ?_
  obtain rfl:=so h
  exact pR1 (.inl u) u (.tmp u<|.nil)
theorem b4.ok{a0:ab} {a1:Int} {a2:Int} {r:Int}(h:b4.f a0 a1 a2=some r):FnA PP 111 [(kR aj).sig a0,ki.sig a1,ki.sig a2] (ki.sig r):=by
 refine fnIntro Tryz.func111 u (by kernel_rfl) fun H0 w0=>?_
 unfold b4.f at h
 refine wSeq<|rx (c2<|.nil)<|pSeq<|wSeq ?_
 obtain⟨y1,hy1,h⟩:=bd h
 obtain⟨y2,hy2,h⟩:=bd h
 refine rdx hm (c2<|cC (cf.ok hy1)<|c2<|cC (cf.ok hy2)<|cp (oAnd tm tm) (s2 u u)<|c1<|.nil)<|pSeq<|wSeq<|wSeq<|rx (c4<|.nil)<|pSeq ?_
 obtain⟨o1,h,hk1⟩:=bd h
 refine wK0 (.inr ()=o1) ([]) ([]) ?_ ?_
 ·refine wBlock (wLoop ?_)
  refine lW (pc1 o1 (fun v9=>[(3,.d (sP (kR aj) a0)),(7,.d ((kI .u32).sig (bAnd .u32 y1 y2))),(18,.d (ki.sig (a0.Up.length:Int))),(19,.d (ki.sig v9))]) (fun v9=>[]) (b4.l0.partial_correctness a0 y1 y2) ?_ _ h) ⟨u,u,u,u,tv⟩ u
  clear h
  intro f' ih v9 h
  refine wSeq<|rx (c1<|.nil)<|pSeq<|wSeq ?_
  obtain⟨hp10,h⟩|⟨hp10,h⟩:=ik h
  ·refine wCT hp10.1 tm (s1 u)<|wSkip<|pSeq<|wSeq<|wBlock<|wSeq<|rx (c2<|.nil)<|pSeq<|wSeq ?_
   obtain⟨y11,hy11,h⟩:=bd h
   refine rx (c2<|cC (cf.ok hy11)<|c2<|.nil)<|pSeq ?_
   obtain⟨hp12,h⟩|⟨hp12,h⟩:=ik h
   ·refine wCT hp12.1 tm (s1 u)<|wSeq<|rx (c2<|.nil)<|pSeq<|wRet<|pBlkR<|pThenR<|pThenR<|pBlkR<|pThenR ?_
    obtain rfl:=so h
    replace h:=hk1
    refine pThenR ?_
    obtain rfl:=so h
    exact pR1 (.inl u) u (.tmp u<|.nil)
   ·exact wCF hp12.1 tm (s1 u)<|wSkip<|pBlkN<|pSeq<|rx (c2<|.nil)<|pLoop (lW (ih _ h) ⟨u,u,u,u,tv⟩ u)
  ·exact wCF hp10.1 tm (s1 u)<|wExit<|pThenX<|pThenX<|pBlkX<|pJ0 (so h) tv u
 ·rintro rfl
  replace h:=hk1
  refine pSeq<|wSeq<|rx (c1<|.nil)<|pSeq<|wRet ?_
  obtain rfl:=so h
  exact pR1 (.inl u) u (.tmp u<|.nil)
theorem bK.ok{a0:ab} {r:Int}(h:bK.f a0=some r):FnA PP 64 [(kR aj).sig a0] (ki.sig r):=by
 refine fnIntro Tryz.func64 u (by kernel_rfl) fun H0 w0=>?_
 unfold bK.f at h
 refine wSeq<|rx (c1<|cw (oAlloc (id:=2) (ls:=[.d ki 0]) ze39 (fun g=>⟨[(.int .i64 0)],_,u,zI_i64 g.H,u⟩)) tv<|.nil)<|pSeq<|wSeq<|wBlock<|wSeq ?_
 obtain⟨y1,hy1,h⟩:=bd h
 refine rx (c1<|cC (cF.ok hy1)<|c2<|.nil)<|pSeq ?_
 obtain⟨hp2,h⟩|⟨hp2,h⟩:=ik h
 ·refine wBT hp2.1 tm (s1 u)<|wSeq<|rx (cwn (oSt (n:=0) (k:=0) u u u u z39 tm (cI (by decide))) (s1 u)<|.nil)<|pSeq<|wRet<|pBlkR<|pThenR ?_
  obtain rfl:=so h
  exact pR1 (.inl u) u (.boxV (n:=0) u u t39<|.nil)
 ·refine wBF hp2.1 tm (s1 u)<|wSeq ?_
  obtain⟨y3,hy3,h⟩:=bd h
  refine rx (c1<|cC (dh.ok hy3)<|c2<|.nil)<|pSeq ?_
  obtain⟨hp4,h⟩|⟨hp4,h⟩:=ik h
  ·refine wBT hp4.1 tm (s1 u)<|wSeq<|rx (cwn (oSt (n:=0) (k:=0) u u u u z39 tm (cI (by decide))) (s1 u)<|.nil)<|pSeq<|wRet<|pBlkR<|pThenR ?_
   obtain rfl:=so h
   exact pR1 (.inl u) u (.boxV (n:=0) u u t39<|.nil)
  ·refine wBF hp4.1 tm (s1 u)<|wSkip<|pBlkN<|pSeq<|wSeq<|wSeq ?_
   obtain⟨y5,hy5,h⟩:=bd h
   refine rx (c3<|cC (fc.ok hy5)<|.nil)<|pSeq<|wBlock ?_
   obtain⟨y33,hy33,h⟩:=bd h
   refine wRange (Γ':=[(1,.d (sP (kR aj) a0)),(2,.p 2 0)]) (Γ2:=fun v23 v24=>[(1,.d (sP (kR aj) a0)),(2,.p 2 0),(3,.d (ki.sig v23)),(4,.d (ki.sig v24))]) (fun(v22:Int)=>[.box 2 39 [.d ki v22]]) (fun(v22:Int) v23 v24=>[.box 2 39 [.d ki v22]]) [Code.ret] [2] (bK.y0 a0) 0 u (aR.ok (a1:=y5)) b136 hy33 u ⟨u,u,tv⟩ u u u ?_ ?_ ?_
   ·intro X H0 w0 l pv v22 v23 v24
    exact wSeq<|rx (c1<|.nil)<|pSeq<|rx (c1<|.nil)<|qA ⟨u,u,u,u,tv⟩
   ·intro X H0 w0 l pv v22 v23 v24 o h
    unfold bK.y0 at h
    refine wBlock ?_
    obtain⟨o2,h,hk2⟩:=bd h
    refine wJ1 (fun x28=>x28=o2) (fun x28=>[(2,.p 2 0),(30,.d (kB.sig x28))]) (fun x28=>[.box 2 39 [.d ki v22]]) ?_ ?_
    ·obtain⟨y29,hy29,h⟩:=bd h
     obtain⟨hp30,h⟩|⟨hp30,h⟩:=ik h
     ·exact rx (c3<|cC (ed.ok hy29)<|c8<|.nil)<|pJ1 _ (so h) (sb u) u
     ·obtain⟨y31,hy31,h⟩:=bd h
      exact rx (c3<|cC (ed.ok hy29)<|c4<|c1<|cgB (dF hp30.1) u u (oCall u (b4.ok hy31) b111 (oc tm (oc tm (oc tm o0)))) (s3 u u u)<|c2<|.nil)<|pJ1 _ (so h) (sb u) u
    ·rintro x28 rfl
     replace h:=hk2
     obtain⟨hp32,h⟩|⟨hp32,h⟩:=ik h
     ·refine wBT hp32.1 tm (s1 u)<|wSeq<|rx (cwn (oSt (n:=0) (k:=0) u u u u z39 tm (cI (by decide))) (s1 u)<|.nil)<|pSeq<|wRet<|pBlkR ?_
      obtain rfl:=so h
      exact qR u
     ·refine wBF hp32.1 tm (s1 u)<|wSkip<|pBlkN ?_
      obtain rfl:=so h
      exact qN
   ·obtain⟨hj33,h⟩|⟨hj33,h⟩:=ic h
    ·refine jp0 hj33<|pBlkN<|pSeq<|wSeq<|rx (cwn (oSt (n:=0) (k:=0) u u u u z39 tm (cI (by decide))) (s1 u)<|.nil)<|pSeq<|wRet ?_
     obtain rfl:=so h
     exact pR1 (.inl u) u (.boxV (n:=0) u u t39<|.nil)
    ·obtain⟨hj33,h⟩|⟨hj33,h⟩:=ic h
     ·refine jpR hj33 u<|pBlkR<|pThenR ?_
      obtain rfl:=so h
      exact pR1 (.inl u) u (.boxV (n:=0) u u t39<|.nil)
     ·cases h
theorem dK.ok{a0:Bool} {a1:List Bool} {r:(List Bool)×Bool}(h:dK.f a0 a1=some r):FnS PP 199 [.d (kB.sig a0),.p 70100 0] [.box 70100 248 [.v 70101],.row 70101 232 kB a1] [70100] (.d (kB.sig r.2)) [.box 70100 248 [.v 70101],.row 70101 232 kB r.1]:=by
 refine fnIntroS Tryz.func199 u (by kernel_rfl) fun X H0 w0 pv=>?_
 unfold dK.f at h
 refine wSeq<|rx (c1<|.nil)<|pSeq<|wSeq<|rx (cr (oLdN (n:=0) (k:=0) u u u t248 tm) (s1 u)<|cr (oLenR (n:=1) u248 u tm) (s1 u)<|c2<|.nil)<|pSeq<|wSeq<|wWeak (Γ':=[(0,.d (kB.sig a0)),(1,.p 70100 0),(4,.d (ki.sig (IntKind.i64.wrap ((a1.length:Int)-1))))]) (sb u)<|wRen 70101 3510000 u ?_
 obtain⟨o1,h,hk1⟩:=bd h
 refine wJ1 (fun x5=>x5=o1) (fun x5=>[(1,.p 70100 0),(4,.d (ki.sig (IntKind.i64.wrap ((a1.length:Int)-1)))),(26,.d (kB.sig x5))]) (fun x5=>[.box 70100 248 [.v 3510000],.row 3510000 232 kB a1]) ?_ ?_
 ·obtain⟨hp6,h⟩|⟨hp6,h⟩:=ik h
  ·exact rx (c12<|c6<|c1<|.nil)<|pJ1 _ (so h) (sb u) u
  ·obtain⟨y7,hy7,h⟩:=bd h
   obtain⟨hp8,h⟩|⟨hp8,h⟩:=ik h
   ·obtain⟨y9,hy9,h⟩:=bd h
    exact rx (c3<|crgB (dF hp6.1) u u (oLdN (n:=0) (k:=0) u u u t248 tm) (s1 u)<|c1<|crgB (dF hp6.1) u u (oIdxR (n:=1) u248 z232 u hy7 tm tm) (s2 u u)<|crgB (dF hp6.1) u u (oLdE (n:=1) u hy7 u t232 tm) (s1 u)<|c1<|cgB (dF hp6.1) u u (oBNe u232 u tm tm) (s2 u u)<|c2<|crgB (nf hp8.1) u u (oLdN (n:=0) (k:=0) u u u t248 tm) (s1 u)<|c2<|crgB (nf hp8.1) u u (oIdxR (n:=1) u248 z232 u hy9 tm tm) (s2 u u)<|crgB (nf hp8.1) u u (oLdE (n:=1) u hy9 u t232 tm) (s1 u)<|c1<|cgB (nf hp8.1) u u (oBNe u232 u tm tm) (s2 u u)<|c1<|.nil)<|pJ1 _ (so h) (sb u) u
   ·exact rx (c3<|crgB (dF hp6.1) u u (oLdN (n:=0) (k:=0) u u u t248 tm) (s1 u)<|c1<|crgB (dF hp6.1) u u (oIdxR (n:=1) u248 z232 u hy7 tm tm) (s2 u u)<|crgB (dF hp6.1) u u (oLdE (n:=1) u hy7 u t232 tm) (s1 u)<|c1<|cgB (dF hp6.1) u u (oBNe u232 u tm tm) (s2 u u)<|c8<|c2<|.nil)<|pJ1 _ (so h) (sb u) u
 ·rintro x5 rfl
  replace h:=hk1
  obtain⟨hp10,h⟩|⟨hp10,h⟩:=ik h
  ·refine wBT hp10.1 tm (s1 u)<|wSeq<|rx (c1<|.nil)<|pSeq<|wRet<|pThenR ?_
   obtain rfl:=so h
   exact pSub (Γ':=[(3,.d (kB.sig false))]) (sb u)<|pRen 3510000 70101 u<|pS1 [0,1] u u (.inl u) u (.tmp u<|.nil)
  ·refine wBF hp10.1 tm (s1 u)<|wSkip<|pSeq<|wSeq ?_
   obtain⟨hc11,h⟩:=ib h
   refine rx (cr (oLdN (n:=0) (k:=0) u u u t248 tm) (s1 u)<|c2<|cw (oCutR (n:=1) (id':=30) u248 z232 u hc11.1 hc11.2 tm tm) (s2 u u)<|cwn (oStN (n:=0) (m:=1) (k:=0) u u u u z248 u tm tm) (s2 u u)<|.nil)<|pSeq<|wSeq<|rx (c1<|.nil)<|pSeq<|wRet ?_
   obtain rfl:=so h
   exact pSub (Γ':=[(3,.d (kB.sig true))]) (sb u)<|pRen 30 70101 u<|pS1 [0,1] u u (.inl u) u (.tmp u<|.nil)
theorem dt.ok{a0:List Int} {r:Bool×Bool}(h:dt.f a0=some r):FnA PP 188 [(kL ki).sig a0] (tup [kB.sig r.1,kB.sig r.2]):=by
 refine fnIntro Tryz.func188 u (by kernel_rfl) fun H0 w0=>?_
 unfold dt.f at h
 refine wSeq<|rx (c2<|.nil)<|pSeq<|wSeq<|rx (cw (oAlloc (id:=4) (ls:=[.d (kN Bool) []]) ze248 (fun g=>⟨[(.slice none 0 0)],_,u,zN g.H,u⟩)) tv<|.nil)<|pSeq<|wSeq<|rx (cp (oMkN (ids:=[4]) (caps:=[none]) u (oNp tm oN0)) (s1 u)<|c1<|.nil)<|pSeq<|wSeq<|wSeq<|rx (c3<|.nil)<|pSeq<|wNilL kB 232 5200 (n:=0) (k:=0) u u u ?_
 obtain⟨o1,h,hk1⟩:=bd h
 refine wK1 (fun x271=>.inr x271=o1) (fun x271=>[(0,.d ((kL ki).sig a0)),(4,.p 4 0)]) (fun x271=>[.row 5200 232 kB x271,.box 4 248 [.v 5200]]) ?_ ?_
 ·refine wBlock (wLoop ?_)
  refine lW (pc2 o1 (fun v269 v270=>[(0,.d ((kL ki).sig a0)),(4,.p 4 0),(5,.f [4] (sCloN 199 [none])),(10,.d ((kL ki).sig a0)),(11,.d (ki.sig (a0.length:Int))),(12,.d (ki.sig v270))]) (fun v269 v270=>[.row 5200 232 kB v269,.box 4 248 [.v 5200]]) (dt.l0.partial_correctness a0) ?_ _ _ h) ⟨u,u,u,u,u,u,tv⟩ u
  clear h
  intro f' ih v269 v270 h
  refine wSeq<|rx (c1<|.nil)<|pSeq<|wSeq ?_
  obtain⟨hp272,h⟩|⟨hp272,h⟩:=ik h
  ·refine wCT hp272.1 tm (s1 u)<|wSkip<|pSeq ?_
   obtain⟨o2,h,hk2⟩:=bd h
   refine wJ1 (fun x339=>.inr x339=o2) (fun x339=>[(0,.d ((kL ki).sig a0)),(4,.p 4 0),(5,.f [4] (sCloN 199 [none])),(10,.d ((kL ki).sig a0)),(11,.d (ki.sig (a0.length:Int))),(12,.d (ki.sig v270))]) (fun x339=>[.row 5200 232 kB x339,.box 4 248 [.v 5200]]) ?_ ?_
   ·refine wBlock<|wSeq ?_
    obtain⟨y340,hy340,h⟩:=bd h
    refine rx (cp (oIdx u56 z3 hy340 tm tm) (s2 u u)<|c2<|.nil)<|pSeq<|wSeq<|rx (c1<|.nil)<|pSeq<|wSeq<|wSeq<|rx (c1<|.nil)<|pSeq ?_
    obtain⟨o3,h,hk3⟩:=bd h
    refine wK2 (fun x372 x373=>(x372,x373)=o3) (fun x372 x373=>[(0,.d ((kL ki).sig a0)),(4,.p 4 0),(5,.f [4] (sCloN 199 [none])),(8,.d (kB.sig x373)),(10,.d ((kL ki).sig a0)),(11,.d (ki.sig (a0.length:Int))),(12,.d (ki.sig v270))]) (fun x372 x373=>[.row 5200 232 kB x372,.box 4 248 [.v 5200]]) ?_ ?_
    ·refine wBlock<|wSeq<|wSeq<|rx (c2<|.nil)<|pSeq ?_
     obtain⟨hp374,h⟩|⟨hp374,h⟩:=ik h
     ·refine wCT hp374.1 tm (s1 u)<|wSkip<|pSeq<|wCT hp374.1 tm (s1 u) ?_
      obtain⟨hc375,h⟩:=ib h
      exact rx (cr (oLdN (n:=1) (k:=0) u u u t248 tm) (s1 u)<|cp (oLit (d:=kB) el248 (by decide) u u u (e1 cB e0)) tv<|cw (oApp (n:=0) (id':=22) el248 (by decide) u (by decide) hc375 tm tm) (s2 u u)<|cwn (oStN (n:=1) (m:=0) (k:=0) u u u u z248 u tm tm) (s2 u u)<|.nil)<|pBlkN<|pSub (Γ':=[(0,.d ((kL ki).sig a0)),(4,.p 4 0),(5,.f [4] (sCloN 199 [none])),(8,.d (kB.sig true)),(10,.d ((kL ki).sig a0)),(11,.d (ki.sig (a0.length:Int))),(12,.d (ki.sig v270))]) (sb u)<|pRen 22 5200 u<|pJ2 _ _ (so h) (sb u) u
     ·refine wCF hp374.1 tm (s1 u)<|rx (c2<|.nil)<|pSeq ?_
      obtain⟨hp376,h⟩|⟨hp376,h⟩:=ik h
      ·refine wCT hp376.1 tm (s1 u) ?_
       obtain⟨hc377,h⟩:=ib h
       exact rx (cr (oLdN (n:=1) (k:=0) u u u t248 tm) (s1 u)<|cp (oLit (d:=kB) el248 (by decide) u u u (e1 cB e0)) tv<|cw (oApp (n:=0) (id':=22) el248 (by decide) u (by decide) hc377 tm tm) (s2 u u)<|cwn (oStN (n:=1) (m:=0) (k:=0) u u u u z248 u tm tm) (s2 u u)<|.nil)<|pBlkN<|pSub (Γ':=[(0,.d ((kL ki).sig a0)),(4,.p 4 0),(5,.f [4] (sCloN 199 [none])),(8,.d (kB.sig true)),(10,.d ((kL ki).sig a0)),(11,.d (ki.sig (a0.length:Int))),(12,.d (ki.sig v270))]) (sb u)<|pRen 22 5200 u<|pJ2 _ _ (so h) (sb u) u
      ·refine wCF hp376.1 tm (s1 u)<|wSeq<|wSeq<|rx (c2<|.nil)<|pSeq ?_
       obtain⟨hp378,h⟩|⟨hp378,h⟩:=ik h
       ·refine wCT hp378.1 tm (s1 u)<|wSkip<|pSeq<|wCT hp378.1 tm (s1 u) ?_
        obtain⟨hc379,h⟩:=ib h
        exact rx (cr (oLdN (n:=1) (k:=0) u u u t248 tm) (s1 u)<|cp (oLit (d:=kB) el248 (by decide) u u u (e1 cB e0)) tv<|cw (oApp (n:=0) (id':=32) el248 (by decide) u (by decide) hc379 tm tm) (s2 u u)<|cwn (oStN (n:=1) (m:=0) (k:=0) u u u u z248 u tm tm) (s2 u u)<|.nil)<|pBlkN<|pSub (Γ':=[(0,.d ((kL ki).sig a0)),(4,.p 4 0),(5,.f [4] (sCloN 199 [none])),(8,.d (kB.sig true)),(10,.d ((kL ki).sig a0)),(11,.d (ki.sig (a0.length:Int))),(12,.d (ki.sig v270))]) (sb u)<|pRen 32 5200 u<|pJ2 _ _ (so h) (sb u) u
       ·refine wCF hp378.1 tm (s1 u)<|wSeq<|rx (c2<|.nil)<|pSeq ?_
        obtain⟨hp380,h⟩|⟨hp380,h⟩:=ik h
        ·refine wCT hp380.1 tm (s1 u)<|wSkip<|pSeq<|wCT hp380.1 tm (s1 u) ?_
         obtain⟨hc381,h⟩:=ib h
         exact rx (cr (oLdN (n:=1) (k:=0) u u u t248 tm) (s1 u)<|cp (oLit (d:=kB) el248 (by decide) u u u (e1 cB e0)) tv<|cw (oApp (n:=0) (id':=32) el248 (by decide) u (by decide) hc381 tm tm) (s2 u u)<|cwn (oStN (n:=1) (m:=0) (k:=0) u u u u z248 u tm tm) (s2 u u)<|.nil)<|pBlkN<|pSub (Γ':=[(0,.d ((kL ki).sig a0)),(4,.p 4 0),(5,.f [4] (sCloN 199 [none])),(8,.d (kB.sig true)),(10,.d ((kL ki).sig a0)),(11,.d (ki.sig (a0.length:Int))),(12,.d (ki.sig v270))]) (sb u)<|pRen 32 5200 u<|pJ2 _ _ (so h) (sb u) u
        ·refine wCF hp380.1 tm (s1 u)<|wSeq<|rx (c2<|.nil)<|pSeq ?_
         obtain⟨hp382,h⟩|⟨hp382,h⟩:=ik h
         ·refine wCT hp382.1 tm (s1 u)<|wSkip<|pSeq<|wCT hp382.1 tm (s1 u) ?_
          obtain⟨hc383,h⟩:=ib h
          exact rx (cr (oLdN (n:=1) (k:=0) u u u t248 tm) (s1 u)<|cp (oLit (d:=kB) el248 (by decide) u u u (e1 cB e0)) tv<|cw (oApp (n:=0) (id':=32) el248 (by decide) u (by decide) hc383 tm tm) (s2 u u)<|cwn (oStN (n:=1) (m:=0) (k:=0) u u u u z248 u tm tm) (s2 u u)<|.nil)<|pBlkN<|pSub (Γ':=[(0,.d ((kL ki).sig a0)),(4,.p 4 0),(5,.f [4] (sCloN 199 [none])),(8,.d (kB.sig true)),(10,.d ((kL ki).sig a0)),(11,.d (ki.sig (a0.length:Int))),(12,.d (ki.sig v270))]) (sb u)<|pRen 32 5200 u<|pJ2 _ _ (so h) (sb u) u
         ·refine wCF hp382.1 tm (s1 u)<|wSeq<|rx (c2<|.nil)<|pSeq ?_
          obtain⟨hp384,h⟩|⟨hp384,h⟩:=ik h
          ·refine wCT hp384.1 tm (s1 u)<|wSkip<|pSeq<|wCT hp384.1 tm (s1 u) ?_
           obtain⟨hc385,h⟩:=ib h
           exact rx (cr (oLdN (n:=1) (k:=0) u u u t248 tm) (s1 u)<|cp (oLit (d:=kB) el248 (by decide) u u u (e1 cB e0)) tv<|cw (oApp (n:=0) (id':=32) el248 (by decide) u (by decide) hc385 tm tm) (s2 u u)<|cwn (oStN (n:=1) (m:=0) (k:=0) u u u u z248 u tm tm) (s2 u u)<|.nil)<|pBlkN<|pSub (Γ':=[(0,.d ((kL ki).sig a0)),(4,.p 4 0),(5,.f [4] (sCloN 199 [none])),(8,.d (kB.sig true)),(10,.d ((kL ki).sig a0)),(11,.d (ki.sig (a0.length:Int))),(12,.d (ki.sig v270))]) (sb u)<|pRen 32 5200 u<|pJ2 _ _ (so h) (sb u) u
          ·refine wCF hp384.1 tm (s1 u)<|wSeq<|rx (c2<|.nil)<|pSeq ?_
           obtain⟨hp386,h⟩|⟨hp386,h⟩:=ik h
           ·refine wCT hp386.1 tm (s1 u)<|wSkip<|pSeq<|wCT hp386.1 tm (s1 u) ?_
            obtain⟨hc387,h⟩:=ib h
            exact rx (cr (oLdN (n:=1) (k:=0) u u u t248 tm) (s1 u)<|cp (oLit (d:=kB) el248 (by decide) u u u (e1 cB e0)) tv<|cw (oApp (n:=0) (id':=32) el248 (by decide) u (by decide) hc387 tm tm) (s2 u u)<|cwn (oStN (n:=1) (m:=0) (k:=0) u u u u z248 u tm tm) (s2 u u)<|.nil)<|pBlkN<|pSub (Γ':=[(0,.d ((kL ki).sig a0)),(4,.p 4 0),(5,.f [4] (sCloN 199 [none])),(8,.d (kB.sig true)),(10,.d ((kL ki).sig a0)),(11,.d (ki.sig (a0.length:Int))),(12,.d (ki.sig v270))]) (sb u)<|pRen 32 5200 u<|pJ2 _ _ (so h) (sb u) u
           ·refine wCF hp386.1 tm (s1 u)<|rx (c2<|.nil)<|pSeq ?_
            obtain⟨hp388,h⟩|⟨hp388,h⟩:=ik h
            ·refine wCT hp388.1 tm (s1 u) ?_
             obtain⟨hc389,h⟩:=ib h
             exact rx (cr (oLdN (n:=1) (k:=0) u u u t248 tm) (s1 u)<|cp (oLit (d:=kB) el248 (by decide) u u u (e1 cB e0)) tv<|cw (oApp (n:=0) (id':=32) el248 (by decide) u (by decide) hc389 tm tm) (s2 u u)<|cwn (oStN (n:=1) (m:=0) (k:=0) u u u u z248 u tm tm) (s2 u u)<|.nil)<|pBlkN<|pSub (Γ':=[(0,.d ((kL ki).sig a0)),(4,.p 4 0),(5,.f [4] (sCloN 199 [none])),(8,.d (kB.sig true)),(10,.d ((kL ki).sig a0)),(11,.d (ki.sig (a0.length:Int))),(12,.d (ki.sig v270))]) (sb u)<|pRen 32 5200 u<|pJ2 _ _ (so h) (sb u) u
            ·refine wCF hp388.1 tm (s1 u)<|wSeq<|wSeq<|rx (c2<|.nil)<|pSeq ?_
             obtain⟨hp390,h⟩|⟨hp390,h⟩:=ik h
             ·refine wCT hp390.1 tm (s1 u)<|wSkip<|pSeq<|wCT hp390.1 tm (s1 u)<|wSeq ?_
              obtain⟨y391,hy391,h⟩:=bd h
              refine rx (c1<|cm (oCallN (ins:=[.d (kB.sig false)]) (caps:=[none]) (kn:=[70100]) (rest:=[]) (R':=[.row 510040 232 kB y391.1,.box 4 248 [.v 510040]]) (out':=.d (kB.sig y391.2)) [(70100,4),(70101,5200)] [(70101,510040)] [1,0] [] [1,0] u tm (dK.ok hy391) u b199 (oE1 cB oE0) u u u u u u u u) (s1 u)<|c1<|.nil)<|pSeq ?_
              obtain⟨hc392,h⟩:=ib h
              exact rx (cr (oLdN (n:=1) (k:=0) u u u t248 tm) (s1 u)<|cp (oLit (d:=kB) el248 (by decide) u u u (e1 cB e0)) tv<|cw (oApp (n:=0) (id':=40) el248 (by decide) u (by decide) hc392 tm tm) (s2 u u)<|cwn (oStN (n:=1) (m:=0) (k:=0) u u u u z248 u tm tm) (s2 u u)<|.nil)<|pBlkN<|pSub (Γ':=[(0,.d ((kL ki).sig a0)),(4,.p 4 0),(5,.f [4] (sCloN 199 [none])),(8,.d (kB.sig y391.2)),(10,.d ((kL ki).sig a0)),(11,.d (ki.sig (a0.length:Int))),(12,.d (ki.sig v270))]) (sb u)<|pRen 40 5200 u<|pJ2 _ _ (so h) (sb u) u
             ·refine wCF hp390.1 tm (s1 u)<|rx (c2<|.nil)<|pSeq ?_
              obtain⟨hp393,h⟩|⟨hp393,h⟩:=ik h
              ·refine wCT hp393.1 tm (s1 u)<|wSeq ?_
               obtain⟨y394,hy394,h⟩:=bd h
               refine rx (c1<|cm (oCallN (ins:=[.d (kB.sig false)]) (caps:=[none]) (kn:=[70100]) (rest:=[]) (R':=[.row 510040 232 kB y394.1,.box 4 248 [.v 510040]]) (out':=.d (kB.sig y394.2)) [(70100,4),(70101,5200)] [(70101,510040)] [1,0] [] [1,0] u tm (dK.ok hy394) u b199 (oE1 cB oE0) u u u u u u u u) (s1 u)<|c1<|.nil)<|pSeq ?_
               obtain⟨hc395,h⟩:=ib h
               exact rx (cr (oLdN (n:=1) (k:=0) u u u t248 tm) (s1 u)<|cp (oLit (d:=kB) el248 (by decide) u u u (e1 cB e0)) tv<|cw (oApp (n:=0) (id':=40) el248 (by decide) u (by decide) hc395 tm tm) (s2 u u)<|cwn (oStN (n:=1) (m:=0) (k:=0) u u u u z248 u tm tm) (s2 u u)<|.nil)<|pBlkN<|pSub (Γ':=[(0,.d ((kL ki).sig a0)),(4,.p 4 0),(5,.f [4] (sCloN 199 [none])),(8,.d (kB.sig y394.2)),(10,.d ((kL ki).sig a0)),(11,.d (ki.sig (a0.length:Int))),(12,.d (ki.sig v270))]) (sb u)<|pRen 40 5200 u<|pJ2 _ _ (so h) (sb u) u
              ·refine wCF hp393.1 tm (s1 u)<|wSeq<|rx (c2<|.nil)<|pSeq ?_
               obtain⟨hp396,h⟩|⟨hp396,h⟩:=ik h
               ·refine wCT hp396.1 tm (s1 u)<|wSeq ?_
                obtain⟨y397,hy397,h⟩:=bd h
                refine rx (c1<|cm (oCallN (ins:=[.d (kB.sig true)]) (caps:=[none]) (kn:=[70100]) (rest:=[]) (R':=[.row 540040 232 kB y397.1,.box 4 248 [.v 540040]]) (out':=.d (kB.sig y397.2)) [(70100,4),(70101,5200)] [(70101,540040)] [1,0] [] [1,0] u tm (dK.ok hy397) u b199 (oE1 cB oE0) u u u u u u u u) (s1 u)<|c1<|.nil)<|pSeq ?_
                obtain⟨hc398,h⟩:=ib h
                exact rx (cr (oLdN (n:=1) (k:=0) u u u t248 tm) (s1 u)<|cp (oLit (d:=kB) el248 (by decide) u u u (e1 cB e0)) tv<|cw (oApp (n:=0) (id':=47) el248 (by decide) u (by decide) hc398 tm tm) (s2 u u)<|cwn (oStN (n:=1) (m:=0) (k:=0) u u u u z248 u tm tm) (s2 u u)<|.nil)<|pBlkN<|pSub (Γ':=[(0,.d ((kL ki).sig a0)),(4,.p 4 0),(5,.f [4] (sCloN 199 [none])),(8,.d (kB.sig y397.2)),(10,.d ((kL ki).sig a0)),(11,.d (ki.sig (a0.length:Int))),(12,.d (ki.sig v270))]) (sb u)<|pRen 47 5200 u<|pJ2 _ _ (so h) (sb u) u
               ·refine wCF hp396.1 tm (s1 u)<|wSeq<|wSeq<|rx (c2<|.nil)<|pSeq ?_
                obtain⟨hp399,h⟩|⟨hp399,h⟩:=ik h
                ·refine wCT hp399.1 tm (s1 u)<|wSkip<|pSeq<|wCT hp399.1 tm (s1 u)<|wSeq ?_
                 obtain⟨y400,hy400,h⟩:=bd h
                 refine rx (c1<|cm (oCallN (ins:=[.d (kB.sig true)]) (caps:=[none]) (kn:=[70100]) (rest:=[]) (R':=[.row 580040 232 kB y400.1,.box 4 248 [.v 580040]]) (out':=.d (kB.sig y400.2)) [(70100,4),(70101,5200)] [(70101,580040)] [1,0] [] [1,0] u tm (dK.ok hy400) u b199 (oE1 cB oE0) u u u u u u u u) (s1 u)<|c1<|.nil)<|pSeq ?_
                 obtain⟨hc401,h⟩:=ib h
                 exact rx (cr (oLdN (n:=1) (k:=0) u u u t248 tm) (s1 u)<|cp (oLit (d:=kB) el248 (by decide) u u u (e1 cB e0)) tv<|cw (oApp (n:=0) (id':=55) el248 (by decide) u (by decide) hc401 tm tm) (s2 u u)<|cwn (oStN (n:=1) (m:=0) (k:=0) u u u u z248 u tm tm) (s2 u u)<|.nil)<|pBlkN<|pSub (Γ':=[(0,.d ((kL ki).sig a0)),(4,.p 4 0),(5,.f [4] (sCloN 199 [none])),(8,.d (kB.sig y400.2)),(10,.d ((kL ki).sig a0)),(11,.d (ki.sig (a0.length:Int))),(12,.d (ki.sig v270))]) (sb u)<|pRen 55 5200 u<|pJ2 _ _ (so h) (sb u) u
                ·refine wCF hp399.1 tm (s1 u)<|rx (c2<|.nil)<|pSeq ?_
                 obtain⟨hp402,h⟩|⟨hp402,h⟩:=ik h
                 ·refine wCT hp402.1 tm (s1 u)<|wSeq ?_
                  obtain⟨y403,hy403,h⟩:=bd h
                  refine rx (c1<|cm (oCallN (ins:=[.d (kB.sig true)]) (caps:=[none]) (kn:=[70100]) (rest:=[]) (R':=[.row 580040 232 kB y403.1,.box 4 248 [.v 580040]]) (out':=.d (kB.sig y403.2)) [(70100,4),(70101,5200)] [(70101,580040)] [1,0] [] [1,0] u tm (dK.ok hy403) u b199 (oE1 cB oE0) u u u u u u u u) (s1 u)<|c1<|.nil)<|pSeq ?_
                  obtain⟨hc404,h⟩:=ib h
                  exact rx (cr (oLdN (n:=1) (k:=0) u u u t248 tm) (s1 u)<|cp (oLit (d:=kB) el248 (by decide) u u u (e1 cB e0)) tv<|cw (oApp (n:=0) (id':=55) el248 (by decide) u (by decide) hc404 tm tm) (s2 u u)<|cwn (oStN (n:=1) (m:=0) (k:=0) u u u u z248 u tm tm) (s2 u u)<|.nil)<|pBlkN<|pSub (Γ':=[(0,.d ((kL ki).sig a0)),(4,.p 4 0),(5,.f [4] (sCloN 199 [none])),(8,.d (kB.sig y403.2)),(10,.d ((kL ki).sig a0)),(11,.d (ki.sig (a0.length:Int))),(12,.d (ki.sig v270))]) (sb u)<|pRen 55 5200 u<|pJ2 _ _ (so h) (sb u) u
                 ·exact wCF hp402.1 tm (s1 u)<|rx (c1<|.nil)<|pBlkN<|pJ2 _ _ (so h) (sb u) u
    ·rintro x372 x373 rfl
     replace h:=hk3
     refine pSeq<|wSeq<|rx (c2<|.nil)<|pSeq ?_
     obtain⟨hp405,h⟩|⟨hp405,h⟩:=ik h
     ·refine wBT hp405.1 tm (s1 u)<|wSeq<|rx (c2<|.nil)<|pSeq<|wRet<|pBlkR<|pThenR ?_
      obtain rfl:=so h
      replace h:=hk2
      refine pThenR<|pBlkR<|pThenR ?_
      obtain rfl:=so h
      replace h:=hk1
      refine pThenR ?_
      obtain rfl:=so h
      exact pRn (.inl u) u u (.tmp u<|.tmp u<|.nil)
     ·exact wBF hp405.1 tm (s1 u)<|wSkip<|pBlkN<|pJ1 _ (so h) (sb u) u
   ·rintro x339 rfl
    replace h:=hk2
    exact rx (c2<|.nil)<|pLoop (lW (ih _ _ h) ⟨u,u,u,u,u,u,tv⟩ u)
  ·exact wCF hp272.1 tm (s1 u)<|wExit<|pThenX<|pThenX<|pBlkX<|pJ1 _ (so h) (sb u) u
 ·rintro x271 rfl
  replace h:=hk1
  refine pSeq<|wSeq ?_
  obtain⟨o1,h,hk1⟩:=bd h
  refine wJ1 (fun x407=>x407=o1) (fun x407=>[(4,.p 4 0),(66,.d (kB.sig x407))]) (fun x407=>[.row 5200 232 kB x271,.box 4 248 [.v 5200]]) ?_ ?_
  ·obtain⟨hp408,h⟩|⟨hp408,h⟩:=ik h
   ·exact rx (cr (oLdN (n:=1) (k:=0) u u u t248 tm) (s1 u)<|cr (oLenR (n:=0) u248 u tm) (s1 u)<|c6<|.nil)<|pJ1 _ (so h) (sb u) u
   ·exact rx (cr (oLdN (n:=1) (k:=0) u u u t248 tm) (s1 u)<|cr (oLenR (n:=0) u248 u tm) (s1 u)<|c6<|.nil)<|pJ1 _ (so h) (sb u) u
  ·rintro x407 rfl
   replace h:=hk1
   obtain⟨hp409,h⟩|⟨hp409,h⟩:=ik h
   ·refine wBT hp409.1 tm (s1 u)<|wSeq<|rx (c2<|.nil)<|pSeq<|wRet<|pThenR ?_
    obtain rfl:=so h
    exact pRn (.inl u) u u (.tmp u<|.tmp u<|.nil)
   ·refine wBF hp409.1 tm (s1 u)<|wSkip<|pSeq<|wSeq ?_
    obtain⟨y410,hy410,h⟩:=bd h
    refine rx (cr (oLdN (n:=1) (k:=0) u u u t248 tm) (s1 u)<|cr (oIdxR (n:=0) u248 z232 u hy410 tm (cI (by decide))) (s1 u)<|cr (oLdE (n:=0) u hy410 u t232 tm) (s1 u)<|c2<|.nil)<|pSeq<|wRet ?_
    obtain rfl:=so h
    exact pRn (.inl u) u u (.tmp u<|.tmp u<|.nil)
theorem dI.ok{a0:List Int} {a1:Bool} {r:Bool}(h:dI.f a0 a1=some r):FnA PP 166 [(kL ki).sig a0,kB.sig a1] (kB.sig r):=by
 refine fnIntro Tryz.func166 u (by kernel_rfl) fun H0 w0=>?_
 unfold dI.f at h
 refine wSeq<|rx (c1<|.nil)<|pSeq<|wSeq ?_
 obtain⟨y1,hy1,h⟩:=bd h
 refine rx (c1<|cC (dt.ok hy1)<|c4<|c1<|.nil)<|pSeq ?_
 obtain⟨o1,h,hk1⟩:=bd h
 refine wJ1 (fun x3=>x3=o1) (fun x3=>[(4,.d (kB.sig x3))]) (fun x3=>[]) ?_ ?_
 ·obtain⟨hp4,h⟩|⟨hp4,h⟩:=ik h
  ·exact rx (c4<|cgB hp4.1 u u (oBEq u4 u tm tm) (s2 u u)<|c2<|.nil)<|pJ1 _ (so h) (sb u) u
  ·exact rx (c6<|c1<|.nil)<|pJ1 _ (so h) (sb u) u
 ·rintro x3 rfl
  replace h:=hk1
  refine wRet ?_
  obtain rfl:=so h
  exact pR1 (.inl u) u (.tmp u<|.nil)
theorem fa.ok{a0:aE} {r:Bool}(h:fa.f a0=some r):FnA PP 144 [(kR aJ).sig a0] (kB.sig r):=by
 refine fnIntro Tryz.func144 u (by kernel_rfl) fun H0 w0=>?_
 unfold fa.f at h
 refine wSeq<|rx (c2<|.nil)<|pSeq ?_
 obtain⟨o1,h,hk1⟩:=bd h
 refine wJ1 (fun x6=>x6=o1) (fun x6=>[(2,.d (kB.sig x6))]) (fun x6=>[]) ?_ ?_
 ·obtain⟨y7,hy7,h⟩:=bd h
  obtain⟨hp8,h⟩|⟨hp8,h⟩:=ik h
  ·obtain⟨y9,hy9,h⟩:=bd h
   obtain⟨hp10,h⟩|⟨hp10,h⟩:=ik h
   ·obtain⟨y11,hy11,h⟩:=bd h
    exact rx (c2<|cC (dI.ok hy7)<|c3<|cgB hp8.1 u u (oCall u (dI.ok hy9) b166 (oc tm (oc cB o0))) (s1 u)<|c4<|cgB hp10.1 u u (oCall u (dI.ok hy11) b166 (oc tm (oc cB o0))) (s1 u)<|c2<|.nil)<|pJ1 _ (so h) (sb u) u
   ·exact rx (c2<|cC (dI.ok hy7)<|c3<|cgB hp8.1 u u (oCall u (dI.ok hy9) b166 (oc tm (oc cB o0))) (s1 u)<|c6<|c1<|.nil)<|pJ1 _ (so h) (sb u) u
  ·exact rx (c2<|cC (dI.ok hy7)<|c8<|c3<|.nil)<|pJ1 _ (so h) (sb u) u
 ·rintro x6 rfl
  replace h:=hk1
  refine wRet ?_
  obtain rfl:=so h
  exact pR1 (.inl u) u (.tmp u<|.nil)
theorem dG.ok{a0:List Int} {r:Int×Int}(h:dG.f a0=some r):FnA PP 189 [(kL ki).sig a0] (tup [(kI .u32).sig r.1,ki.sig r.2]):=by
 refine fnIntro Tryz.func189 u (by kernel_rfl) fun H0 w0=>?_
 unfold dG.f at h
 refine wSeq<|rx (c2<|.nil)<|pSeq<|wSeq<|wSeq ?_
 obtain⟨y1,hy1,h⟩:=bd h
 refine rx (c1<|cC (dt.ok hy1)<|c4<|c1<|.nil)<|pSeq<|wSeq<|rx (c2<|.nil)<|pSeq ?_
 obtain⟨hp2,h⟩|⟨hp2,h⟩:=ik h
 ·refine wBT hp2.1 tm (s1 u)<|wSeq<|rx (c2<|.nil)<|pSeq<|wRet<|pThenR ?_
  obtain rfl:=so h
  exact pRn (.inl u) u u (.tmp u<|.tmp u<|.nil)
 ·refine wBF hp2.1 tm (s1 u)<|wSkip<|pSeq<|wSeq<|rx (c1<|.nil)<|pSeq<|wSeq<|wSeq<|rx (c3<|.nil)<|pSeq ?_
  obtain⟨o1,h,hk1⟩:=bd h
  refine wK1 (fun x33=>x33=o1) (fun x33=>[(6,.d ((kI .u32).sig x33))]) (fun x33=>[]) ?_ ?_
  ·refine wBlock (wLoop ?_)
   refine lW (pc2 o1 (fun v31 v32=>[(6,.d ((kI .u32).sig v32)),(16,.d ((kL ki).sig a0)),(17,.d (ki.sig (a0.length:Int))),(18,.d (ki.sig v31))]) (fun v31 v32=>[]) (dG.l0.partial_correctness a0) ?_ _ _ h) ⟨u,u,u,u,tv⟩ u
   clear h
   intro f' ih v31 v32 h
   refine wSeq<|rx (c1<|.nil)<|pSeq<|wSeq ?_
   obtain⟨hp34,h⟩|⟨hp34,h⟩:=ik h
   ·refine wCT hp34.1 tm (s1 u)<|wSkip<|pSeq ?_
    obtain⟨o2,h,hk2⟩:=bd h
    refine wJ1 (fun x41=>x41=o2) (fun x41=>[(6,.d ((kI .u32).sig x41)),(16,.d ((kL ki).sig a0)),(17,.d (ki.sig (a0.length:Int))),(18,.d (ki.sig v31))]) (fun x41=>[]) ?_ ?_
    ·refine wBlock<|wSeq ?_
     obtain⟨y42,hy42,h⟩:=bd h
     refine rx (cp (oIdx u56 z3 hy42 tm tm) (s2 u u)<|c2<|.nil)<|pSeq ?_
     obtain⟨o3,h,hk3⟩:=bd h
     refine wJ1 (fun x44=>x44=o3) (fun x44=>[(6,.d ((kI .u32).sig v32)),(8,.d (ki.sig y42)),(16,.d ((kL ki).sig a0)),(17,.d (ki.sig (a0.length:Int))),(18,.d (ki.sig v31)),(27,.d (kB.sig x44))]) (fun x44=>[]) ?_ ?_
     ·obtain⟨hp45,h⟩|⟨hp45,h⟩:=ik h
      ·exact rx (c6<|.nil)<|pJ1 _ (so h) (sb u) u
      ·exact rx (c6<|.nil)<|pJ1 _ (so h) (sb u) u
     ·rintro x44 rfl
      replace h:=hk3
      obtain⟨hp46,h⟩|⟨hp46,h⟩:=ik h
      ·refine wBT hp46.1 tm (s1 u) ?_
       obtain⟨hc47,h⟩:=ib h
       exact rx (c3<|cp (oShl hc47 (cI (by decide)) tm) (s1 u)<|cp (oOr tm tm) (s2 u u)<|c1<|.nil)<|pBlkN<|pJ1 _ (so h) (sb u) u
      ·exact wBF hp46.1 tm (s1 u)<|wSkip<|pBlkN<|pJ1 _ (so h) (sb u) u
    ·rintro x41 rfl
     replace h:=hk2
     exact rx (c2<|.nil)<|pLoop (lW (ih _ _ h) ⟨u,u,u,u,tv⟩ u)
   ·exact wCF hp34.1 tm (s1 u)<|wExit<|pThenX<|pThenX<|pBlkX<|pJ1 _ (so h) (sb u) u
  ·rintro x33 rfl
   replace h:=hk1
   refine pSeq<|wSeq<|rx (c3<|.nil)<|pSeq<|wRet ?_
   obtain rfl:=so h
   exact pRn (.inl u) u u (.tmp u<|.tmp u<|.nil)
theorem ef.ok{a0:Int} {a1:List Int} {r:Bool}(h:ef.f a0 a1=some r):FnA PP 167 [ki.sig a0,(kL ki).sig a1] (kB.sig r):=by
 refine fnIntro Tryz.func167 u (by kernel_rfl) fun H0 w0=>?_
 unfold ef.f at h
 refine wSeq<|rx (c1<|.nil)<|pSeq<|wSeq ?_
 obtain⟨y1,hy1,h⟩:=bd h
 refine rx (c1<|cC (dG.ok hy1)<|c4<|c1<|.nil)<|pSeq ?_
 obtain⟨o1,h,hk1⟩:=bd h
 refine wJ1 (fun x5=>x5=o1) (fun x5=>[(4,.d (kB.sig x5))]) (fun x5=>[]) ?_ ?_
 ·obtain⟨hp6,h⟩|⟨hp6,h⟩:=ik h
  ·obtain⟨y7,hy7,h⟩:=bd h
   obtain⟨hc8,h⟩:=ib h
   exact rx (c4<|c1<|cgB (dT hp6.1) u u (oIdxG gm0 u237 u z3 hy7 tm) (s1 u)<|c2<|cgB (dT hp6.1) u u (oShr hc8 tm tm) (s2 u u)<|c3<|.nil)<|pJ1 _ (so h) (sb u) u
  ·exact rx (c12<|.nil)<|pJ1 _ (so h) (sb u) u
 ·rintro x5 rfl
  replace h:=hk1
  refine wRet ?_
  obtain rfl:=so h
  exact pR1 (.inl u) u (.tmp u<|.nil)
theorem eM.ok{a0:Int} {a1:aE} {r:Bool}(h:eM.f a0 a1=some r):FnA PP 145 [ki.sig a0,(kR aJ).sig a1] (kB.sig r):=by
 refine fnIntro Tryz.func145 u (by kernel_rfl) fun H0 w0=>?_
 unfold eM.f at h
 refine wSeq<|rx (c2<|.nil)<|pSeq ?_
 obtain⟨o1,h,hk1⟩:=bd h
 refine wJ1 (fun x6=>x6=o1) (fun x6=>[(4,.d (kB.sig x6))]) (fun x6=>[]) ?_ ?_
 ·obtain⟨y7,hy7,h⟩:=bd h
  obtain⟨hp8,h⟩|⟨hp8,h⟩:=ik h
  ·obtain⟨y9,hy9,h⟩:=bd h
   obtain⟨hp10,h⟩|⟨hp10,h⟩:=ik h
   ·obtain⟨y11,hy11,h⟩:=bd h
    exact rx (c3<|cC (ef.ok hy7)<|c4<|cgB hp8.1 u u (oCall u (ef.ok hy9) b167 (oc tm (oc tm o0))) (s2 u u)<|c4<|c1<|cgB hp10.1 u u (oCall u (ef.ok hy11) b167 (oc tm (oc tm o0))) (s2 u u)<|c2<|.nil)<|pJ1 _ (so h) (sb u) u
   ·exact rx (c3<|cC (ef.ok hy7)<|c4<|cgB hp8.1 u u (oCall u (ef.ok hy9) b167 (oc tm (oc tm o0))) (s2 u u)<|c8<|.nil)<|pJ1 _ (so h) (sb u) u
  ·exact rx (c3<|cC (ef.ok hy7)<|c12<|c1<|.nil)<|pJ1 _ (so h) (sb u) u
 ·rintro x6 rfl
  replace h:=hk1
  refine wRet ?_
  obtain rfl:=so h
  exact pR1 (.inl u) u (.tmp u<|.nil)
theorem di.ok{a0:aZ} {r:Int×Int}(h:di.f a0=some r):FnA PP 123 [(kR aL).sig a0] (tup [ki.sig r.1,ki.sig r.2]):=by
 refine fnIntro Tryz.func123 u (by kernel_rfl) fun H0 w0=>?_
 unfold di.f at h
 refine wSeq<|rx (c3<|.nil)<|pSeq<|wSeq<|wSeq<|rx (c4<|.nil)<|pSeq ?_
 obtain⟨hp1,h⟩|⟨hp1,h⟩:=ik h
 ·refine wNT hp1.1 tm (s1 u)<|wSkip<|pSeq<|wSeq<|wSeq<|rx (c4<|.nil)<|pSeq ?_
  obtain⟨o1,h,hk1⟩:=bd h
  refine wK0 (.inr ()=o1) ([]) ([]) ?_ ?_
  ·refine wBlock (wLoop ?_)
   refine lW (pc1 o1 (fun v14=>[(11,.d ((kL (kR aJ)).sig a0.Rows)),(12,.d (ki.sig (a0.Rows.length:Int))),(13,.d (ki.sig v14))]) (fun v14=>[]) (di.l0.partial_correctness a0) ?_ _ h) ⟨u,u,u,tv⟩ u
   clear h
   intro f' ih v14 h
   refine wSeq<|rx (c1<|.nil)<|pSeq<|wSeq ?_
   obtain⟨hp15,h⟩|⟨hp15,h⟩:=ik h
   ·refine wCT hp15.1 tm (s1 u)<|wSkip<|pSeq<|wSeq<|wBlock<|wSeq ?_
    obtain⟨y16,hy16,h⟩:=bd h
    refine rx (c1<|cp (oIdx u26 z58 hy16 tm tm) (s2 u u)<|c1<|cw (oAlloc (id:=5) (ls:=Z58) ze58 zl58) tv<|c1<|cwn (oStA (n:=0) (fs:=aJ) u u z58 tm tm) (s2 u u)<|.nil)<|pSeq<|wBlock<|wSeq ?_
    obtain⟨y17,hy17,h⟩:=bd h
    refine rx (cr (oLdA (n:=0) (fs:=aJ) (u:=⟨y16.May,y16.Res,y16.Pc⟩) u ⟨u,u,u,tv⟩ t58 tm) (s1 u)<|cC (fa.ok hy17)<|c2<|.nil)<|pSeq ?_
    obtain⟨hp18,h⟩|⟨hp18,h⟩:=ik h
    ·refine wBT hp18.1 tm (s1 u)<|wSeq<|rx (c3<|.nil)<|pSeq<|wRet<|pBlkR<|pBlkR<|pThenR<|pThenR<|pBlkR<|pThenR ?_
     obtain rfl:=so h
     replace h:=hk1
     refine pThenR ?_
     obtain rfl:=so h
     exact pRn (.inl u) u u (.tmp u<|.tmp u<|.nil)
    ·refine wBF hp18.1 tm (s1 u)<|wSeq ?_
     obtain⟨y19,hy19,h⟩:=bd h
     refine rx (c1<|cr (oLdA (n:=0) (fs:=aJ) (u:=⟨y16.May,y16.Res,y16.Pc⟩) u ⟨u,u,u,tv⟩ t58 tm) (s1 u)<|cC (eM.ok hy19)<|c2<|.nil)<|pSeq ?_
     obtain⟨hp20,h⟩|⟨hp20,h⟩:=ik h
     ·refine wBT hp20.1 tm (s1 u)<|wSeq<|rx (c3<|.nil)<|pSeq<|wRet<|pBlkR<|pBlkR<|pThenR<|pThenR<|pBlkR<|pThenR ?_
      obtain rfl:=so h
      replace h:=hk1
      refine pThenR ?_
      obtain rfl:=so h
      exact pRn (.inl u) u u (.tmp u<|.tmp u<|.nil)
     ·exact wBF hp20.1 tm (s1 u)<|wSkip<|pBlkN<|pBlkN<|pSeq<|rx (c2<|.nil)<|pDrop (.cons _ .slnil)<|pLoop (lW (ih _ h) ⟨u,u,u,tv⟩ u)
   ·exact wCF hp15.1 tm (s1 u)<|wExit<|pThenX<|pThenX<|pBlkX<|pJ0 (so h) tv u
  ·rintro rfl
   replace h:=hk1
   refine pSeq<|wSeq<|rx (c2<|.nil)<|pSeq<|wRet ?_
   obtain rfl:=so h
   exact pRn (.inl u) u u (.tmp u<|.tmp u<|.nil)
 ·refine wNF hp1.1 tm (s1 u)<|wSeq<|rx (c2<|.nil)<|pSeq<|wRet<|pThenR ?_
  obtain rfl:=so h
  exact pRn (.inl u) u u (.tmp u<|.tmp u<|.nil)
theorem eN.ok{a0:Int} {r:Bool}(h:eN.f a0=some r):FnA PP 148 [ki.sig a0] (kB.sig r):=by
 refine fnIntro Tryz.func148 u (by kernel_rfl) fun H0 w0=>?_
 unfold eN.f at h
 refine wSeq<|rx (c1<|.nil)<|pSeq ?_
 obtain⟨o1,h,hk1⟩:=bd h
 refine wJ1 (fun x2=>x2=o1) (fun x2=>[(2,.d (kB.sig x2))]) (fun x2=>[]) ?_ ?_
 ·obtain⟨hp3,h⟩|⟨hp3,h⟩:=ik h
  ·exact rx (c6<|c1<|.nil)<|pJ1 _ (so h) (sb u) u
  ·exact rx (c6<|c1<|.nil)<|pJ1 _ (so h) (sb u) u
 ·rintro x2 rfl
  replace h:=hk1
  refine wRet ?_
  obtain rfl:=so h
  exact pR1 (.inl u) u (.tmp u<|.nil)
theorem dP.ok{a0:Int} {r:Bool}(h:dP.f a0=some r):FnA PP 150 [ki.sig a0] (kB.sig r):=by
 refine fnIntro Tryz.func150 u (by kernel_rfl) fun H0 w0=>?_
 unfold dP.f at h
 refine wSeq<|rx (c1<|.nil)<|pSeq ?_
 obtain⟨o1,h,hk1⟩:=bd h
 refine wJ1 (fun x2=>x2=o1) (fun x2=>[(2,.d (kB.sig x2))]) (fun x2=>[]) ?_ ?_
 ·obtain⟨hp3,h⟩|⟨hp3,h⟩:=ik h
  ·exact rx (c6<|c1<|.nil)<|pJ1 _ (so h) (sb u) u
  ·exact rx (c6<|c1<|.nil)<|pJ1 _ (so h) (sb u) u
 ·rintro x2 rfl
  replace h:=hk1
  refine wRet ?_
  obtain rfl:=so h
  exact pR1 (.inl u) u (.tmp u<|.nil)
theorem dQ.ok{a0:Int} {a1:Int} {a2:Int} {r:Bool}(h:dQ.f a0 a1 a2=some r):FnA PP 201 [ki.sig a0,sP ki a1,sP ki a2] (kB.sig r):=by
 refine fnIntro Tryz.func201 u (by kernel_rfl) fun H0 w0=>?_
 unfold dQ.f at h
 refine wSeq<|rx (c1<|.nil)<|pSeq ?_
 obtain⟨o1,h,hk1⟩:=bd h
 refine wJ1 (fun x2=>x2=o1) (fun x2=>[(4,.d (kB.sig x2))]) (fun x2=>[]) ?_ ?_
 ·obtain⟨hp3,h⟩|⟨hp3,h⟩:=ik h
  ·exact rx (c8<|c1<|.nil)<|pJ1 _ (so h) (sb u) u
  ·exact rx (c8<|c1<|.nil)<|pJ1 _ (so h) (sb u) u
 ·rintro x2 rfl
  replace h:=hk1
  refine wRet ?_
  obtain rfl:=so h
  exact pR1 (.inl u) u (.tmp u<|.nil)
theorem eB.ok{a0:Int} {a1:Int} {r:Int->Option Bool}(h:eB.f a0 a1=some r):FnA PP 200 [ki.sig a0,ki.sig a1] ((sFun PP (rl1 ki kB r))):=by
 refine fnIntro Tryz.func200 u (by kernel_rfl) fun H0 w0=>?_
 unfold eB.f at h
 refine wSeq<|rx (c2<|cp (oAs cV) tv<|.nil)<|pSeq<|wSeq<|rx (cp (oMkF (Rl:=rl1 ki kB (fun z0=>dQ.f z0 a0 a1)) u b201 (rl1e dQ.ok) (oc tm (oc tm o0))) (s2 u u)<|c1<|.nil)<|pSeq<|wRet ?_
 obtain rfl:=so h
 exact pR1 (.inl u) u (.tmp u<|.nil)
theorem gn.ok{r:List (Int×(Option (Int->Option Bool)))}(h:gn.f=some r):FnA PP 190 [] ((sMap ki (kFn PP (rl1 ki kB)) r)):=by
 refine fnIntro Tryz.func190 u (by kernel_rfl) fun H0 w0=>?_
 unfold gn.f at h
 refine wSeq<|rx (cp (oAs cV) tv<|.nil)<|pSeq<|wSeq<|rx (cp (oAs (oFn b200 (rl2sn (o:=(fun r=>(sFun PP (rl1 ki kB r)))) eB.ok))) tv<|.nil)<|pSeq<|wSeq ?_
 obtain⟨y1,hy1,h⟩:=bd h
 obtain⟨y2,hy2,h⟩:=bd h
 obtain⟨y3,hy3,h⟩:=bd h
 obtain⟨y4,hy4,h⟩:=bd h
 refine rx (cw (oMkMap (id:=2) (dk:=ki) (dv:=(kFn PP (rl1 ki kB)))) tv<|c1<|cp (oCallV u (rl2si (o:=(fun r=>(sFun PP (rl1 ki kB r)))) (f:=eB.f) hy1) tm (oc (cI (by decide)) (oc (cI (by decide)) o0))) (s1 u)<|cwn (oInsert (n:=0) (dk:=ki) (dv:=(kFn PP (rl1 ki kB))) u u239 mk3 u u tm (cI (by decide)) (oSome tm)) (s2 u u)<|c1<|cp (oCallV u (rl2si (o:=(fun r=>(sFun PP (rl1 ki kB r)))) (f:=eB.f) hy2) tm (oc (cI (by decide)) (oc (cI (by decide)) o0))) (s1 u)<|cwn (oInsert (n:=0) (dk:=ki) (dv:=(kFn PP (rl1 ki kB))) u u239 mk3 u u tm (cI (by decide)) (oSome tm)) (s2 u u)<|c1<|cp (oCallV u (rl2si (o:=(fun r=>(sFun PP (rl1 ki kB r)))) (f:=eB.f) hy3) tm (oc (cI (by decide)) (oc (cI (by decide)) o0))) (s1 u)<|cwn (oInsert (n:=0) (dk:=ki) (dv:=(kFn PP (rl1 ki kB))) u u239 mk3 u u tm (cI (by decide)) (oSome tm)) (s2 u u)<|c1<|cp (oCallV u (rl2si (o:=(fun r=>(sFun PP (rl1 ki kB r)))) (f:=eB.f) hy4) tm (oc (cI (by decide)) (oc (cI (by decide)) o0))) (s1 u)<|cwn (oInsert (n:=0) (dk:=ki) (dv:=(kFn PP (rl1 ki kB))) u u239 mk3 u u tm (cI (by decide)) (oSome tm)) (s2 u u)<|c2<|.nil)<|pSeq<|wFrzM (n:=0) (id:=2) 0 u u<|wRet ?_
 obtain rfl:=so h
 exact pR1 (.inl u) u (.tmp u<|.nil)
theorem f2.ok{a0:Int} {a1:ap} {r:Bool}(h:f2.f a0 a1=some r):FnA PP 169 [ki.sig a0,(kR ao).sig a1] (kB.sig r):=by
 refine fnIntro Tryz.func169 u (by kernel_rfl) fun H0 w0=>?_
 unfold f2.f at h
 refine wSeq<|rx (c2<|.nil)<|pSeq<|wSeq ?_
 obtain⟨o1,h,hk1⟩:=bd h
 refine wJ1 (fun x2=>x2=o1) (fun x2=>[(0,.d (ki.sig a0)),(3,.d (sP (kR ao) a1)),(14,.d (kB.sig x2))]) (fun x2=>[]) ?_ ?_
 ·obtain⟨hp3,h⟩|⟨hp3,h⟩:=ik h
  ·exact rx (c8<|.nil)<|pJ1 _ (so h) (sb u) u
  ·exact rx (c8<|.nil)<|pJ1 _ (so h) (sb u) u
 ·rintro x2 rfl
  replace h:=hk1
  obtain⟨hp4,h⟩|⟨hp4,h⟩:=ik h
  ·refine wBT hp4.1 tm (s1 u)<|wSeq<|rx (c1<|.nil)<|pSeq<|wRet<|pThenR ?_
   obtain rfl:=so h
   exact pR1 (.inl u) u (.tmp u<|.nil)
  ·refine wBF hp4.1 tm (s1 u)<|wSkip<|pSeq<|wSeq<|wSeq ?_
   obtain⟨y5,hy5,h⟩:=bd h
   refine rdx hm (cC (gn.ok hy5)<|c2<|cp (oLookup u239 mk3 zv117 zFn u tm tm) (s2 u u)<|c4<|c1<|.nil)<|pSeq ?_
   obtain⟨o1,h,hk1⟩:=bd h
   refine wJ1 (fun x12=>x12=o1) (fun x12=>[(0,.d (ki.sig a0)),(3,.d (sP (kR ao) a1)),(38,.d (kB.sig x12))]) (fun x12=>[]) ?_ ?_
   ·obtain⟨hp13,h⟩|⟨hp13,h⟩:=ik h
    ·obtain⟨y14,hy14,h⟩:=bd h
     obtain⟨y15,hy15,h⟩:=bd h
     obtain⟨hp16,h⟩|⟨hp16,h⟩:=ik h
     ·exact rx (c4<|c1<|cgB hp13.1 u u (oCallV u (rl1i (f:=y14) hy15) (oGot hy14 tm) (oc tm o0)) (s2 u u)<|c6<|csU u u<|csU u u<|csU u u<|c2<|.nil)<|pJ1 _ (so h) (sb u) u
     ·obtain⟨hp17,h⟩|⟨hp17,h⟩:=ik h
      ·exact rx (c4<|c1<|cgB hp13.1 u u (oCallV u (rl1i (f:=y14) hy15) (oGot hy14 tm) (oc tm o0)) (s2 u u)<|c8<|c3<|.nil)<|pJ1 _ (so h) (sb u) u
      ·exact rx (c4<|c1<|cgB hp13.1 u u (oCallV u (rl1i (f:=y14) hy15) (oGot hy14 tm) (oc tm o0)) (s2 u u)<|c8<|c3<|.nil)<|pJ1 _ (so h) (sb u) u
    ·obtain⟨hp18,h⟩|⟨hp18,h⟩:=ik h
     ·exact rx (c12<|c4<|c1<|.nil)<|pJ1 _ (so h) (sb u) u
     ·exact rx (c12<|c4<|c1<|.nil)<|pJ1 _ (so h) (sb u) u
   ·rintro x12 rfl
    replace h:=hk1
    obtain⟨hp19,h⟩|⟨hp19,h⟩:=ik h
    ·refine wBT hp19.1 tm (s1 u)<|wSeq<|rx (c1<|.nil)<|pSeq<|wRet<|pThenR ?_
     obtain rfl:=so h
     exact pR1 (.inl u) u (.tmp u<|.nil)
    ·refine wBF hp19.1 tm (s1 u)<|wSkip<|pSeq<|wSeq<|wSeq<|rx (c3<|.nil)<|pSeq ?_
     obtain⟨hp20,h⟩|⟨hp20,h⟩:=ik h
     ·refine wCT hp20.1 tm (s1 u) ?_
      obtain⟨o1,h,hk1⟩:=bd h
      refine wJ1 (fun x22=>x22=o1) (fun x22=>[(4,.d (kB.sig x22))]) (fun x22=>[]) ?_ ?_
      ·obtain⟨hp23,h⟩|⟨hp23,h⟩:=ik h
       ·exact rx (c8<|c2<|.nil)<|pJ1 _ (so h) (sb u) u
       ·exact rx (c8<|c2<|.nil)<|pJ1 _ (so h) (sb u) u
      ·rintro x22 rfl
       replace h:=hk1
       refine wRet<|pThenR ?_
       obtain rfl:=so h
       exact pR1 (.inl u) u (.tmp u<|.nil)
     ·refine wCF hp20.1 tm (s1 u)<|wSkip<|pSeq<|wSeq<|rx (c4<|.nil)<|pSeq<|wRet ?_
      obtain rfl:=so h
      exact pR1 (.inl u) u (.tmp u<|.nil)
theorem aH.ok{a0:List ap} {a1:ap->Option Bool} {r:Int}(h:aH.f a0 a1=some r):FnA PP 191 [(kL (kR ao)).sig a0,(sFun PP (rl1 (kR ao) kB a1))] (ki.sig r):=by
 refine fnIntro Tryz.func191 u (by kernel_rfl) fun H0 w0=>?_
 unfold aH.f at h
 refine wSeq<|rx (c1<|.nil)<|pSeq<|wSeq<|wSeq<|rx (c3<|.nil)<|pSeq ?_
 obtain⟨o1,h,hk1⟩:=bd h
 refine wK0 (.inr ()=o1) ([]) ([]) ?_ ?_
 ·refine wBlock (wLoop ?_)
  refine lW (pc1 o1 (fun v9=>[(0,.d ((kL (kR ao)).sig a0)),(1,.d ((sFun PP (rl1 (kR ao) kB a1)))),(7,.d (ki.sig (a0.length:Int))),(8,.d (ki.sig v9))]) (fun v9=>[]) (aH.l0.partial_correctness a0 a1) ?_ _ h) ⟨u,u,u,u,tv⟩ u
  clear h
  intro f' ih v9 h
  refine wSeq<|rx (c1<|.nil)<|pSeq<|wSeq ?_
  obtain⟨hp10,h⟩|⟨hp10,h⟩:=ik h
  ·refine wCT hp10.1 tm (s1 u)<|wSkip<|pSeq<|wSeq<|wBlock<|wSeq<|rx (c2<|.nil)<|pSeq<|wSeq ?_
   obtain⟨y11,hy11,h⟩:=bd h
   obtain⟨y12,hy12,h⟩:=bd h
   refine rx (c3<|cp (oIdx u31 z73 hy11 tm tm) (s2 u u)<|c1<|cp (oCallV u (rl1i (f:=a1) hy12) tm (oc tm o0)) (s2 u u)<|.nil)<|pSeq ?_
   obtain⟨hp13,h⟩|⟨hp13,h⟩:=ik h
   ·refine wBT hp13.1 tm (s1 u)<|wSeq<|rx (c2<|.nil)<|pSeq<|wRet<|pBlkR<|pThenR<|pThenR<|pBlkR<|pThenR ?_
    obtain rfl:=so h
    replace h:=hk1
    refine pThenR ?_
    obtain rfl:=so h
    exact pR1 (.inl u) u (.tmp u<|.nil)
   ·exact wBF hp13.1 tm (s1 u)<|wSkip<|pBlkN<|pSeq<|rx (c2<|.nil)<|pLoop (lW (ih _ h) ⟨u,u,u,u,tv⟩ u)
  ·exact wCF hp10.1 tm (s1 u)<|wExit<|pThenX<|pThenX<|pBlkX<|pJ0 (so h) tv u
 ·rintro rfl
  replace h:=hk1
  refine pSeq<|wSeq<|rx (c1<|.nil)<|pSeq<|wRet ?_
  obtain rfl:=so h
  exact pR1 (.inl u) u (.tmp u<|.nil)
theorem bL.ok{a0:List ap} {a1:ap->Option Bool} {r:Bool}(h:bL.f a0 a1=some r):FnA PP 170 [(kL (kR ao)).sig a0,(sFun PP (rl1 (kR ao) kB a1))] (kB.sig r):=by
 refine fnIntro Tryz.func170 u (by kernel_rfl) fun H0 w0=>?_
 unfold bL.f at h
 refine wSeq<|rx (c1<|.nil)<|pSeq<|wSeq ?_
 obtain⟨y1,hy1,h⟩:=bd h
 refine rx (c2<|cC (aH.ok hy1)<|c2<|.nil)<|pSeq<|wRet ?_
 obtain rfl:=so h
 exact pR1 (.inl u) u (.tmp u<|.nil)
theorem fb.ok{a0:ap} {a1:ab} {r:Bool}(h:fb.f a0 a1=some r):FnA PP 168 [(kR ao).sig a0,sP (kR aj) a1] (kB.sig r):=by
 refine fnIntro Tryz.func168 u (by kernel_rfl) fun H0 w0=>?_
 unfold fb.f at h
 refine wSeq<|rx (c2<|.nil)<|pSeq<|wSeq ?_
 obtain⟨y1,hy1,h⟩:=bd h
 refine rx (c4<|cC (f2.ok hy1)<|c2<|.nil)<|pSeq<|wRet ?_
 obtain rfl:=so h
 exact pR1 (.inl u) u (.tmp u<|.nil)
theorem dZ.ok{a0:ab} {a1:List ap} {r:Bool}(h:dZ.f a0 a1=some r):FnA PP 151 [(kR aj).sig a0,(kL (kR ao)).sig a1] (kB.sig r):=by
 refine fnIntro Tryz.func151 u (by kernel_rfl) fun H0 w0=>?_
 unfold dZ.f at h
 refine wSeq<|rx (c2<|.nil)<|pSeq<|wSeq<|rx (cp (oMkF (Rl:=rl1 (kR ao) kB (fun z0=>fb.f z0 a0)) u b168 (rl1e fb.ok) (oc tm o0)) (s1 u)<|c1<|.nil)<|pSeq ?_
 obtain⟨o1,h,hk1⟩:=bd h
 refine wJ1 (fun x5=>x5=o1) (fun x5=>[(4,.d (kB.sig x5))]) (fun x5=>[]) ?_ ?_
 ·obtain⟨y6,hy6,h⟩:=bd h
  obtain⟨hp7,h⟩|⟨hp7,h⟩:=ik h
  ·obtain⟨hp8,h⟩|⟨hp8,h⟩:=ik h
   ·obtain⟨y9,hy9,h⟩:=bd h
    exact rx (c1<|cC (bK.ok hy6)<|c8<|c1<|cgB (dT hp8.1) u u (oCall u (bL.ok hy9) b170 (oc tm (oc tm o0))) (s2 u u)<|c3<|.nil)<|pJ1 _ (so h) (sb u) u
   ·exact rx (c1<|cC (bK.ok hy6)<|c12<|c1<|.nil)<|pJ1 _ (so h) (sb u) u
  ·exact rx (c1<|cC (bK.ok hy6)<|c12<|c1<|.nil)<|pJ1 _ (so h) (sb u) u
 ·rintro x5 rfl
  replace h:=hk1
  refine wRet ?_
  obtain rfl:=so h
  exact pR1 (.inl u) u (.tmp u<|.nil)
theorem aF.ok{a0:List am} {a1:am->Option Bool} {r:Int}(h:aF.f a0 a1=some r):FnA PP 126 [(kL (kR ai)).sig a0,(sFun PP (rl1 (kR ai) kB a1))] (ki.sig r):=by
 refine fnIntro Tryz.func126 u (by kernel_rfl) fun H0 w0=>?_
 unfold aF.f at h
 refine wSeq<|rx (c1<|.nil)<|pSeq<|wSeq<|wSeq<|rx (c3<|.nil)<|pSeq ?_
 obtain⟨o1,h,hk1⟩:=bd h
 refine wK0 (.inr ()=o1) ([]) ([]) ?_ ?_
 ·refine wBlock (wLoop ?_)
  refine lW (pc1 o1 (fun v9=>[(0,.d ((kL (kR ai)).sig a0)),(1,.d ((sFun PP (rl1 (kR ai) kB a1)))),(7,.d (ki.sig (a0.length:Int))),(8,.d (ki.sig v9))]) (fun v9=>[]) (aF.l0.partial_correctness a0 a1) ?_ _ h) ⟨u,u,u,u,tv⟩ u
  clear h
  intro f' ih v9 h
  refine wSeq<|rx (c1<|.nil)<|pSeq<|wSeq ?_
  obtain⟨hp10,h⟩|⟨hp10,h⟩:=ik h
  ·refine wCT hp10.1 tm (s1 u)<|wSkip<|pSeq<|wSeq<|wBlock<|wSeq<|rx (c2<|.nil)<|pSeq<|wSeq ?_
   obtain⟨y11,hy11,h⟩:=bd h
   obtain⟨y12,hy12,h⟩:=bd h
   refine rx (c3<|cp (oIdx u32 z30 hy11 tm tm) (s2 u u)<|c1<|cp (oCallV u (rl1i (f:=a1) hy12) tm (oc tm o0)) (s2 u u)<|.nil)<|pSeq ?_
   obtain⟨hp13,h⟩|⟨hp13,h⟩:=ik h
   ·refine wBT hp13.1 tm (s1 u)<|wSeq<|rx (c2<|.nil)<|pSeq<|wRet<|pBlkR<|pThenR<|pThenR<|pBlkR<|pThenR ?_
    obtain rfl:=so h
    replace h:=hk1
    refine pThenR ?_
    obtain rfl:=so h
    exact pR1 (.inl u) u (.tmp u<|.nil)
   ·exact wBF hp13.1 tm (s1 u)<|wSkip<|pBlkN<|pSeq<|rx (c2<|.nil)<|pLoop (lW (ih _ h) ⟨u,u,u,u,tv⟩ u)
  ·exact wCF hp10.1 tm (s1 u)<|wExit<|pThenX<|pThenX<|pBlkX<|pJ0 (so h) tv u
 ·rintro rfl
  replace h:=hk1
  refine pSeq<|wSeq<|rx (c1<|.nil)<|pSeq<|wRet ?_
  obtain rfl:=so h
  exact pR1 (.inl u) u (.tmp u<|.nil)
theorem bh.ok{a0:List am} {a1:am->Option Bool} {r:Bool}(h:bh.f a0 a1=some r):FnA PP 152 [(kL (kR ai)).sig a0,(sFun PP (rl1 (kR ai) kB a1))] (kB.sig r):=by
 refine fnIntro Tryz.func152 u (by kernel_rfl) fun H0 w0=>?_
 unfold bh.f at h
 refine wSeq<|rx (c1<|.nil)<|pSeq<|wSeq ?_
 obtain⟨y1,hy1,h⟩:=bd h
 refine rx (c2<|cC (aF.ok hy1)<|c2<|.nil)<|pSeq<|wRet ?_
 obtain rfl:=so h
 exact pR1 (.inl u) u (.tmp u<|.nil)
theorem aK.ok{a0:List al} {a1:al->Option Bool} {r:Int}(h:aK.f a0 a1=some r):FnA PP 171 [(kL (kR ak)).sig a0,(sFun PP (rl1 (kR ak) kB a1))] (ki.sig r):=by
 refine fnIntro Tryz.func171 u (by kernel_rfl) fun H0 w0=>?_
 unfold aK.f at h
 refine wSeq<|rx (c1<|.nil)<|pSeq<|wSeq<|wSeq<|rx (c3<|.nil)<|pSeq ?_
 obtain⟨o1,h,hk1⟩:=bd h
 refine wK0 (.inr ()=o1) ([]) ([]) ?_ ?_
 ·refine wBlock (wLoop ?_)
  refine lW (pc1 o1 (fun v9=>[(0,.d ((kL (kR ak)).sig a0)),(1,.d ((sFun PP (rl1 (kR ak) kB a1)))),(7,.d (ki.sig (a0.length:Int))),(8,.d (ki.sig v9))]) (fun v9=>[]) (aK.l0.partial_correctness a0 a1) ?_ _ h) ⟨u,u,u,u,tv⟩ u
  clear h
  intro f' ih v9 h
  refine wSeq<|rx (c1<|.nil)<|pSeq<|wSeq ?_
  obtain⟨hp10,h⟩|⟨hp10,h⟩:=ik h
  ·refine wCT hp10.1 tm (s1 u)<|wSkip<|pSeq<|wSeq<|wBlock<|wSeq<|rx (c2<|.nil)<|pSeq<|wSeq ?_
   obtain⟨y11,hy11,h⟩:=bd h
   obtain⟨y12,hy12,h⟩:=bd h
   refine rx (c3<|cp (oIdx u33 z88 hy11 tm tm) (s2 u u)<|c1<|cp (oCallV u (rl1i (f:=a1) hy12) tm (oc tm o0)) (s2 u u)<|.nil)<|pSeq ?_
   obtain⟨hp13,h⟩|⟨hp13,h⟩:=ik h
   ·refine wBT hp13.1 tm (s1 u)<|wSeq<|rx (c2<|.nil)<|pSeq<|wRet<|pBlkR<|pThenR<|pThenR<|pBlkR<|pThenR ?_
    obtain rfl:=so h
    replace h:=hk1
    refine pThenR ?_
    obtain rfl:=so h
    exact pR1 (.inl u) u (.tmp u<|.nil)
   ·exact wBF hp13.1 tm (s1 u)<|wSkip<|pBlkN<|pSeq<|rx (c2<|.nil)<|pLoop (lW (ih _ h) ⟨u,u,u,u,tv⟩ u)
  ·exact wCF hp10.1 tm (s1 u)<|wExit<|pThenX<|pThenX<|pBlkX<|pJ0 (so h) tv u
 ·rintro rfl
  replace h:=hk1
  refine pSeq<|wSeq<|rx (c1<|.nil)<|pSeq<|wRet ?_
  obtain rfl:=so h
  exact pR1 (.inl u) u (.tmp u<|.nil)
theorem bz.ok{a0:List al} {a1:al->Option Bool} {r:Bool}(h:bz.f a0 a1=some r):FnA PP 153 [(kL (kR ak)).sig a0,(sFun PP (rl1 (kR ak) kB a1))] (kB.sig r):=by
 refine fnIntro Tryz.func153 u (by kernel_rfl) fun H0 w0=>?_
 unfold bz.f at h
 refine wSeq<|rx (c1<|.nil)<|pSeq<|wSeq ?_
 obtain⟨y1,hy1,h⟩:=bd h
 refine rx (c2<|cC (aK.ok hy1)<|c2<|.nil)<|pSeq<|wRet ?_
 obtain rfl:=so h
 exact pR1 (.inl u) u (.tmp u<|.nil)
theorem cz.ok{a0:Int} {a1:ab} {r:Bool}(h:cz.f a0 a1=some r):FnA PP 146 [ki.sig a0,sP (kR aj) a1] (kB.sig r):=by
 refine fnIntro Tryz.func146 u (by kernel_rfl) fun H0 w0=>?_
 unfold cz.f at h
 refine wSeq<|rx (c1<|.nil)<|pSeq ?_
 obtain⟨o1,h,hk1⟩:=bd h
 refine wJ1 (fun x2=>x2=o1) (fun x2=>[(3,.d (kB.sig x2))]) (fun x2=>[]) ?_ ?_
 ·obtain⟨hp3,h⟩|⟨hp3,h⟩:=ik h
  ·exact rx (c8<|c2<|.nil)<|pJ1 _ (so h) (sb u) u
  ·exact rx (c8<|c2<|.nil)<|pJ1 _ (so h) (sb u) u
 ·rintro x2 rfl
  replace h:=hk1
  refine wRet ?_
  obtain rfl:=so h
  exact pR1 (.inl u) u (.tmp u<|.nil)
theorem eO.ok{a0:am} {a1:Option (Int->Option Bool)} {r:Bool}(h:eO.f a0 a1=some r):FnA PP 147 [(kR ai).sig a0,sP (kFn PP (rl1 ki kB)) a1] (kB.sig r):=by
 refine fnIntro Tryz.func147 u (by kernel_rfl) fun H0 w0=>?_
 unfold eO.f at h
 refine wSeq<|rx (c2<|.nil)<|pSeq ?_
 obtain⟨o1,h,hk1⟩:=bd h
 refine wJ1 (fun x5=>x5=o1) (fun x5=>[(3,.d (kB.sig x5))]) (fun x5=>[]) ?_ ?_
 ·obtain⟨y6,hy6,h⟩:=bd h
  obtain⟨hp7,h⟩|⟨hp7,h⟩:=ik h
  ·exact rx (c2<|cC (eN.ok hy6)<|c8<|c1<|.nil)<|pJ1 _ (so h) (sb u) u
  ·obtain⟨y8,hy8,h⟩:=bd h
   obtain⟨y9,hy9,h⟩:=bd h
   exact rx (c2<|cC (eN.ok hy6)<|c4<|c1<|cgB (nb hp7.1) u u (oCallV u (rl1i (f:=y8) hy9) (oGot hy8 tm) (oc tm o0)) (s2 u u)<|c3<|.nil)<|pJ1 _ (so h) (sb u) u
 ·rintro x5 rfl
  replace h:=hk1
  refine wRet ?_
  obtain rfl:=so h
  exact pR1 (.inl u) u (.tmp u<|.nil)
theorem fd.ok{a0:al} {a1:Option (Int->Option Bool)} {r:Bool}(h:fd.f a0 a1=some r):FnA PP 149 [(kR ak).sig a0,sP (kFn PP (rl1 ki kB)) a1] (kB.sig r):=by
 refine fnIntro Tryz.func149 u (by kernel_rfl) fun H0 w0=>?_
 unfold fd.f at h
 refine wSeq<|rx (c2<|.nil)<|pSeq ?_
 obtain⟨o1,h,hk1⟩:=bd h
 refine wJ1 (fun x11=>x11=o1) (fun x11=>[(3,.d (kB.sig x11))]) (fun x11=>[]) ?_ ?_
 ·obtain⟨y12,hy12,h⟩:=bd h
  obtain⟨y13,hy13,h⟩:=bd h
  obtain⟨hp14,h⟩|⟨hp14,h⟩:=ik h
  ·exact rx (c3<|cp (oCallV u (rl1i (f:=y12) hy13) (oGot hy12 tm) (oc tm o0)) (s2 u u)<|c6<|csU u u<|csU u u<|csU u u<|csU u u<|c6<|csU u u<|csU u u<|csU u u<|csU u u<|c3<|.nil)<|pJ1 _ (so h) (sb u) u
  ·obtain⟨hp15,h⟩|⟨hp15,h⟩:=ik h
   ·obtain⟨y16,hy16,h⟩:=bd h
    obtain⟨hp17,h⟩|⟨hp17,h⟩:=ik h
    ·exact rx (c3<|cp (oCallV u (rl1i (f:=y12) hy13) (oGot hy12 tm) (oc tm o0)) (s2 u u)<|c8<|cgB hp15.1 u u (oCall u (eN.ok hy16) b148 (oc tm o0)) (s1 u)<|c6<|c1<|csU u u<|csU u u<|csU u u<|csU u u<|c3<|.nil)<|pJ1 _ (so h) (sb u) u
    ·obtain⟨hp18,h⟩|⟨hp18,h⟩:=ik h
     ·obtain⟨y19,hy19,h⟩:=bd h
      exact rx (c3<|cp (oCallV u (rl1i (f:=y12) hy13) (oGot hy12 tm) (oc tm o0)) (s2 u u)<|c8<|cgB hp15.1 u u (oCall u (eN.ok hy16) b148 (oc tm o0)) (s1 u)<|c8<|c1<|cgB hp18.1 u u (oCall u (dP.ok hy19) b150 (oc tm o0)) (s1 u)<|c4<|.nil)<|pJ1 _ (so h) (sb u) u
     ·exact rx (c3<|cp (oCallV u (rl1i (f:=y12) hy13) (oGot hy12 tm) (oc tm o0)) (s2 u u)<|c8<|cgB hp15.1 u u (oCall u (eN.ok hy16) b148 (oc tm o0)) (s1 u)<|c12<|c2<|.nil)<|pJ1 _ (so h) (sb u) u
   ·obtain⟨hp20,h⟩|⟨hp20,h⟩:=ik h
    ·obtain⟨y21,hy21,h⟩:=bd h
     exact rx (c3<|cp (oCallV u (rl1i (f:=y12) hy13) (oGot hy12 tm) (oc tm o0)) (s2 u u)<|c12<|c6<|cgB hp20.1 u u (oCall u (dP.ok hy21) b150 (oc tm o0)) (s1 u)<|c4<|.nil)<|pJ1 _ (so h) (sb u) u
    ·exact rx (c3<|cp (oCallV u (rl1i (f:=y12) hy13) (oGot hy12 tm) (oc tm o0)) (s2 u u)<|c12<|c8<|c3<|.nil)<|pJ1 _ (so h) (sb u) u
 ·rintro x11 rfl
  replace h:=hk1
  refine wRet ?_
  obtain rfl:=so h
  exact pR1 (.inl u) u (.tmp u<|.nil)
theorem dW.ok{a0:ab} {a1:aa} {r:Bool}(h:dW.f a0 a1=some r):FnA PP 124 [(kR aj).sig a0,(kR ae).sig a1] (kB.sig r):=by
 refine fnIntro Tryz.func124 u (by kernel_rfl) fun H0 w0=>?_
 unfold dW.f at h
 refine wSeq<|rx (c3<|.nil)<|pSeq<|wSeq<|rx (cp (oMkF (Rl:=rl1 ki kB (fun z0=>cz.f z0 a0)) u b146 (rl1e cz.ok) (oc tm o0)) (s1 u)<|cw (oAlloc (id:=5) (ls:=[.d (kFn PP (rl1 ki kB)) none]) ze117 (fun g=>⟨[.nilFunc],_,u,zFn g.H,u⟩)) tv<|cwn (oSt (n:=0) (k:=0) u u u u z117 tm (oSome tm)) (s2 u u)<|.nil)<|pSeq<|wSeq<|wFrzV 5 (n:=0) (id:=5) u u u<|rx (cp (oMkF (Rl:=rl1 (kR ai) kB (fun z0=>eO.f z0 (some (fun z0=>cz.f z0 a0)))) u b147 (rl1e eO.ok) (oc tm o0)) (s1 u)<|c1<|.nil)<|pSeq<|wSeq<|rx (cp (oMkF (Rl:=rl1 (kR ak) kB (fun z0=>fd.f z0 (some (fun z0=>cz.f z0 a0)))) u b149 (rl1e fd.ok) (oc tm o0)) (s1 u)<|c1<|.nil)<|pSeq ?_
 obtain⟨o1,h,hk1⟩:=bd h
 refine wJ1 (fun x3=>x3=o1) (fun x3=>[(2,.d (sP (kR aj) a0)),(3,.d (sP (kR ae) a1)),(5,.d (sP (kFn PP (rl1 ki kB)) (some (fun z0=>cz.f z0 a0)))),(6,.d ((sFun PP (rl1 (kR ai) kB (fun z0=>eO.f z0 (some (fun z0=>cz.f z0 a0))))))),(7,.d ((sFun PP (rl1 (kR ak) kB (fun z0=>fd.f z0 (some (fun z0=>cz.f z0 a0))))))),(8,.d (kB.sig x3))]) (fun x3=>[]) ?_ ?_
 ·obtain⟨hp4,h⟩|⟨hp4,h⟩:=ik h
  ·obtain⟨hp5,h⟩|⟨hp5,h⟩:=ik h
   ·exact rx (c12<|c4<|c1<|.nil)<|pJ1 _ (so h) (sb u) u
   ·exact rx (c12<|c4<|c1<|.nil)<|pJ1 _ (so h) (sb u) u
  ·exact rx (c12<|c4<|c1<|.nil)<|pJ1 _ (so h) (sb u) u
 ·rintro x3 rfl
  replace h:=hk1
  obtain⟨o1,h,hk1⟩:=bd h
  refine wJ1 (fun x19=>x19=o1) (fun x19=>[(4,.d (kB.sig x19))]) (fun x19=>[]) ?_ ?_
  ·obtain⟨y20,hy20,h⟩:=bd h
   obtain⟨hp21,h⟩|⟨hp21,h⟩:=ik h
   ·obtain⟨y22,hy22,h⟩:=bd h
    obtain⟨hp23,h⟩|⟨hp23,h⟩:=ik h
    ·obtain⟨y24,hy24,h⟩:=bd h
     obtain⟨y25,hy25,h⟩:=bd h
     obtain⟨hp26,h⟩|⟨hp26,h⟩:=ik h
     ·obtain⟨hp27,h⟩|⟨hp27,h⟩:=ik h
      ·obtain⟨y28,hy28,h⟩:=bd h
       obtain⟨hp29,h⟩|⟨hp29,h⟩:=ik h
       ·obtain⟨y30,hy30,h⟩:=bd h
        obtain⟨hp31,h⟩|⟨hp31,h⟩:=ik h
        ·obtain⟨y32,hy32,h⟩:=bd h
         exact rx (c3<|cC (dZ.ok hy20)<|c4<|cgB hp21.1 u u (oCall u (dP.ok hy22) b150 (oc tm o0)) (s1 u)<|c6<|cgB hp23.1 u u (oCallV u (rl1i (f:=y24) hy25) (oGot hy24 tm) (oc tm o0)) (s2 u u)<|c8<|cgB hp27.1 u u (oCall u (bh.ok hy28) b152 (oc tm (oc tm o0))) (s2 u u)<|c6<|cgB hp29.1 u u (oCall u (bz.ok hy30) b153 (oc tm (oc tm o0))) (s2 u u)<|c6<|cgB hp31.1 u u (oCall u (bh.ok hy32) b152 (oc tm (oc tm o0))) (s2 u u)<|c3<|.nil)<|pJ1 _ (so h) (sb u) u
        ·exact rx (c3<|cC (dZ.ok hy20)<|c4<|cgB hp21.1 u u (oCall u (dP.ok hy22) b150 (oc tm o0)) (s1 u)<|c6<|cgB hp23.1 u u (oCallV u (rl1i (f:=y24) hy25) (oGot hy24 tm) (oc tm o0)) (s2 u u)<|c8<|cgB hp27.1 u u (oCall u (bh.ok hy28) b152 (oc tm (oc tm o0))) (s2 u u)<|c6<|cgB hp29.1 u u (oCall u (bz.ok hy30) b153 (oc tm (oc tm o0))) (s2 u u)<|c8<|c2<|.nil)<|pJ1 _ (so h) (sb u) u
       ·exact rx (c3<|cC (dZ.ok hy20)<|c4<|cgB hp21.1 u u (oCall u (dP.ok hy22) b150 (oc tm o0)) (s1 u)<|c6<|cgB hp23.1 u u (oCallV u (rl1i (f:=y24) hy25) (oGot hy24 tm) (oc tm o0)) (s2 u u)<|c8<|cgB hp27.1 u u (oCall u (bh.ok hy28) b152 (oc tm (oc tm o0))) (s2 u u)<|c12<|c4<|c1<|.nil)<|pJ1 _ (so h) (sb u) u
      ·exact rx (c3<|cC (dZ.ok hy20)<|c4<|cgB hp21.1 u u (oCall u (dP.ok hy22) b150 (oc tm o0)) (s1 u)<|c6<|cgB hp23.1 u u (oCallV u (rl1i (f:=y24) hy25) (oGot hy24 tm) (oc tm o0)) (s2 u u)<|c12<|c12<|c2<|.nil)<|pJ1 _ (so h) (sb u) u
     ·exact rx (c3<|cC (dZ.ok hy20)<|c4<|cgB hp21.1 u u (oCall u (dP.ok hy22) b150 (oc tm o0)) (s1 u)<|c6<|cgB hp23.1 u u (oCallV u (rl1i (f:=y24) hy25) (oGot hy24 tm) (oc tm o0)) (s2 u u)<|c12<|c12<|c2<|.nil)<|pJ1 _ (so h) (sb u) u
    ·exact rx (c3<|cC (dZ.ok hy20)<|c4<|cgB hp21.1 u u (oCall u (dP.ok hy22) b150 (oc tm o0)) (s1 u)<|c12<|c12<|c8<|c1<|.nil)<|pJ1 _ (so h) (sb u) u
   ·exact rx (c3<|cC (dZ.ok hy20)<|c12<|c12<|c12<|c2<|.nil)<|pJ1 _ (so h) (sb u) u
  ·rintro x19 rfl
   replace h:=hk1
   refine wRet ?_
   obtain rfl:=so h
   exact pR1 (.inl u) u (.tmp u<|.nil)
theorem bF.ok{a0:Bool} {z:Pn⊕Unit}(h:bF.f a0=some z):FnZ PP 155 [.d (kB.sig a0)] [] [] 199 (fun(r:Unit)=>.d (tup [])) (fun(r:Unit)=>[]) z:=by
 refine fnIntroZ Tryz.func155 u (by kernel_rfl) fun X H0 w0 pv=>?_
 unfold bF.f at h
 refine wSeq<|rx (c2<|.nil)<|pSeq ?_
 obtain⟨hp1,h⟩|⟨hp1,h⟩:=ik h
 ·refine wBT hp1.1 tm (s1 u)<|wT0<|wTk 0 1 (cp (oMkX 3 cb199 (cI (by decide))) tv<|.nil) (by kernel_rfl) u<|wTx (Γp:=[]) 1 u (oPanic tm) u u (s1 u) tv ?_
  obtain rfl:=so h
  exact pX
 ·refine wBF hp1.1 tm (s1 u)<|wSkip ?_
  obtain rfl:=so h
  exact pZ<|pSn [] u u (.inr u) u u (.nil)
theorem bF.okR{a0:Bool} {r:Unit}(h:bF.f a0=some (.inr r)):FnS PP 155 [.d (kB.sig a0)] [] [] (.d (tup [])) []:=bF.ok h
theorem bF.okP{a0:Bool} {n:Pn}(h:bF.f a0=some (.inl n)):FnX PP 155 [.d (kB.sig a0)] [] (pvv 199 n):=bF.ok h
theorem aO.ok{a0:List Int} {a1:Int->Option Bool} {r:Int}(h:aO.f a0 a1=some r):FnA PP 112 [(kL ki).sig a0,(sFun PP (rl1 ki kB a1))] (ki.sig r):=by
 refine fnIntro Tryz.func112 u (by kernel_rfl) fun H0 w0=>?_
 unfold aO.f at h
 refine wSeq<|rx (c1<|.nil)<|pSeq<|wSeq<|wSeq<|rx (c3<|.nil)<|pSeq ?_
 obtain⟨o1,h,hk1⟩:=bd h
 refine wK0 (.inr ()=o1) ([]) ([]) ?_ ?_
 ·refine wBlock (wLoop ?_)
  refine lW (pc1 o1 (fun v9=>[(0,.d ((kL ki).sig a0)),(1,.d ((sFun PP (rl1 ki kB a1)))),(7,.d (ki.sig (a0.length:Int))),(8,.d (ki.sig v9))]) (fun v9=>[]) (aO.l0.partial_correctness a0 a1) ?_ _ h) ⟨u,u,u,u,tv⟩ u
  clear h
  intro f' ih v9 h
  refine wSeq<|rx (c1<|.nil)<|pSeq<|wSeq ?_
  obtain⟨hp10,h⟩|⟨hp10,h⟩:=ik h
  ·refine wCT hp10.1 tm (s1 u)<|wSkip<|pSeq<|wSeq<|wBlock<|wSeq<|rx (c2<|.nil)<|pSeq<|wSeq ?_
   obtain⟨y11,hy11,h⟩:=bd h
   obtain⟨y12,hy12,h⟩:=bd h
   refine rx (c3<|cp (oIdx u56 z3 hy11 tm tm) (s2 u u)<|c1<|cp (oCallV u (rl1i (f:=a1) hy12) tm (oc tm o0)) (s2 u u)<|.nil)<|pSeq ?_
   obtain⟨hp13,h⟩|⟨hp13,h⟩:=ik h
   ·refine wBT hp13.1 tm (s1 u)<|wSeq<|rx (c2<|.nil)<|pSeq<|wRet<|pBlkR<|pThenR<|pThenR<|pBlkR<|pThenR ?_
    obtain rfl:=so h
    replace h:=hk1
    refine pThenR ?_
    obtain rfl:=so h
    exact pR1 (.inl u) u (.tmp u<|.nil)
   ·exact wBF hp13.1 tm (s1 u)<|wSkip<|pBlkN<|pSeq<|rx (c2<|.nil)<|pLoop (lW (ih _ h) ⟨u,u,u,u,tv⟩ u)
  ·exact wCF hp10.1 tm (s1 u)<|wExit<|pThenX<|pThenX<|pBlkX<|pJ0 (so h) tv u
 ·rintro rfl
  replace h:=hk1
  refine pSeq<|wSeq<|rx (c1<|.nil)<|pSeq<|wRet ?_
  obtain rfl:=so h
  exact pR1 (.inl u) u (.tmp u<|.nil)
theorem bH.ok{a0:List Int} {a1:Int->Option Bool} {r:Bool}(h:bH.f a0 a1=some r):FnA PP 65 [(kL ki).sig a0,(sFun PP (rl1 ki kB a1))] (kB.sig r):=by
 refine fnIntro Tryz.func65 u (by kernel_rfl) fun H0 w0=>?_
 unfold bH.f at h
 refine wSeq<|rx (c1<|.nil)<|pSeq<|wSeq ?_
 obtain⟨y1,hy1,h⟩:=bd h
 refine rx (c2<|cC (aO.ok hy1)<|c2<|.nil)<|pSeq<|wRet ?_
 obtain rfl:=so h
 exact pR1 (.inl u) u (.tmp u<|.nil)
theorem eW.ok{a0:Int} {a1:ab} {r:Bool}(h:eW.f a0 a1=some r):FnA PP 66 [ki.sig a0,sP (kR aj) a1] (kB.sig r):=by
 refine fnIntro Tryz.func66 u (by kernel_rfl) fun H0 w0=>?_
 unfold eW.f at h
 refine wSeq<|rx (c1<|.nil)<|pSeq ?_
 obtain⟨o1,h,hk1⟩:=bd h
 refine wJ1 (fun x2=>x2=o1) (fun x2=>[(3,.d (kB.sig x2))]) (fun x2=>[]) ?_ ?_
 ·obtain⟨hp3,h⟩|⟨hp3,h⟩:=ik h
  ·exact rx (c8<|c2<|.nil)<|pJ1 _ (so h) (sb u) u
  ·exact rx (c8<|c2<|.nil)<|pJ1 _ (so h) (sb u) u
 ·rintro x2 rfl
  replace h:=hk1
  refine wRet ?_
  obtain rfl:=so h
  exact pR1 (.inl u) u (.tmp u<|.nil)
theorem df.ok{a0:ab} {a1:List Int} {r:Int}(h:df.f a0 a1=some r):FnA PP 26 [(kR aj).sig a0,(kL ki).sig a1] (ki.sig r):=by
 refine fnIntro Tryz.func26 u (by kernel_rfl) fun H0 w0=>?_
 unfold df.f at h
 refine wSeq<|rx (c2<|.nil)<|pSeq<|wSeq<|wSeq ?_
 obtain⟨y1,hy1,h⟩:=bd h
 refine rx (c1<|cC (bK.ok hy1)<|c1<|.nil)<|pSeq<|wSeq<|rx (c2<|.nil)<|pSeq ?_
 obtain⟨hp2,h⟩|⟨hp2,h⟩:=ik h
 ·refine wNT hp2.1 tm (s1 u)<|wSkip<|pSeq<|wSeq<|wSeq ?_
  obtain⟨y3,hy3,h⟩:=bd h
  refine rx (c1<|cp (oMkF (Rl:=rl1 ki kB (fun z0=>eW.f z0 a0)) u b66 (rl1e eW.ok) (oc tm o0)) (s1 u)<|cC (bH.ok hy3)<|.nil)<|pSeq ?_
  obtain⟨hp4,h⟩|⟨hp4,h⟩:=ik h
  ·refine wBT hp4.1 tm (s1 u)<|wSeq<|rx (c1<|.nil)<|pSeq<|wRet<|pThenR ?_
   obtain rfl:=so h
   exact pR1 (.inl u) u (.tmp u<|.nil)
  ·refine wBF hp4.1 tm (s1 u)<|wSkip<|pSeq<|wSeq<|rx (c1<|.nil)<|pSeq<|wRet ?_
   obtain rfl:=so h
   exact pR1 (.inl u) u (.tmp u<|.nil)
 ·refine wNF hp2.1 tm (s1 u)<|wSeq<|rx (c2<|.nil)<|pSeq<|wRet<|pThenR ?_
  obtain rfl:=so h
  exact pR1 (.inl u) u (.tmp u<|.nil)
theorem aS.ok{a0:List Int} {a1:Int} {r:Int}(h:aS.f a0 a1=some r):FnA PP 172 [(kL (kI .u32)).sig a0,(kI .u32).sig a1] (ki.sig r):=by
 refine fnIntro Tryz.func172 u (by kernel_rfl) fun H0 w0=>?_
 unfold aS.f at h
 refine wSeq<|rx (c1<|.nil)<|pSeq<|wSeq<|wSeq<|rx (c3<|.nil)<|pSeq ?_
 obtain⟨o1,h,hk1⟩:=bd h
 refine wK0 (.inr ()=o1) ([]) ([]) ?_ ?_
 ·refine wBlock (wLoop ?_)
  refine lW (pc1 o1 (fun v7=>[(0,.d ((kL (kI .u32)).sig a0)),(1,.d ((kI .u32).sig a1)),(7,.d (ki.sig (a0.length:Int))),(8,.d (ki.sig v7))]) (fun v7=>[]) (aS.l0.partial_correctness a0 a1) ?_ _ h) ⟨u,u,u,u,tv⟩ u
  clear h
  intro f' ih v7 h
  refine wSeq<|rx (c1<|.nil)<|pSeq<|wSeq ?_
  obtain⟨hp8,h⟩|⟨hp8,h⟩:=ik h
  ·refine wCT hp8.1 tm (s1 u)<|wSkip<|pSeq<|wSeq<|wBlock<|wSeq<|rx (c2<|.nil)<|pSeq<|wSeq ?_
   obtain⟨y9,hy9,h⟩:=bd h
   refine rx (c3<|cp (oIdx u23 z70 hy9 tm tm) (s2 u u)<|c2<|.nil)<|pSeq ?_
   obtain⟨hp10,h⟩|⟨hp10,h⟩:=ik h
   ·refine wCT hp10.1 tm (s1 u)<|wSeq<|rx (c2<|.nil)<|pSeq<|wRet<|pBlkR<|pThenR<|pThenR<|pBlkR<|pThenR ?_
    obtain rfl:=so h
    replace h:=hk1
    refine pThenR ?_
    obtain rfl:=so h
    exact pR1 (.inl u) u (.tmp u<|.nil)
   ·exact wCF hp10.1 tm (s1 u)<|wSkip<|pBlkN<|pSeq<|rx (c2<|.nil)<|pLoop (lW (ih _ h) ⟨u,u,u,u,tv⟩ u)
  ·exact wCF hp8.1 tm (s1 u)<|wExit<|pThenX<|pThenX<|pBlkX<|pJ0 (so h) tv u
 ·rintro rfl
  replace h:=hk1
  refine pSeq<|wSeq<|rx (c1<|.nil)<|pSeq<|wRet ?_
  obtain rfl:=so h
  exact pR1 (.inl u) u (.tmp u<|.nil)
theorem cR.ok{a0:ab} {r:Int×Int}(h:cR.f a0=some r):FnA PP 156 [(kR aj).sig a0] (tup [ki.sig r.1,ki.sig r.2]):=by
 refine fnIntro Tryz.func156 u (by kernel_rfl) fun H0 w0=>?_
 unfold cR.f at h
 refine wSeq<|rx (c3<|.nil)<|pSeq<|wSeq<|wSeq ?_
 obtain⟨y1,hy1,h⟩:=bd h
 refine rx (c1<|cp (oCall u (df.ok hy1) b26 (oc tm (oc (cN (d:=ki)) o0))) (s1 u)<|c1<|.nil)<|pSeq<|wSeq<|rx (c2<|.nil)<|pSeq ?_
 obtain⟨hp2,h⟩|⟨hp2,h⟩:=ik h
 ·refine wNT hp2.1 tm (s1 u)<|wSkip<|pSeq<|wSeq ?_
  obtain⟨hc3,h⟩:=ib h
  refine rx (c3<|cp (oShl hc3 (cI (by decide)) tm) (s1 u)<|c2<|.nil)<|pSeq<|wSeq ?_
  obtain⟨y4,hy4,h⟩:=bd h
  refine rx (c3<|cC (aS.ok hy4)<|c2<|.nil)<|pSeq<|wRet ?_
  obtain rfl:=so h
  exact pRn (.inl u) u u (.tmp u<|.tmp u<|.nil)
 ·refine wNF hp2.1 tm (s1 u)<|wSeq<|rx (c3<|.nil)<|pSeq<|wRet<|pThenR ?_
  obtain rfl:=so h
  exact pRn (.inl u) u u (.tmp u<|.tmp u<|.nil)
theorem et.ok{a0:ah} {r:ah}(h:et.f a0=some r):FnS PP 173 [.p 70000 0] [.box 70000 204 (L204 a0)] [70000] (.d (tup [])) [.box 70000 204 (L204 r)]:=by
 refine fnIntroS Tryz.func173 u (by kernel_rfl) fun X H0 w0 pv=>?_
 unfold et.f at h
 refine wSkip ?_
 obtain rfl:=so h
 exact pSn [0] u u (.inr u) u u (.nil)
theorem fp.ok{a0:ah} {r:ah}(h:fp.f a0=some r):FnS PP 174 [.p 70000 0] [.box 70000 204 (L204 a0)] [70000] (.d (tup [])) [.box 70000 204 (L204 r)]:=by
 refine fnIntroS Tryz.func174 u (by kernel_rfl) fun X H0 w0 pv=>?_
 unfold fp.f at h
 refine rdx hm (c4<|c1<|cr (oLdK (n:=0) (k:=10) u u (by kernel_rfl) t3 tm) (s1 u)<|c2<|cp (oIdxA 0 0 u u202 z3 u tm (cI (by decide))) (s1 u)<|cwn (oStK (n:=0) (k:=21) u u u (by kernel_rfl) z3 tm tm) (s2 u u)<|.nil) ?_
 obtain rfl:=so h
 exact pSn [0] u u (.inr u) u u (.nil)
theorem bO.ok{a0:ah} {a1:Int} {z:Pn⊕(ah×al)}(h:bO.f a0 a1=some z):FnZ PP 192 [.p 70000 0,.d (ki.sig a1)] [.box 70000 204 (L204 a0)] [70000] 199 (fun(r:ah×al)=>.d ((kR ak).sig r.2)) (fun(r:ah×al)=>[.box 70000 204 (L204 r.1)]) z:=by
 refine fnIntroZ Tryz.func192 u (by kernel_rfl) fun X H0 w0 pv=>?_
 unfold bO.f at h
 refine wSeq<|rx (cw (oAlloc (id:=4) (ls:=Z88) ze88 zl88) tv<|.nil)<|pSeq<|wSeq<|rx (c4<|cr (oLdK (n:=1) (k:=6) u u (by kernel_rfl) t33 tm) (s1 u)<|c4<|c1<|.nil)<|pSeq ?_
 obtain⟨o1,h,hk1⟩:=bd h
 refine wJ0 (.inr ()=o1) ([(0,.p 70000 0),(4,.p 4 0),(5,.d (ki.sig (IntKind.i64.wrap ((IntKind.i64.wrap ((a0.s_.Stack.length:Int)-1))-a1))))]) ([.box 4 88 [.d kB false,.d ki 0,.d ki 0],.box 70000 204 (L204 a0)]) ?_ ?_
 ·obtain⟨hp9,h⟩|⟨hp9,h⟩:=ik h
  ·obtain⟨y10,hy10,h⟩:=bd h
   refine wT0<|wTk 0 14 (c6<|c1<|crgB (dT hp9.1) u u (oLdK (n:=1) (k:=6) u u (by kernel_rfl) t33 tm) (s1 u)<|c1<|cgB (dT hp9.1) u u (oIdx u33 z88 hy10 tm tm) (s2 u u)<|c4<|.nil) (by kernel_rfl) u ?_
   obtain⟨z11,hz11,h⟩:=bd h
   rcases z11 with p12|y13
   ·refine wTx (Γp:=[]) 14 u (oCallX (rest:=[.box 4 88 [.d kB false,.d ki 0,.d ki 0],.box 70000 204 (L204 a0)]) [] [] [0,1] u (bF.okP hz11) b155 (oE1 tm oE0) u u) u u (s1 u) tv<|pThenP ?_
    obtain rfl:=so h
    replace h:=hk1
    obtain rfl:=so h
    exact pX
   ·exact wTe 14 (cm (oCallS (rest:=[.box 4 88 [.d kB false,.d ki 0,.d ki 0],.box 70000 204 (L204 a0)]) (R':=[.box 4 88 [.d kB false,.d ki 0,.d ki 0],.box 70000 204 (L204 a0)]) (out':=.d (tup [])) [] [] [] [0,1] [0,1] u (bF.okR hz11) b155 (oE1 tm oE0) u u u u u u u u) (s1 u)<|.nil) (by kernel_rfl)<|pJ0 (so h) (sb u) u
  ·refine wT0<|wTk 0 14 (c12<|c2<|.nil) (by kernel_rfl) u ?_
   obtain⟨z14,hz14,h⟩:=bd h
   rcases z14 with p15|y16
   ·refine wTx (Γp:=[]) 14 u (oCallX (rest:=[.box 4 88 [.d kB false,.d ki 0,.d ki 0],.box 70000 204 (L204 a0)]) [] [] [0,1] u (bF.okP hz14) b155 (oE1 tm oE0) u u) u u (s1 u) tv<|pThenP ?_
    obtain rfl:=so h
    replace h:=hk1
    obtain rfl:=so h
    exact pX
   ·exact wTe 14 (cm (oCallS (rest:=[.box 4 88 [.d kB false,.d ki 0,.d ki 0],.box 70000 204 (L204 a0)]) (R':=[.box 4 88 [.d kB false,.d ki 0,.d ki 0],.box 70000 204 (L204 a0)]) (out':=.d (tup [])) [] [] [] [0,1] [0,1] u (bF.okR hz14) b155 (oE1 tm oE0) u u u u u u u u) (s1 u)<|.nil) (by kernel_rfl)<|pJ0 (so h) (sb u) u
 ·rintro rfl
  replace h:=hk1
  refine wSeq ?_
  obtain⟨y17,hy17,h⟩:=bd h
  refine rx (c4<|cr (oLdK (n:=1) (k:=6) u u (by kernel_rfl) t33 tm) (s1 u)<|c1<|cp (oIdx u33 z88 hy17 tm tm) (s2 u u)<|c1<|cwn (oStA (n:=0) (fs:=ak) u u z88 tm tm) (s2 u u)<|.nil)<|pSeq<|wRet ?_
  obtain rfl:=so h
  exact pZ<|pS1 [1] u u (.inl u) u (.box (n:=0) (fs:=ak) (u:=⟨y17.Ret,y17.V,y17.L⟩) u u ⟨u,u,u,tv⟩ t88<|.nil)
theorem bO.okR{a0:ah} {a1:Int} {r:ah×al}(h:bO.f a0 a1=some (.inr r)):FnS PP 192 [.p 70000 0,.d (ki.sig a1)] [.box 70000 204 (L204 a0)] [70000] (.d ((kR ak).sig r.2)) [.box 70000 204 (L204 r.1)]:=bO.ok h
theorem bO.okP{a0:ah} {a1:Int} {n:Pn}(h:bO.f a0 a1=some (.inl n)):FnX PP 192 [.p 70000 0,.d (ki.sig a1)] [.box 70000 204 (L204 a0)] (pvv 199 n):=bO.ok h
theorem aW.ok{a0:ah} {z:Pn⊕ah}(h:aW.f a0=some z):FnZ PP 175 [.p 70000 0] [.box 70000 204 (L204 a0)] [70000] 199 (fun(r:ah)=>.d (tup [])) (fun(r:ah)=>[.box 70000 204 (L204 r)]) z:=by
 refine fnIntroZ Tryz.func175 u (by kernel_rfl) fun X H0 w0 pv=>?_
 unfold aW.f at h
 refine wSeq<|wT0<|wTk 0 2 (c2<|.nil) (by kernel_rfl) u ?_
 obtain⟨z1,hz1,h⟩:=bd h
 rcases z1 with p2|y3
 ·refine wTx (Γp:=[]) 2 u (oCallX (rest:=[]) [(70000,70000)] [0] [] u (bO.okP hz1) b192 (oE1 tm (oE1 (cI (by decide)) oE0)) u u) u u (s1 u) tv<|pThenP ?_
  obtain rfl:=so h
  exact pX
 ·refine wTe 2 (cm (oCallS (rest:=[]) (R':=[.box 70000 204 (L204 y3.1)]) (out':=.d ((kR ak).sig y3.2)) [(70000,70000)] [] [0] [] [0] u (bO.okR hz1) b192 (oE1 tm (oE1 (cI (by decide)) oE0)) u u u u u u u u) (s1 u)<|c2<|cwn (oStPK (n:=0) (k:=11) (m:=3) (d:=(kR ak)) (u:=y3.2) pt88 u u (by kernel_rfl) z88 tm tm) (s2 u u)<|.nil) (by kernel_rfl)<|pSeq<|wSeq<|rx (c4<|c1<|cr (oLdK (n:=0) (k:=6) u u (by kernel_rfl) t33 tm) (s1 u)<|c4<|cwn (oStK (n:=0) (k:=20) u u u (by kernel_rfl) z3 tm tm) (s2 u u)<|.nil)<|pSeq<|rdx hm (c4<|c1<|cr (oLdK (n:=0) (k:=13) u u (by kernel_rfl) t3 tm) (s1 u)<|c2<|cp (oIdxA 0 0 u u202 z3 u tm (cI (by decide))) (s1 u)<|cwn (oStK (n:=0) (k:=21) u u u (by kernel_rfl) z3 tm tm) (s2 u u)<|.nil) ?_
  obtain rfl:=so h
  exact pZ<|pSn [0] u u (.inr u) u u (.nil)
theorem aW.okR{a0:ah} {r:ah}(h:aW.f a0=some (.inr r)):FnS PP 175 [.p 70000 0] [.box 70000 204 (L204 a0)] [70000] (.d (tup [])) [.box 70000 204 (L204 r)]:=aW.ok h
theorem aW.okP{a0:ah} {n:Pn}(h:aW.f a0=some (.inl n)):FnX PP 175 [.p 70000 0] [.box 70000 204 (L204 a0)] (pvv 199 n):=aW.ok h
theorem bQ.ok{a0:ah} {z:Pn⊕ah}(h:bQ.f a0=some z):FnZ PP 176 [.p 70000 0] [.box 70000 204 (L204 a0)] [70000] 199 (fun(r:ah)=>.d (tup [])) (fun(r:ah)=>[.box 70000 204 (L204 r)]) z:=by
 refine fnIntroZ Tryz.func176 u (by kernel_rfl) fun X H0 w0 pv=>?_
 unfold bQ.f at h
 refine wSeq<|wT0<|wTk 0 1 (c1<|.nil) (by kernel_rfl) u ?_
 obtain⟨z1,hz1,h⟩:=bd h
 rcases z1 with p2|y3
 ·refine wTx (Γp:=[]) 1 u (oCallX (rest:=[]) [(70000,70000)] [0] [] u (aW.okP hz1) b175 (oE1 tm oE0) u u) u u (s1 u) tv<|pThenP ?_
  obtain rfl:=so h
  exact pX
 ·refine wTe 1 (cm (oCallS (rest:=[]) (R':=[.box 70000 204 (L204 y3)]) (out':=.d (tup [])) [(70000,70000)] [] [0] [] [0] u (aW.okR hz1) b175 (oE1 tm oE0) u u u u u u u u) (s1 u)<|.nil) (by kernel_rfl)<|pSeq<|wSeq<|wT0<|wTk 0 2 (c2<|.nil) (by kernel_rfl) u ?_
  obtain⟨z4,hz4,h⟩:=bd h
  rcases z4 with p5|y6
  ·refine wTx (Γp:=[]) 2 u (oCallX (rest:=[]) [(70000,70000)] [0] [] u (bO.okP hz4) b192 (oE1 tm (oE1 (cI (by decide)) oE0)) u u) u u (s1 u) tv<|pThenP ?_
   obtain rfl:=so h
   exact pX
  ·refine wTe 2 (cm (oCallS (rest:=[]) (R':=[.box 70000 204 (L204 y6.1)]) (out':=.d ((kR ak).sig y6.2)) [(70000,70000)] [] [0] [] [0] u (bO.okR hz4) b192 (oE1 tm (oE1 (cI (by decide)) oE0)) u u u u u u u u) (s1 u)<|c2<|cwn (oStPK (n:=0) (k:=14) (m:=3) (d:=(kR ak)) (u:=y6.2) pt88 u u (by kernel_rfl) z88 tm tm) (s2 u u)<|.nil) (by kernel_rfl)<|pSeq<|wSeq<|rx (c3<|cr (oLdK (n:=0) (k:=20) u u (by kernel_rfl) t3 tm) (s1 u)<|c3<|cwn (oStK (n:=0) (k:=20) u u u (by kernel_rfl) z3 tm tm) (s2 u u)<|.nil)<|pSeq<|rdx hm (c4<|c1<|cr (oLdK (n:=0) (k:=16) u u (by kernel_rfl) t3 tm) (s1 u)<|c2<|cp (oIdxA 1 1 u u202 z3 u tm (cI (by decide))) (s1 u)<|cwn (oStK (n:=0) (k:=22) u u u (by kernel_rfl) z3 tm tm) (s2 u u)<|.nil) ?_
   obtain rfl:=so h
   exact pZ<|pSn [0] u u (.inr u) u u (.nil)
theorem bQ.okR{a0:ah} {r:ah}(h:bQ.f a0=some (.inr r)):FnS PP 176 [.p 70000 0] [.box 70000 204 (L204 a0)] [70000] (.d (tup [])) [.box 70000 204 (L204 r)]:=bQ.ok h
theorem bQ.okP{a0:ah} {n:Pn}(h:bQ.f a0=some (.inl n)):FnX PP 176 [.p 70000 0] [.box 70000 204 (L204 a0)] (pvv 199 n):=bQ.ok h
theorem bX.ok{a0:ah} {z:Pn⊕(ah×Int)}(h:bX.f a0=some z):FnZ PP 193 [.p 70000 0] [.box 70000 204 (L204 a0)] [70000] 199 (fun(r:ah×Int)=>.d (ki.sig r.2)) (fun(r:ah×Int)=>[.box 70000 204 (L204 r.1)]) z:=by
 refine fnIntroZ Tryz.func193 u (by kernel_rfl) fun X H0 w0 pv=>?_
 unfold bX.f at h
 refine wSeq<|rx (c1<|.nil)<|pSeq ?_
 obtain⟨o1,h,hk1⟩:=bd h
 refine wJ0 (.inr ()=o1) ([(0,.p 70000 0)]) ([.box 70000 204 (L204 a0)]) ?_ ?_
 ·obtain⟨hp8,h⟩|⟨hp8,h⟩:=ik h
  ·obtain⟨z9,hz9,h⟩:=bd h
   rcases z9 with p10|y11
   ·refine rgXD (Γp:=[]) hm (c4<|cr (oLdK (n:=0) (k:=12) u u (by kernel_rfl) t3 tm) (s1 u)<|c6<|crgB (dT hp8.1) u u (oLdK (n:=0) (k:=12) u u (by kernel_rfl) t3 tm) (s1 u)<|c4<|crgB (dT hp8.1) u u (oLdK (n:=0) (k:=5) u u (by kernel_rfl) t32 tm) (s1 u)<|c3<|cb (oCallX (rest:=[.box 70000 204 (L204 a0)]) [] [] [0] u (bF.okP hz9) b155 (oE1 tm oE0) u u) (s1 u)<|.nil) (by kernel_rfl) (by kernel_rfl) tv<|pThenP ?_
    obtain rfl:=so h
    replace h:=hk1
    obtain rfl:=so h
    exact pX
   ·exact rdx hm (c4<|cr (oLdK (n:=0) (k:=12) u u (by kernel_rfl) t3 tm) (s1 u)<|c6<|crgB (dT hp8.1) u u (oLdK (n:=0) (k:=12) u u (by kernel_rfl) t3 tm) (s1 u)<|c4<|crgB (dT hp8.1) u u (oLdK (n:=0) (k:=5) u u (by kernel_rfl) t32 tm) (s1 u)<|c3<|cm (oCallS (rest:=[.box 70000 204 (L204 a0)]) (R':=[.box 70000 204 (L204 a0)]) (out':=.d (tup [])) [] [] [] [0] [0] u (bF.okR hz9) b155 (oE1 tm oE0) u u u u u u u u) (s1 u)<|.nil)<|pJ0 (so h) (sb u) u
  ·obtain⟨z12,hz12,h⟩:=bd h
   rcases z12 with p13|y14
   ·refine rgXD (Γp:=[]) hm (c4<|cr (oLdK (n:=0) (k:=12) u u (by kernel_rfl) t3 tm) (s1 u)<|c12<|c3<|cb (oCallX (rest:=[.box 70000 204 (L204 a0)]) [] [] [0] u (bF.okP hz12) b155 (oE1 tm oE0) u u) (s1 u)<|.nil) (by kernel_rfl) (by kernel_rfl) tv<|pThenP ?_
    obtain rfl:=so h
    replace h:=hk1
    obtain rfl:=so h
    exact pX
   ·exact rdx hm (c4<|cr (oLdK (n:=0) (k:=12) u u (by kernel_rfl) t3 tm) (s1 u)<|c12<|c3<|cm (oCallS (rest:=[.box 70000 204 (L204 a0)]) (R':=[.box 70000 204 (L204 a0)]) (out':=.d (tup [])) [] [] [] [0] [0] u (bF.okR hz12) b155 (oE1 tm oE0) u u u u u u u u) (s1 u)<|.nil)<|pJ0 (so h) (sb u) u
 ·rintro rfl
  replace h:=hk1
  refine wSeq<|rx (c4<|cr (oLdK (n:=0) (k:=12) u u (by kernel_rfl) t3 tm) (s1 u)<|c1<|.nil)<|pSeq<|wRet ?_
  obtain rfl:=so h
  exact pZ<|pS1 [0] u u (.inl u) u (.tmp u<|.nil)
theorem bX.okR{a0:ah} {r:ah×Int}(h:bX.f a0=some (.inr r)):FnS PP 193 [.p 70000 0] [.box 70000 204 (L204 a0)] [70000] (.d (ki.sig r.2)) [.box 70000 204 (L204 r.1)]:=bX.ok h
theorem bX.okP{a0:ah} {n:Pn}(h:bX.f a0=some (.inl n)):FnX PP 193 [.p 70000 0] [.box 70000 204 (L204 a0)] (pvv 199 n):=bX.ok h
theorem cO.ok{a0:ah} {z:Pn⊕ah}(h:cO.f a0=some z):FnZ PP 177 [.p 70000 0] [.box 70000 204 (L204 a0)] [70000] 199 (fun(r:ah)=>.d (tup [])) (fun(r:ah)=>[.box 70000 204 (L204 r)]) z:=by
 refine fnIntroZ Tryz.func177 u (by kernel_rfl) fun X H0 w0 pv=>?_
 unfold cO.f at h
 refine wSeq<|wT0<|wTk 0 1 (c1<|.nil) (by kernel_rfl) u ?_
 obtain⟨z1,hz1,h⟩:=bd h
 rcases z1 with p2|y3
 ·refine wTx (Γp:=[]) 1 u (oCallX (rest:=[]) [(70000,70000)] [0] [] u (aW.okP hz1) b175 (oE1 tm oE0) u u) u u (s1 u) tv<|pThenP ?_
  obtain rfl:=so h
  exact pX
 ·refine wTe 1 (cm (oCallS (rest:=[]) (R':=[.box 70000 204 (L204 y3)]) (out':=.d (tup [])) [(70000,70000)] [] [0] [] [0] u (aW.okR hz1) b175 (oE1 tm oE0) u u u u u u u u) (s1 u)<|.nil) (by kernel_rfl)<|pSeq<|wSeq<|wT0<|wTk 0 1 (c1<|.nil) (by kernel_rfl) u ?_
  obtain⟨z4,hz4,h⟩:=bd h
  rcases z4 with p5|y6
  ·refine wTx (Γp:=[]) 1 u (oCallX (rest:=[]) [(70000,70000)] [0] [] u (bX.okP hz4) b193 (oE1 tm oE0) u u) u u (s1 u) tv<|pThenP ?_
   obtain rfl:=so h
   exact pX
  ·refine wTe 1 (cm (oCallS (rest:=[]) (R':=[.box 70000 204 (L204 y6.1)]) (out':=.d (ki.sig y6.2)) [(70000,70000)] [] [0] [] [0] u (bX.okR hz4) b193 (oE1 tm oE0) u u u u u u u u) (s1 u)<|c1<|.nil) (by kernel_rfl)<|pSeq ?_
   obtain⟨y7,hy7,h⟩:=bd h
   refine rdx hm (c4<|c1<|cr (oLdK (n:=0) (k:=5) u u (by kernel_rfl) t32 tm) (s1 u)<|c1<|cp (oIdx u32 z30 hy7 tm tm) (s2 u u)<|c4<|cp (oIdxA 1 1 u u202 z3 u tm (cI (by decide))) (s1 u)<|cwn (oStK (n:=0) (k:=22) u u u (by kernel_rfl) z3 tm tm) (s2 u u)<|.nil) ?_
   obtain rfl:=so h
   exact pZ<|pSn [0] u u (.inr u) u u (.nil)
theorem cO.okR{a0:ah} {r:ah}(h:cO.f a0=some (.inr r)):FnS PP 177 [.p 70000 0] [.box 70000 204 (L204 a0)] [70000] (.d (tup [])) [.box 70000 204 (L204 r)]:=cO.ok h
theorem cO.okP{a0:ah} {n:Pn}(h:cO.f a0=some (.inl n)):FnX PP 177 [.p 70000 0] [.box 70000 204 (L204 a0)] (pvv 199 n):=cO.ok h
theorem cD.ok{a0:ah} {z:Pn⊕ah}(h:cD.f a0=some z):FnZ PP 178 [.p 70000 0] [.box 70000 204 (L204 a0)] [70000] 199 (fun(r:ah)=>.d (tup [])) (fun(r:ah)=>[.box 70000 204 (L204 r)]) z:=by
 refine fnIntroZ Tryz.func178 u (by kernel_rfl) fun X H0 w0 pv=>?_
 unfold cD.f at h
 refine wSeq<|wT0<|wTk 0 1 (c1<|.nil) (by kernel_rfl) u ?_
 obtain⟨z1,hz1,h⟩:=bd h
 rcases z1 with p2|y3
 ·refine wTx (Γp:=[]) 1 u (oCallX (rest:=[]) [(70000,70000)] [0] [] u (bQ.okP hz1) b176 (oE1 tm oE0) u u) u u (s1 u) tv<|pThenP ?_
  obtain rfl:=so h
  exact pX
 ·refine wTe 1 (cm (oCallS (rest:=[]) (R':=[.box 70000 204 (L204 y3)]) (out':=.d (tup [])) [(70000,70000)] [] [0] [] [0] u (bQ.okR hz1) b176 (oE1 tm oE0) u u u u u u u u) (s1 u)<|.nil) (by kernel_rfl)<|pSeq<|wSeq<|wT0<|wTk 0 1 (c1<|.nil) (by kernel_rfl) u ?_
  obtain⟨z4,hz4,h⟩:=bd h
  rcases z4 with p5|y6
  ·refine wTx (Γp:=[]) 1 u (oCallX (rest:=[]) [(70000,70000)] [0] [] u (bX.okP hz4) b193 (oE1 tm oE0) u u) u u (s1 u) tv<|pThenP ?_
   obtain rfl:=so h
   exact pX
  ·refine wTe 1 (cm (oCallS (rest:=[]) (R':=[.box 70000 204 (L204 y6.1)]) (out':=.d (ki.sig y6.2)) [(70000,70000)] [] [0] [] [0] u (bX.okR hz4) b193 (oE1 tm oE0) u u u u u u u u) (s1 u)<|c1<|.nil) (by kernel_rfl)<|pSeq ?_
   obtain⟨y7,hy7,h⟩:=bd h
   refine rdx hm (c4<|c1<|cr (oLdK (n:=0) (k:=5) u u (by kernel_rfl) t32 tm) (s1 u)<|c1<|cp (oIdx u32 z30 hy7 tm tm) (s2 u u)<|c4<|cp (oIdxA 2 2 u u202 z3 u tm (cI (by decide))) (s1 u)<|cwn (oStK (n:=0) (k:=23) u u u (by kernel_rfl) z3 tm tm) (s2 u u)<|.nil) ?_
   obtain rfl:=so h
   exact pZ<|pSn [0] u u (.inr u) u u (.nil)
theorem cD.okR{a0:ah} {r:ah}(h:cD.f a0=some (.inr r)):FnS PP 178 [.p 70000 0] [.box 70000 204 (L204 a0)] [70000] (.d (tup [])) [.box 70000 204 (L204 r)]:=cD.ok h
theorem cD.okP{a0:ah} {n:Pn}(h:cD.f a0=some (.inl n)):FnX PP 178 [.p 70000 0] [.box 70000 204 (L204 a0)] (pvv 199 n):=cD.ok h
theorem cq.ok{a0:ah} {z:Pn⊕ah}(h:cq.f a0=some z):FnZ PP 179 [.p 70000 0] [.box 70000 204 (L204 a0)] [70000] 199 (fun(r:ah)=>.d (tup [])) (fun(r:ah)=>[.box 70000 204 (L204 r)]) z:=by
 refine fnIntroZ Tryz.func179 u (by kernel_rfl) fun X H0 w0 pv=>?_
 unfold cq.f at h
 refine wSeq<|wT0<|wTk 0 1 (c1<|.nil) (by kernel_rfl) u ?_
 obtain⟨z1,hz1,h⟩:=bd h
 rcases z1 with p2|y3
 ·refine wTx (Γp:=[]) 1 u (oCallX (rest:=[]) [(70000,70000)] [0] [] u (aW.okP hz1) b175 (oE1 tm oE0) u u) u u (s1 u) tv<|pThenP ?_
  obtain rfl:=so h
  exact pX
 ·refine wTe 1 (cm (oCallS (rest:=[]) (R':=[.box 70000 204 (L204 y3)]) (out':=.d (tup [])) [(70000,70000)] [] [0] [] [0] u (aW.okR hz1) b175 (oE1 tm oE0) u u u u u u u u) (s1 u)<|.nil) (by kernel_rfl)<|pSeq ?_
  obtain⟨o1,h,hk1⟩:=bd h
  refine wK0 (.inr ()=o1) ([]) ([.box 70000 204 (L204 y3)]) ?_ ?_
  ·obtain⟨hp11,h⟩|⟨hp11,h⟩:=ik h
   ·refine wT0<|wTk 0 14 (c4<|cr (oLdK (n:=0) (k:=12) u u (by kernel_rfl) t3 tm) (s1 u)<|c6<|crgB (dT hp11.1) u u (oLdK (n:=0) (k:=12) u u (by kernel_rfl) t3 tm) (s1 u)<|c2<|.nil) (by kernel_rfl) u ?_
    obtain⟨z12,hz12,h⟩:=bd h
    rcases z12 with p13|y14
    ·refine wTx (Γp:=[]) 14 u (oCallX (rest:=[.box 70000 204 (L204 y3)]) [] [] [0] u (bF.okP hz12) b155 (oE1 tm oE0) u u) u u (s1 u) tv<|pThenP ?_
     obtain rfl:=so h
     replace h:=hk1
     obtain rfl:=so h
     exact pX
    ·exact wTe 14 (cm (oCallS (rest:=[.box 70000 204 (L204 y3)]) (R':=[.box 70000 204 (L204 y3)]) (out':=.d (tup [])) [] [] [] [0] [0] u (bF.okR hz12) b155 (oE1 tm oE0) u u u u u u u u) (s1 u)<|.nil) (by kernel_rfl)<|pJ0 (so h) tv u
   ·refine wT0<|wTk 0 14 (c4<|cr (oLdK (n:=0) (k:=12) u u (by kernel_rfl) t3 tm) (s1 u)<|c8<|c1<|.nil) (by kernel_rfl) u ?_
    obtain⟨z15,hz15,h⟩:=bd h
    rcases z15 with p16|y17
    ·refine wTx (Γp:=[]) 14 u (oCallX (rest:=[.box 70000 204 (L204 y3)]) [] [] [0] u (bF.okP hz15) b155 (oE1 tm oE0) u u) u u (s1 u) tv<|pThenP ?_
     obtain rfl:=so h
     replace h:=hk1
     obtain rfl:=so h
     exact pX
    ·exact wTe 14 (cm (oCallS (rest:=[.box 70000 204 (L204 y3)]) (R':=[.box 70000 204 (L204 y3)]) (out':=.d (tup [])) [] [] [] [0] [0] u (bF.okR hz15) b155 (oE1 tm oE0) u u u u u u u u) (s1 u)<|.nil) (by kernel_rfl)<|pJ0 (so h) tv u
  ·rintro rfl
   replace h:=hk1
   obtain rfl:=so h
   exact pZ<|pSn [0] u u (.inr u) u u (.nil)
theorem cq.okR{a0:ah} {r:ah}(h:cq.f a0=some (.inr r)):FnS PP 179 [.p 70000 0] [.box 70000 204 (L204 a0)] [70000] (.d (tup [])) [.box 70000 204 (L204 r)]:=cq.ok h
theorem cq.okP{a0:ah} {n:Pn}(h:cq.f a0=some (.inl n)):FnX PP 179 [.p 70000 0] [.box 70000 204 (L204 a0)] (pvv 199 n):=cq.ok h
theorem bg.ok{a0:ah} {z:Pn⊕ah}(h:bg.f a0=some z):FnZ PP 180 [.p 70000 0] [.box 70000 204 (L204 a0)] [70000] 199 (fun(r:ah)=>.d (tup [])) (fun(r:ah)=>[.box 70000 204 (L204 r)]) z:=by
 refine fnIntroZ Tryz.func180 u (by kernel_rfl) fun X H0 w0 pv=>?_
 unfold bg.f at h
 refine wSeq<|wT0<|wTk 0 1 (c1<|.nil) (by kernel_rfl) u ?_
 obtain⟨z1,hz1,h⟩:=bd h
 rcases z1 with p2|y3
 ·refine wTx (Γp:=[]) 1 u (oCallX (rest:=[]) [(70000,70000)] [0] [] u (cq.okP hz1) b179 (oE1 tm oE0) u u) u u (s1 u) tv<|pThenP ?_
  obtain rfl:=so h
  exact pX
 ·refine wTe 1 (cm (oCallS (rest:=[]) (R':=[.box 70000 204 (L204 y3)]) (out':=.d (tup [])) [(70000,70000)] [] [0] [] [0] u (cq.okR hz1) b179 (oE1 tm oE0) u u u u u u u u) (s1 u)<|.nil) (by kernel_rfl)<|pSeq<|wSeq<|rx (c4<|cr (oLdK (n:=0) (k:=9) u u (by kernel_rfl) t3 tm) (s1 u)<|c1<|.nil)<|pSeq ?_
  obtain⟨o1,h,hk1⟩:=bd h
  refine wK1 (fun x14=>.inr x14=o1) (fun x14=>[]) (fun x14=>[.box 70000 204 (L204 x14)]) ?_ ?_
  ·refine wBlock (wLoop ?_)
   refine lW (pc2 o1 (fun v12 v13=>[(0,.p 70000 0),(9,.d (ki.sig y3.x_.N)),(10,.d (ki.sig v13))]) (fun v12 v13=>[.box 70000 204 (L204 v12)]) (bg.l0.partial_correctness y3) ?_ _ _ h) ⟨u,u,u,tv⟩ u
   clear h
   intro f' ih v12 v13 h
   refine wSeq<|rx (c1<|.nil)<|pSeq<|wSeq ?_
   obtain⟨hp15,h⟩|⟨hp15,h⟩:=ik h
   ·refine wCT hp15.1 tm (s1 u)<|wSkip<|pSeq<|wSeq<|wBlock<|wSeq<|rx (c2<|.nil)<|pSeq<|wT0<|wTk 0 3 (c3<|.nil) (by kernel_rfl) u ?_
    obtain⟨z16,hz16,h⟩:=bd h
    rcases z16 with p17|y18
    ·refine wTx (Γp:=[]) 3 u (oCallX (rest:=[]) [(70000,70000)] [0] [] u (bO.okP hz16) b192 (oE1 tm (oE1 tm oE0)) u u) u u (s2 u u) tv<|pBlkP<|pThenP<|pThenP<|pBlkP<|pThenP ?_
     obtain rfl:=so h
     replace h:=hk1
     obtain rfl:=so h
     exact pX
    ·exact wTe 3 (cm (oCallS (rest:=[]) (R':=[.box 70000 204 (L204 y18.1)]) (out':=.d ((kR ak).sig y18.2)) [(70000,70000)] [] [0] [] [0] u (bO.okR hz16) b192 (oE1 tm (oE1 tm oE0)) u u u u u u u u) (s2 u u)<|.nil) (by kernel_rfl)<|pBlkN<|pSeq<|rx (c2<|.nil)<|pLoop (lW (ih _ _ h) ⟨u,u,u,tv⟩ u)
   ·exact wCF hp15.1 tm (s1 u)<|wExit<|pThenX<|pThenX<|pBlkX<|pJ1 _ (so h) tv u
  ·rintro x14 rfl
   replace h:=hk1
   obtain rfl:=so h
   exact pZ<|pSn [0] u u (.inr u) u u (.nil)
theorem bg.okR{a0:ah} {r:ah}(h:bg.f a0=some (.inr r)):FnS PP 180 [.p 70000 0] [.box 70000 204 (L204 a0)] [70000] (.d (tup [])) [.box 70000 204 (L204 r)]:=bg.ok h
theorem bg.okP{a0:ah} {n:Pn}(h:bg.f a0=some (.inl n)):FnX PP 180 [.p 70000 0] [.box 70000 204 (L204 a0)] (pvv 199 n):=bg.ok h
end Go.Proofs.YtmjcpkmongafnaaGreatDoor.TT
