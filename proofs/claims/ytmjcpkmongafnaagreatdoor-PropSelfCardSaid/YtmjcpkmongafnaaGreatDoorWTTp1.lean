import Derived.Test.YtmjcpkmongafnaaGreatDoorCln
import Derived.Test.YtmjcpkmongafnaaGreatDoorDTT
import Derived.Test.YtmjcpkmongafnaaGreatDoorProg
set_option linter.unusedVariables false
set_option maxRecDepth 10000
set_option maxHeartbeats 2000000
set_option synthInstance.maxHeartbeats 200000
set_option synthInstance.maxSize 2000
namespace Go.Proofs.YtmjcpkmongafnaaGreatDoor.TT
open Go Go.Proofs.YtmjcpkmongafnaaGreatDoor.Ab
noncomputable abbrev PP:Program:=Tryz.prog
theorem hm:PP.follows .mixedOrders=true:=by kernel_rfl
theorem zL:∀{α:Type} {d:Kd α} (H:FH),(kL d).reps H [.slice none 0 0] []:=fun _=>⟨none,0,rfl,Nat.le_refl _,by omega,by simp[big],.inl rfl⟩
theorem ze25:zeroIs PP 25 [(.slice none 0 0),(.slice none 0 0)]:=by unfold zeroIs;kernel_rfl
theorem o25_1:fofs PP 25 1=some 1:=by kernel_rfl
instance mH:FlI PP 25 1 aA (kL (kI .u32)) aq.Up:=⟨o25_1,rfl⟩
theorem t23:tinf PP 23=some (false,1):=by kernel_rfl
instance jt23:TinI PP 23 (kL (kI .u32)):=⟨t23⟩
theorem u23:PP.underlying 23=some (.slice 70):=by kernel_rfl
instance ju23:UndI PP 23 70:=⟨u23⟩
theorem z70:sizeIs PP 70 1:=by unfold sizeIs;kernel_rfl
theorem pl25:places PP 25=some [(0,1),(1,1)]:=by kernel_rfl
theorem po25_0:∀q f,eJ[q]?=some f->([(0,1),(1,1)]:List (Nat×Nat))[q]?=some (offF eJ q,f.d.sz):=fun q f h=>by
 unfold eJ at h
 match q,h with
 |0,h=>cases h;rfl
 |1,h=>cases h;rfl
 |n+2,h=>simp at h
theorem z25:sizeIs PP 25 2:=by unfold sizeIs;kernel_rfl
theorem o25_0:fofs PP 25 0=some 0:=by kernel_rfl
instance mI:FlI PP 25 0 aA (kL kS) aq.Names:=⟨o25_0,rfl⟩
theorem t22:tinf PP 22=some (false,1):=by kernel_rfl
instance jt22:TinI PP 22 (kL kS):=⟨t22⟩
theorem u22:PP.underlying 22=some (.slice 9):=by kernel_rfl
instance ju22:UndI PP 22 9:=⟨u22⟩
theorem z9:sizeIs PP 9 1:=by unfold sizeIs;kernel_rfl
instance ji_i64_0:IntI .i64 0:=⟨by decide⟩
theorem t9:tinf PP 9=some (false,1):=by kernel_rfl
instance jt9:TinI PP 9 kS:=⟨t9⟩
instance jo25_0:FofI PP 25 0 0:=⟨o25_0⟩
theorem u9:PP.underlying 9=some (.string):=by kernel_rfl
theorem el22:ElTy PP 22 9 1 16:=⟨by kernel_rfl,by kernel_rfl⟩
theorem z22:sizeIs PP 22 1:=by unfold sizeIs;kernel_rfl
instance ji_i64_1:IntI .i64 1:=⟨by decide⟩
theorem t25:tinf PP 25=some (true,2):=by kernel_rfl
theorem ze28:zeroIs PP 28 [(.slice none 0 0)]:=by unfold zeroIs;kernel_rfl
theorem o28_0:fofs PP 28 0=some 0:=by kernel_rfl
instance mL:FlI PP 28 0 bf (kL (kR aU)) bw.Rows:=⟨o28_0,rfl⟩
theorem t26:tinf PP 26=some (false,1):=by kernel_rfl
instance jt26:TinI PP 26 (kL (kR aU)):=⟨t26⟩
theorem u26:PP.underlying 26=some (.slice 58):=by kernel_rfl
instance ju26:UndI PP 26 58:=⟨u26⟩
theorem z58:sizeIs PP 58 3:=by unfold sizeIs;kernel_rfl
theorem t58:tinf PP 58=some (true,3):=by kernel_rfl
instance jt58:TinI PP 58 (kR aU):=⟨t58⟩
theorem ze58:zeroIs PP 58 [(.slice none 0 0),(.slice none 0 0),(.slice none 0 0)]:=by unfold zeroIs;kernel_rfl
abbrev Z58:List Leaf:=[.d (kL (kI .i64)) [],.d (kL (kI .i64)) [],.d (kL (kI .i64)) []]
theorem zl58:∀g:G,leafs Z58 g [(.slice none 0 0),(.slice none 0 0),(.slice none 0 0)]:=fun g=>⟨[(.slice none 0 0)],_,rfl,zL g.H,⟨[(.slice none 0 0)],_,rfl,zL g.H,⟨[(.slice none 0 0)],_,rfl,zL g.H,rfl⟩⟩⟩
instance jo28_0:FofI PP 28 0 0:=⟨o28_0⟩
theorem o58_0:fofs PP 58 0=some 0:=by kernel_rfl
instance jo58_0:FofI PP 58 0 0:=⟨o58_0⟩
theorem t56:tinf PP 56=some (false,1):=by kernel_rfl
theorem u56:PP.underlying 56=some (.slice 3):=by kernel_rfl
instance ju56:UndI PP 56 3:=⟨u56⟩
theorem z3:sizeIs PP 3 1:=by unfold sizeIs;kernel_rfl
theorem o58_1:fofs PP 58 1=some 1:=by kernel_rfl
instance jo58_1:FofI PP 58 1 1:=⟨o58_1⟩
theorem o58_2:fofs PP 58 2=some 2:=by kernel_rfl
instance jo58_2:FofI PP 58 2 2:=⟨o58_2⟩
theorem pl58:places PP 58=some [(0,1),(1,1),(2,1)]:=by kernel_rfl
theorem po58:∀q f,aU[q]?=some f->([(0,1),(1,1),(2,1)]:List (Nat×Nat))[q]?=some (offF aU q,f.d.sz):=fun q f h=>by
 unfold aU at h
 match q,h with
 |0,h=>cases h;rfl
 |1,h=>cases h;rfl
 |2,h=>cases h;rfl
 |n+3,h=>simp at h
theorem el26:ElTy PP 26 58 3 72:=⟨by kernel_rfl,by kernel_rfl⟩
theorem z26:sizeIs PP 26 1:=by unfold sizeIs;kernel_rfl
theorem t28:tinf PP 28=some (true,1):=by kernel_rfl
theorem z28:sizeIs PP 28 1:=by unfold sizeIs;kernel_rfl
abbrev L35(x:ah):List Leaf:=[.d (kI .i64) x.Pc.V,.d (kI .i64) x.Pc.L,.d (kL (kR aw)) x.Code,.d (kL (kR am)) x.Mem,.d (kL (kR au)) x.Stack,.d (kL (kR am)) x.Out]
theorem pt35{x:ah}:Part (L35 x) (kR ap) x:=by
 have h:Part _ (kR ap) x:=(lfS (lfC (lfS (lfC lf1 (lfC lf1 lfN))) (lfC lf1 (lfC lf1 (lfC lf1 (lfC lf1 lfN))))))
 exact h
theorem zI_i64:∀H,(kI .i64).reps H [.int .i64 0] 0:=fun _=>⟨rfl,by decide⟩
theorem ze35:zeroIs PP 35 [(.int .i64 0),(.int .i64 0),(.slice none 0 0),(.slice none 0 0),(.slice none 0 0),(.slice none 0 0)]:=by unfold zeroIs;kernel_rfl
abbrev Z35:List Leaf:=[.d (kI .i64) 0,.d (kI .i64) 0,.d (kL (kR aw)) [],.d (kL (kR am)) [],.d (kL (kR au)) [],.d (kL (kR am)) []]
theorem zl35:∀g:G,leafs Z35 g [(.int .i64 0),(.int .i64 0),(.slice none 0 0),(.slice none 0 0),(.slice none 0 0),(.slice none 0 0)]:=fun g=>⟨[(.int .i64 0)],_,rfl,zI_i64 g.H,⟨[(.int .i64 0)],_,rfl,zI_i64 g.H,⟨[(.slice none 0 0)],_,rfl,zL g.H,⟨[(.slice none 0 0)],_,rfl,zL g.H,⟨[(.slice none 0 0)],_,rfl,zL g.H,⟨[(.slice none 0 0)],_,rfl,zL g.H,rfl⟩⟩⟩⟩⟩⟩
theorem o35_1:fofs PP 35 1=some 2:=by kernel_rfl
instance jo35_1:FofI PP 35 1 2:=⟨o35_1⟩
theorem t31:tinf PP 31=some (false,1):=by kernel_rfl
theorem u31:PP.underlying 31=some (.slice 73):=by kernel_rfl
instance ju31:UndI PP 31 73:=⟨u31⟩
theorem z73:sizeIs PP 73 3:=by unfold sizeIs;kernel_rfl
theorem o35_2:fofs PP 35 2=some 3:=by kernel_rfl
instance jo35_2:FofI PP 35 2 3:=⟨o35_2⟩
theorem t32:tinf PP 32=some (false,1):=by kernel_rfl
theorem u32:PP.underlying 32=some (.slice 30):=by kernel_rfl
instance ju32:UndI PP 32 30:=⟨u32⟩
theorem z30:sizeIs PP 30 2:=by unfold sizeIs;kernel_rfl
theorem o35_3:fofs PP 35 3=some 4:=by kernel_rfl
instance jo35_3:FofI PP 35 3 4:=⟨o35_3⟩
theorem t33:tinf PP 33=some (false,1):=by kernel_rfl
theorem u33:PP.underlying 33=some (.slice 88):=by kernel_rfl
instance ju33:UndI PP 33 88:=⟨u33⟩
theorem z88:sizeIs PP 88 3:=by unfold sizeIs;kernel_rfl
theorem o35_4:fofs PP 35 4=some 5:=by kernel_rfl
instance jo35_4:FofI PP 35 4 5:=⟨o35_4⟩
theorem z31:sizeIs PP 31 1:=by unfold sizeIs;kernel_rfl
theorem z32:sizeIs PP 32 1:=by unfold sizeIs;kernel_rfl
theorem z33:sizeIs PP 33 1:=by unfold sizeIs;kernel_rfl
theorem t35:tinf PP 35=some (true,6):=by kernel_rfl
theorem z35:sizeIs PP 35 6:=by unfold sizeIs;kernel_rfl
instance ji_u8_97:IntI .u8 97:=⟨by decide⟩
instance ji_u8_122:IntI .u8 122:=⟨by decide⟩
instance ji_i64_12:IntI .i64 12:=⟨by decide⟩
instance ji_i64_m1:IntI .i64 (-1):=⟨by decide⟩
instance ji_i64_8:IntI .i64 8:=⟨by decide⟩
theorem b135:bodied PP 135:=by unfold bodied;kernel_rfl
theorem t70:tinf PP 70=some (false,1):=by kernel_rfl
instance jt70:TinI PP 70 (kI .u32):=⟨t70⟩
instance ji_u32_0:IntI .u32 0:=⟨by decide⟩
theorem t3:tinf PP 3=some (false,1):=by kernel_rfl
instance jt3:TinI PP 3 (kI .i64):=⟨t3⟩
instance ji_u32_1:IntI .u32 1:=⟨by decide⟩
theorem zB:∀H,kB.reps H [.bool false] false:=fun _=>rfl
theorem ze4:zeroIs PP 4 [(.bool false)]:=by unfold zeroIs;kernel_rfl
instance jt25:TinI PP 25 (kR aA):=⟨t25⟩
theorem b127:bodied PP 127:=by unfold bodied;kernel_rfl
theorem z4:sizeIs PP 4 1:=by unfold sizeIs;kernel_rfl
theorem t4:tinf PP 4=some (false,1):=by kernel_rfl
theorem b136:bodied PP 136:=by unfold bodied;kernel_rfl
theorem zI_u32:∀H,(kI .u32).reps H [.int .u32 0] 0:=fun _=>⟨rfl,by decide⟩
theorem ze70:zeroIs PP 70 [(.int .u32 0)]:=by unfold zeroIs;kernel_rfl
theorem b137:bodied PP 137:=by unfold bodied;kernel_rfl
theorem b27:bodied PP 27:=by unfold bodied;kernel_rfl
theorem ze39:zeroIs PP 39 [(.int .i64 0)]:=by unfold zeroIs;kernel_rfl
theorem z39:sizeIs PP 39 1:=by unfold sizeIs;kernel_rfl
theorem t39:tinf PP 39=some (false,1):=by kernel_rfl
theorem b111:bodied PP 111:=by unfold bodied;kernel_rfl
theorem b66:bodied PP 66:=by unfold bodied;kernel_rfl
theorem b65:bodied PP 65:=by unfold bodied;kernel_rfl
instance ji_i64_9:IntI .i64 9:=⟨by decide⟩
theorem u5:PP.underlying 5=some (.int .u8):=by kernel_rfl
theorem u3:PP.underlying 3=some (.int .i64):=by kernel_rfl
theorem b26:bodied PP 26:=by unfold bodied;kernel_rfl
theorem b28:bodied PP 28:=by unfold bodied;kernel_rfl
theorem el56:ElTy PP 56 3 1 8:=⟨by kernel_rfl,by kernel_rfl⟩
theorem pl28:places PP 28=some [(0,1)]:=by kernel_rfl
theorem po28:∀q f,bf[q]?=some f->([(0,1)]:List (Nat×Nat))[q]?=some (offF bf q,f.d.sz):=fun q f h=>by
 unfold bf at h
 match q,h with
 |0,h=>cases h;rfl
 |n+1,h=>simp at h
theorem ze248:zeroIs PP 248 [(.slice none 0 0)]:=by unfold zeroIs;kernel_rfl
theorem t248:tinf PP 248=some (false,1):=by kernel_rfl
theorem u248:PP.underlying 248=some (.slice 232):=by kernel_rfl
theorem z232:sizeIs PP 232 1:=by unfold sizeIs;kernel_rfl
theorem t232:tinf PP 232=some (false,1):=by kernel_rfl
theorem u232:PP.underlying 232=some (.bool):=by kernel_rfl
theorem z248:sizeIs PP 248 1:=by unfold sizeIs;kernel_rfl
theorem el248:ElTy PP 248 232 1 1:=⟨by kernel_rfl,by kernel_rfl⟩
instance ji_i64_2:IntI .i64 2:=⟨by decide⟩
instance ji_i64_6:IntI .i64 6:=⟨by decide⟩
instance ji_i64_7:IntI .i64 7:=⟨by decide⟩
instance ji_i64_10:IntI .i64 10:=⟨by decide⟩
instance ji_i64_11:IntI .i64 11:=⟨by decide⟩
instance ji_i64_3:IntI .i64 3:=⟨by decide⟩
theorem b199:bodied PP 199:=by unfold bodied;kernel_rfl
instance ji_i64_4:IntI .i64 4:=⟨by decide⟩
instance ji_i64_5:IntI .i64 5:=⟨by decide⟩
instance ji_i64_13:IntI .i64 13:=⟨by decide⟩
instance ji_i64_40:IntI .i64 40:=⟨by decide⟩
theorem u4:PP.underlying 4=some (.bool):=by kernel_rfl
instance jf58_0_api_Row:FlI PP 58 0 aU (kL (kI .i64)) aO.May:=⟨o58_0,rfl⟩
instance jt56:TinI PP 56 (kL (kI .i64)):=⟨t56⟩
theorem b166:bodied PP 166:=by unfold bodied;kernel_rfl
instance jf58_1_api_Row:FlI PP 58 1 aU (kL (kI .i64)) aO.Res:=⟨o58_1,rfl⟩
instance jf58_2_api_Row:FlI PP 58 2 aU (kL (kI .i64)) aO.Pc:=⟨o58_2,rfl⟩
theorem gm0:GlobIs (kI .i64) 0 gl0:=globI (.head _) (by kernel_rfl)
theorem u237:PP.underlying 237=some (.array 13 3):=by kernel_rfl
theorem b167:bodied PP 167:=by unfold bodied;kernel_rfl
instance ji_i64_m20:IntI .i64 (-20):=⟨by decide⟩
instance ji_i64_20:IntI .i64 20:=⟨by decide⟩
theorem b201:bodied PP 201:=by unfold bodied;kernel_rfl
theorem b200:bodied PP 200:=by unfold bodied;kernel_rfl
theorem u239:PP.underlying 239=some (.map 3 117):=by kernel_rfl
theorem mk3:MKey PP 3 (.int .i64) (kI .i64):=keyI u3
theorem o73_0:fofs PP 73 0=some 0:=by kernel_rfl
instance mM:FlI PP 73 0 aw (kI .i64) aE.Op:=⟨o73_0,rfl⟩
theorem zv117:zeroV PP 117 .nilFunc:=by unfold zeroV;kernel_rfl
theorem o73_1:fofs PP 73 1=some 1:=by kernel_rfl
instance mN:FlI PP 73 1 aw (kI .i64) aE.N:=⟨o73_1,rfl⟩
theorem o73_2:fofs PP 73 2=some 2:=by kernel_rfl
instance mO:FlI PP 73 2 aw (kI .i64) aE.L:=⟨o73_2,rfl⟩
theorem t73:tinf PP 73=some (true,3):=by kernel_rfl
instance jt73:TinI PP 73 (kR aw):=⟨t73⟩
theorem b168:bodied PP 168:=by unfold bodied;kernel_rfl
theorem b170:bodied PP 170:=by unfold bodied;kernel_rfl
theorem t30:tinf PP 30=some (true,2):=by kernel_rfl
instance jt30:TinI PP 30 (kR am):=⟨t30⟩
theorem b126:bodied PP 126:=by unfold bodied;kernel_rfl
theorem t88:tinf PP 88=some (true,3):=by kernel_rfl
instance jt88:TinI PP 88 (kR au):=⟨t88⟩
theorem b146:bodied PP 146:=by unfold bodied;kernel_rfl
theorem ze117:zeroIs PP 117 [.nilFunc]:=by unfold zeroIs;kernel_rfl
theorem z117:sizeIs PP 117 1:=by unfold sizeIs;kernel_rfl
theorem o30_0:fofs PP 30 0=some 0:=by kernel_rfl
instance jf30_0_api_Atom:FlI PP 30 0 am (kI .i64) az.V:=⟨o30_0,rfl⟩
theorem b148:bodied PP 148:=by unfold bodied;kernel_rfl
theorem t117:tinf PP 117=some (false,1):=by kernel_rfl
instance jt117:TinI PP 117 (kFn PP (rl1 (kI .i64) kB)):=⟨t117⟩
theorem o30_1:fofs PP 30 1=some 1:=by kernel_rfl
instance jf30_1_api_Atom:FlI PP 30 1 am (kI .i64) az.L:=⟨o30_1,rfl⟩
theorem b147:bodied PP 147:=by unfold bodied;kernel_rfl
theorem o88_2:fofs PP 88 2=some 2:=by kernel_rfl
instance jf88_2_api_Slot:FlI PP 88 2 au (kI .i64) av.L:=⟨o88_2,rfl⟩
theorem o88_0:fofs PP 88 0=some 0:=by kernel_rfl
instance jf88_0_api_Slot:FlI PP 88 0 au kB av.Ret:=⟨o88_0,rfl⟩
instance jt4:TinI PP 4 kB:=⟨t4⟩
theorem o88_1:fofs PP 88 1=some 1:=by kernel_rfl
instance jf88_1_api_Slot:FlI PP 88 1 au (kI .i64) av.V:=⟨o88_1,rfl⟩
theorem b150:bodied PP 150:=by unfold bodied;kernel_rfl
theorem b149:bodied PP 149:=by unfold bodied;kernel_rfl
instance mP:FlI PP 35 2 ap (kL (kR am)) ah.Mem:=⟨o35_2,rfl⟩
instance jt32:TinI PP 32 (kL (kR am)):=⟨t32⟩
instance mQ:FlI PP 35 3 ap (kL (kR au)) ah.Stack:=⟨o35_3,rfl⟩
instance jt33:TinI PP 33 (kL (kR au)):=⟨t33⟩
instance mR:FlI PP 35 4 ap (kL (kR am)) ah.Out:=⟨o35_4,rfl⟩
instance mS:FlI PP 35 1 ap (kL (kR aw)) ah.Code:=⟨o35_1,rfl⟩
instance jt31:TinI PP 31 (kL (kR aw)):=⟨t31⟩
theorem o35_0:fofs PP 35 0=some 0:=by kernel_rfl
instance mT:FlI PP 35 0 ap (kR am) ah.Pc:=⟨o35_0,rfl⟩
theorem b152:bodied PP 152:=by unfold bodied;kernel_rfl
theorem b153:bodied PP 153:=by unfold bodied;kernel_rfl
theorem cb199:conB PP 199=true:=by kernel_rfl
abbrev L204(x:al):List Leaf:=[.d (kL kS) x.l_.Names,.d (kL (kI .u32)) x.l_.Up,.d (kI .i64) x.s_.Pc.V,.d (kI .i64) x.s_.Pc.L,.d (kL (kR aw)) x.s_.Code,.d (kL (kR am)) x.s_.Mem,.d (kL (kR au)) x.s_.Stack,.d (kL (kR am)) x.s_.Out,.d (kI .i64) x.x_.Op,.d (kI .i64) x.x_.N,.d (kI .i64) x.x_.L,.d kB x.a_.Ret,.d (kI .i64) x.a_.V,.d (kI .i64) x.a_.L,.d kB x.b_.Ret,.d (kI .i64) x.b_.V,.d (kI .i64) x.b_.L,.d kB x.r_.Ret,.d (kI .i64) x.r_.V,.d (kI .i64) x.r_.L,.d (kI .i64) x.below_,.d (kI .i64) x.one_.x0_,.d (kI .i64) x.one_.x1_,.d (kI .i64) x.one_.x2_]
theorem o204_2:fofs PP 204 2=some 8:=by kernel_rfl
instance jo204_2:FofI PP 204 2 8:=⟨o204_2⟩
instance jo73_2:FofI PP 73 2 2:=⟨o73_2⟩
theorem o204_7:fofs PP 204 7=some 21:=by kernel_rfl
instance jo204_7:FofI PP 204 7 21:=⟨o204_7⟩
theorem u202:PP.underlying 202=some (.array 3 3):=by kernel_rfl
theorem ze88:zeroIs PP 88 [(.bool false),(.int .i64 0),(.int .i64 0)]:=by unfold zeroIs;kernel_rfl
abbrev Z88:List Leaf:=[.d kB false,.d (kI .i64) 0,.d (kI .i64) 0]
theorem zl88:∀g:G,leafs Z88 g [(.bool false),(.int .i64 0),(.int .i64 0)]:=fun g=>⟨[(.bool false)],_,rfl,zB g.H,⟨[(.int .i64 0)],_,rfl,zI_i64 g.H,⟨[(.int .i64 0)],_,rfl,zI_i64 g.H,rfl⟩⟩⟩
theorem o204_1:fofs PP 204 1=some 2:=by kernel_rfl
instance jo204_1:FofI PP 204 1 2:=⟨o204_1⟩
theorem b155:bodied PP 155:=by unfold bodied;kernel_rfl
theorem b192:bodied PP 192:=by unfold bodied;kernel_rfl
theorem o204_3:fofs PP 204 3=some 11:=by kernel_rfl
instance jo204_3:FofI PP 204 3 11:=⟨o204_3⟩
abbrev L88(x:av):List Leaf:=[.d kB x.Ret,.d (kI .i64) x.V,.d (kI .i64) x.L]
theorem pt88{x:av}:Part (L88 x) (kR au) x:=by
 have h:Part _ (kR au) x:=(lfS (lfC lf1 (lfC lf1 (lfC lf1 lfN))))
 exact h
theorem o204_6:fofs PP 204 6=some 20:=by kernel_rfl
instance jo204_6:FofI PP 204 6 20:=⟨o204_6⟩
instance jo88_2:FofI PP 88 2 2:=⟨o88_2⟩
theorem b175:bodied PP 175:=by unfold bodied;kernel_rfl
theorem o204_4:fofs PP 204 4=some 14:=by kernel_rfl
instance jo204_4:FofI PP 204 4 14:=⟨o204_4⟩
instance jo88_1:FofI PP 88 1 1:=⟨o88_1⟩
theorem b193:bodied PP 193:=by unfold bodied;kernel_rfl
theorem b176:bodied PP 176:=by unfold bodied;kernel_rfl
theorem b179:bodied PP 179:=by unfold bodied;kernel_rfl
instance jo73_1:FofI PP 73 1 1:=⟨o73_1⟩
theorem o204_5:fofs PP 204 5=some 17:=by kernel_rfl
instance jo204_5:FofI PP 204 5 17:=⟨o204_5⟩
theorem u216:PP.underlying 216=some (.map 3 1):=by kernel_rfl
instance jo73_0:FofI PP 73 0 0:=⟨o73_0⟩
theorem zv1:zeroV PP 1 .nilFunc:=by unfold zeroV;kernel_rfl
theorem b173:bodied PP 173:=by unfold bodied;kernel_rfl
theorem b174:bodied PP 174:=by unfold bodied;kernel_rfl
theorem b177:bodied PP 177:=by unfold bodied;kernel_rfl
theorem b178:bodied PP 178:=by unfold bodied;kernel_rfl
theorem b180:bodied PP 180:=by unfold bodied;kernel_rfl
theorem b181:bodied PP 181:=by unfold bodied;kernel_rfl
theorem b194:bodied PP 194:=by unfold bodied;kernel_rfl
theorem o225_2:fofs PP 225 2=some 3:=by kernel_rfl
instance jo225_2:FofI PP 225 2 3:=⟨o225_2⟩
theorem t223:tinf PP 223=some (false,1):=by kernel_rfl
theorem el223:ElTy PP 223 221 1 16:=⟨by kernel_rfl,by kernel_rfl⟩
theorem z223:sizeIs PP 223 1:=by unfold sizeIs;kernel_rfl
theorem u223:PP.underlying 223=some (.slice 221):=by kernel_rfl
theorem z221:sizeIs PP 221 1:=by unfold sizeIs;kernel_rfl
theorem t221:tinf PP 221=some (false,1):=by kernel_rfl
theorem cb218:conB PP 218=true:=by kernel_rfl
theorem zv218:zeroV PP 218 (.bool false):=by unfold zeroV;kernel_rfl
theorem cb227:conB PP 227=true:=by kernel_rfl
theorem zv227:zeroV PP 227 (.int .i64 0):=by unfold zeroV;kernel_rfl
theorem o225_0:fofs PP 225 0=some 0:=by kernel_rfl
instance jo225_0:FofI PP 225 0 0:=⟨o225_0⟩
abbrev L25(x:aq):List Leaf:=[.d (kL kS) x.Names,.d (kL (kI .u32)) x.Up]
theorem pt25{x:aq}:Part (L25 x) (kR aA) x:=by
 have h:Part _ (kR aA) x:=(lfS (lfC lf1 (lfC lf1 lfN)))
 exact h
theorem b195:bodied PP 195:=by unfold bodied;kernel_rfl
theorem o225_1:fofs PP 225 1=some 2:=by kernel_rfl
instance jo225_1:FofI PP 225 1 2:=⟨o225_1⟩
theorem b196:bodied PP 196:=by unfold bodied;kernel_rfl
theorem b197:bodied PP 197:=by unfold bodied;kernel_rfl
theorem pl225:places PP 225=some [(0,2),(2,1),(3,1)]:=by kernel_rfl
theorem po225_2:∀q f,dX[q]?=some f->([(0,2),(2,1),(3,1)]:List (Nat×Nat))[q]?=some (offF dX q,f.d.sz):=fun q f h=>by
 unfold dX at h
 match q,h with
 |0,h=>cases h;rfl
 |1,h=>cases h;rfl
 |2,h=>cases h;rfl
 |n+3,h=>simp at h
theorem ze225:zeroIs PP 225 [(.slice none 0 0),(.slice none 0 0),(.slice none 0 0),(.slice none 0 0)]:=by unfold zeroIs;kernel_rfl
theorem b183:bodied PP 183:=by unfold bodied;kernel_rfl
theorem pl88:places PP 88=some [(0,1),(1,1),(2,1)]:=by kernel_rfl
theorem po88:∀q f,au[q]?=some f->([(0,1),(1,1),(2,1)]:List (Nat×Nat))[q]?=some (offF au q,f.d.sz):=fun q f h=>by
 unfold au at h
 match q,h with
 |0,h=>cases h;rfl
 |1,h=>cases h;rfl
 |2,h=>cases h;rfl
 |n+3,h=>simp at h
theorem el33:ElTy PP 33 88 3 24:=⟨by kernel_rfl,by kernel_rfl⟩
theorem u147:PP.underlying 147=some (.slice 33):=by kernel_rfl
instance ju147:UndI PP 147 33:=⟨u147⟩
theorem fY:∀H,(kR au).reps H [(.bool false),(.int .i64 0),(.int .i64 0)] (⟨false,0,0⟩:av):=fun H=>⟨[(.bool false)],_,rfl,zB H,⟨[(.int .i64 0)],_,rfl,zI_i64 H,⟨[(.int .i64 0)],_,rfl,zI_i64 H,rfl⟩⟩⟩
theorem b198:bodied PP 198:=by unfold bodied;kernel_rfl
theorem b184:bodied PP 184:=by unfold bodied;kernel_rfl
instance jo35_0:FofI PP 35 0 0:=⟨o35_0⟩
instance jo30_0:FofI PP 30 0 0:=⟨o30_0⟩
theorem b185:bodied PP 185:=by unfold bodied;kernel_rfl
theorem el32:ElTy PP 32 30 2 16:=⟨by kernel_rfl,by kernel_rfl⟩
theorem b95:bodied PP 95:=by unfold bodied;kernel_rfl
theorem pl30:places PP 30=some [(0,1),(1,1)]:=by kernel_rfl
theorem po30:∀q f,am[q]?=some f->([(0,1),(1,1)]:List (Nat×Nat))[q]?=some (offF am q,f.d.sz):=fun q f h=>by
 unfold am at h
 match q,h with
 |0,h=>cases h;rfl
 |1,h=>cases h;rfl
 |n+2,h=>simp at h
theorem ze30:zeroIs PP 30 [(.int .i64 0),(.int .i64 0)]:=by unfold zeroIs;kernel_rfl
instance jo30_1:FofI PP 30 1 1:=⟨o30_1⟩
theorem el147:ElTy PP 147 33 1 24:=⟨by kernel_rfl,by kernel_rfl⟩
theorem ze3:zeroIs PP 3 [(.int .i64 0)]:=by unfold zeroIs;kernel_rfl
instance jt35:TinI PP 35 (kR ap):=⟨t35⟩
theorem po202:∀q f,iR[q]?=some f->(q*1,1)=(offF iR q,f.d.sz):=fun q f h=>by
 unfold iR at h
 match q,h with
 |0,h=>cases h;rfl
 |1,h=>cases h;rfl
 |2,h=>cases h;rfl
 |n+3,h=>simp at h
theorem ze202:zeroIs PP 202 [(.int .i64 0),(.int .i64 0),(.int .i64 0)]:=by unfold zeroIs;kernel_rfl
theorem pl204:places PP 204=some [(0,2),(2,6),(8,3),(11,3),(14,3),(17,3),(20,1),(21,3)]:=by kernel_rfl
theorem po204:∀q f,eA[q]?=some f->([(0,2),(2,6),(8,3),(11,3),(14,3),(17,3),(20,1),(21,3)]:List (Nat×Nat))[q]?=some (offF eA q,f.d.sz):=fun q f h=>by
 unfold eA at h
 match q,h with
 |0,h=>cases h;rfl
 |1,h=>cases h;rfl
 |2,h=>cases h;rfl
 |3,h=>cases h;rfl
 |4,h=>cases h;rfl
 |5,h=>cases h;rfl
 |6,h=>cases h;rfl
 |7,h=>cases h;rfl
 |n+8,h=>simp at h
theorem ze204:zeroIs PP 204 [(.slice none 0 0),(.slice none 0 0),(.int .i64 0),(.int .i64 0),(.slice none 0 0),(.slice none 0 0),(.slice none 0 0),(.slice none 0 0),(.int .i64 0),(.int .i64 0),(.int .i64 0),(.bool false),(.int .i64 0),(.int .i64 0),(.bool false),(.int .i64 0),(.int .i64 0),(.bool false),(.int .i64 0),(.int .i64 0),(.int .i64 0),(.int .i64 0),(.int .i64 0),(.int .i64 0)]:=by unfold zeroIs;kernel_rfl
theorem pt204{x:al}:Part (L204 x) (kR eA) x:=by
 have h:Part _ (kR eA) x:=(lfS (lfC (lfS (lfC lf1 (lfC lf1 lfN))) (lfC (lfS (lfC (lfS (lfC lf1 (lfC lf1 lfN))) (lfC lf1 (lfC lf1 (lfC lf1 (lfC lf1 lfN)))))) (lfC (lfS (lfC lf1 (lfC lf1 (lfC lf1 lfN)))) (lfC (lfS (lfC lf1 (lfC lf1 (lfC lf1 lfN)))) (lfC (lfS (lfC lf1 (lfC lf1 (lfC lf1 lfN)))) (lfC (lfS (lfC lf1 (lfC lf1 (lfC lf1 lfN)))) (lfC lf1 (lfC (lfS (lfC lf1 (lfC lf1 (lfC lf1 lfN)))) lfN)))))))))
 exact h
theorem b157:bodied PP 157:=by unfold bodied;kernel_rfl
abbrev L58(x:aO):List Leaf:=[.d (kL (kI .i64)) x.May,.d (kL (kI .i64)) x.Res,.d (kL (kI .i64)) x.Pc]
theorem b160:bodied PP 160:=by unfold bodied;kernel_rfl
theorem u20:PP.underlying 20=some (.interface #[]):=by kernel_rfl
theorem b154:bodied PP 154:=by unfold bodied;kernel_rfl
instance jt28:TinI PP 28 (kR bf):=⟨t28⟩
theorem eG:∀H,(kR am).reps H [(.int .i64 0),(.int .i64 0)] (⟨0,0⟩:az):=fun H=>⟨[(.int .i64 0)],_,rfl,zI_i64 H,⟨[(.int .i64 0)],_,rfl,zI_i64 H,rfl⟩⟩
theorem pl35:places PP 35=some [(0,2),(2,1),(3,1),(4,1),(5,1)]:=by kernel_rfl
theorem po35:∀q f,ap[q]?=some f->([(0,2),(2,1),(3,1),(4,1),(5,1)]:List (Nat×Nat))[q]?=some (offF ap q,f.d.sz):=fun q f h=>by
 unfold ap at h
 match q,h with
 |0,h=>cases h;rfl
 |1,h=>cases h;rfl
 |2,h=>cases h;rfl
 |3,h=>cases h;rfl
 |4,h=>cases h;rfl
 |n+5,h=>simp at h
theorem b37:bodied PP 37:=by unfold bodied;kernel_rfl
theorem b75:bodied PP 75:=by unfold bodied;kernel_rfl
theorem o68_0:fofs PP 68 0=some 0:=by kernel_rfl
instance mU:FlI PP 68 0 bM (kR aA) bP.l_:=⟨o68_0,rfl⟩
theorem o68_2:fofs PP 68 2=some 3:=by kernel_rfl
instance mV:FlI PP 68 2 bM (kI .i64) bP.o_:=⟨o68_2,rfl⟩
theorem ze98:zeroIs PP 98 [.nilFunc,.nilFunc,.nilFunc]:=by unfold zeroIs;kernel_rfl
noncomputable abbrev Z98:List Leaf:=[.d (kFn PP (rl2 (kR aw) (kR aw) kB)) none,.d (kFn PP (rl1 (kR aw) (kI .i64))) none,.d (kFn PP (rl2 (kR aw) (kR aw) kB)) none]
theorem zl98:∀g:G,leafs Z98 g [.nilFunc,.nilFunc,.nilFunc]:=fun g=>⟨[.nilFunc],_,rfl,zFn g.H,⟨[.nilFunc],_,rfl,zFn g.H,⟨[.nilFunc],_,rfl,zFn g.H,rfl⟩⟩⟩
theorem b78:bodied PP 78:=by unfold bodied;kernel_rfl
theorem b79:bodied PP 79:=by unfold bodied;kernel_rfl
theorem b80:bodied PP 80:=by unfold bodied;kernel_rfl
theorem pl98:places PP 98=some [(0,1),(1,1),(2,1)]:=by kernel_rfl
theorem po98:∀q f,cz[q]?=some f->([(0,1),(1,1),(2,1)]:List (Nat×Nat))[q]?=some (offF cz q,f.d.sz):=fun q f h=>by
 unfold cz at h
 match q,h with
 |0,h=>cases h;rfl
 |1,h=>cases h;rfl
 |2,h=>cases h;rfl
 |n+3,h=>simp at h
theorem z98:sizeIs PP 98 3:=by unfold sizeIs;kernel_rfl
theorem t98:tinf PP 98=some (true,3):=by kernel_rfl
theorem u145:PP.underlying 145=some (.slice 31):=by kernel_rfl
instance ju145:UndI PP 145 31:=⟨u145⟩
theorem ze73:zeroIs PP 73 [(.int .i64 0),(.int .i64 0),(.int .i64 0)]:=by unfold zeroIs;kernel_rfl
abbrev Z73:List Leaf:=[.d (kI .i64) 0,.d (kI .i64) 0,.d (kI .i64) 0]
theorem zl73:∀g:G,leafs Z73 g [(.int .i64 0),(.int .i64 0),(.int .i64 0)]:=fun g=>⟨[(.int .i64 0)],_,rfl,zI_i64 g.H,⟨[(.int .i64 0)],_,rfl,zI_i64 g.H,⟨[(.int .i64 0)],_,rfl,zI_i64 g.H,rfl⟩⟩⟩
theorem o98_1:fofs PP 98 1=some 1:=by kernel_rfl
instance mD:FlI PP 98 1 cz (kFn PP (rl1 (kR aw) (kI .i64))) cf.label_:=⟨o98_1,rfl⟩
theorem t96:tinf PP 96=some (false,1):=by kernel_rfl
instance jt96:TinI PP 96 (kFn PP (rl1 (kR aw) (kI .i64))):=⟨t96⟩
theorem ze104:zeroIs PP 104 [.nilFunc,.nilFunc,.nilFunc]:=by unfold zeroIs;kernel_rfl
noncomputable abbrev Z104:List Leaf:=[.d (kFn PP (rl2 (kR am) (kR am) kB)) none,.d (kFn PP (rl1 (kR am) (kI .i64))) none,.d (kFn PP (rl2 (kR am) (kR am) kB)) none]
theorem zl104:∀g:G,leafs Z104 g [.nilFunc,.nilFunc,.nilFunc]:=fun g=>⟨[.nilFunc],_,rfl,zFn g.H,⟨[.nilFunc],_,rfl,zFn g.H,⟨[.nilFunc],_,rfl,zFn g.H,rfl⟩⟩⟩
theorem b81:bodied PP 81:=by unfold bodied;kernel_rfl
theorem b82:bodied PP 82:=by unfold bodied;kernel_rfl
theorem b83:bodied PP 83:=by unfold bodied;kernel_rfl
theorem pl104:places PP 104=some [(0,1),(1,1),(2,1)]:=by kernel_rfl
theorem po104:∀q f,cA[q]?=some f->([(0,1),(1,1),(2,1)]:List (Nat×Nat))[q]?=some (offF cA q,f.d.sz):=fun q f h=>by
 unfold cA at h
 match q,h with
 |0,h=>cases h;rfl
 |1,h=>cases h;rfl
 |2,h=>cases h;rfl
 |n+3,h=>simp at h
theorem z104:sizeIs PP 104 3:=by unfold sizeIs;kernel_rfl
theorem t104:tinf PP 104=some (true,3):=by kernel_rfl
theorem u146:PP.underlying 146=some (.slice 32):=by kernel_rfl
instance ju146:UndI PP 146 32:=⟨u146⟩
abbrev Z30:List Leaf:=[.d (kI .i64) 0,.d (kI .i64) 0]
theorem zl30:∀g:G,leafs Z30 g [(.int .i64 0),(.int .i64 0)]:=fun g=>⟨[(.int .i64 0)],_,rfl,zI_i64 g.H,⟨[(.int .i64 0)],_,rfl,zI_i64 g.H,rfl⟩⟩
theorem o104_1:fofs PP 104 1=some 1:=by kernel_rfl
instance ml:FlI PP 104 1 cA (kFn PP (rl1 (kR am) (kI .i64))) ci.label_:=⟨o104_1,rfl⟩
theorem t102:tinf PP 102=some (false,1):=by kernel_rfl
instance jt102:TinI PP 102 (kFn PP (rl1 (kR am) (kI .i64))):=⟨t102⟩
theorem ze110:zeroIs PP 110 [.nilFunc,.nilFunc,.nilFunc]:=by unfold zeroIs;kernel_rfl
noncomputable abbrev Z110:List Leaf:=[.d (kFn PP (rl2 (kR au) (kR au) kB)) none,.d (kFn PP (rl1 (kR au) (kI .i64))) none,.d (kFn PP (rl2 (kR au) (kR au) kB)) none]
theorem zl110:∀g:G,leafs Z110 g [.nilFunc,.nilFunc,.nilFunc]:=fun g=>⟨[.nilFunc],_,rfl,zFn g.H,⟨[.nilFunc],_,rfl,zFn g.H,⟨[.nilFunc],_,rfl,zFn g.H,rfl⟩⟩⟩
theorem b84:bodied PP 84:=by unfold bodied;kernel_rfl
theorem b85:bodied PP 85:=by unfold bodied;kernel_rfl
theorem b86:bodied PP 86:=by unfold bodied;kernel_rfl
theorem pl110:places PP 110=some [(0,1),(1,1),(2,1)]:=by kernel_rfl
theorem po110:∀q f,cD[q]?=some f->([(0,1),(1,1),(2,1)]:List (Nat×Nat))[q]?=some (offF cD q,f.d.sz):=fun q f h=>by
 unfold cD at h
 match q,h with
 |0,h=>cases h;rfl
 |1,h=>cases h;rfl
 |2,h=>cases h;rfl
 |n+3,h=>simp at h
theorem z110:sizeIs PP 110 3:=by unfold sizeIs;kernel_rfl
theorem t110:tinf PP 110=some (true,3):=by kernel_rfl
theorem o110_1:fofs PP 110 1=some 1:=by kernel_rfl
instance mn:FlI PP 110 1 cD (kFn PP (rl1 (kR au) (kI .i64))) cj.label_:=⟨o110_1,rfl⟩
theorem t108:tinf PP 108=some (false,1):=by kernel_rfl
instance jt108:TinI PP 108 (kFn PP (rl1 (kR au) (kI .i64))):=⟨t108⟩
theorem u143:PP.underlying 143=some (.slice 56):=by kernel_rfl
instance ju143:UndI PP 143 56:=⟨u143⟩
theorem z56:sizeIs PP 56 1:=by unfold sizeIs;kernel_rfl
theorem b77:bodied PP 77:=by unfold bodied;kernel_rfl
theorem b87:bodied PP 87:=by unfold bodied;kernel_rfl
theorem o113_0:fofs PP 113 0=some 0:=by kernel_rfl
instance mJ:FlI PP 113 0 bx (kR aA) bp.l_:=⟨o113_0,rfl⟩
theorem o113_1:fofs PP 113 1=some 2:=by kernel_rfl
instance mK:FlI PP 113 1 bx (kI .i64) bp.o_:=⟨o113_1,rfl⟩
theorem o98_0:fofs PP 98 0=some 0:=by kernel_rfl
instance mE:FlI PP 98 0 cz (kFn PP (rl2 (kR aw) (kR aw) kB)) cf.same_:=⟨o98_0,rfl⟩
theorem t95:tinf PP 95=some (false,1):=by kernel_rfl
instance jt95:TinI PP 95 (kFn PP (rl2 (kR aw) (kR aw) kB)):=⟨t95⟩
theorem t113:tinf PP 113=some (true,3):=by kernel_rfl
instance jt113:TinI PP 113 (kR bx):=⟨t113⟩
theorem b52:bodied PP 52:=by unfold bodied;kernel_rfl
theorem o98_2:fofs PP 98 2=some 2:=by kernel_rfl
instance mF:FlI PP 98 2 cz (kFn PP (rl2 (kR aw) (kR aw) kB)) cf.seen_:=⟨o98_2,rfl⟩
theorem b89:bodied PP 89:=by unfold bodied;kernel_rfl
theorem o104_0:fofs PP 104 0=some 0:=by kernel_rfl
instance mo:FlI PP 104 0 cA (kFn PP (rl2 (kR am) (kR am) kB)) ci.same_:=⟨o104_0,rfl⟩
theorem t101:tinf PP 101=some (false,1):=by kernel_rfl
instance jt101:TinI PP 101 (kFn PP (rl2 (kR am) (kR am) kB)):=⟨t101⟩
theorem o104_2:fofs PP 104 2=some 2:=by kernel_rfl
instance mq:FlI PP 104 2 cA (kFn PP (rl2 (kR am) (kR am) kB)) ci.seen_:=⟨o104_2,rfl⟩
theorem b91:bodied PP 91:=by unfold bodied;kernel_rfl
theorem eqk30:EqK PP (kR am) 30 2:=eqKR (fs:=[(true,0,3),(true,1,3)]) (by kernel_rfl) (by kernel_rfl) (.cons rfl t3 (eqKI u3) (.cons rfl t3 (eqKI u3) .nil)) (fun x y=>by cases x;cases y;simp[az.mk.injEq,Bool.decide_and])
theorem eg30:PP.eqGuardType PP.depth 30=false:=by kernel_rfl
theorem b92:bodied PP 92:=by unfold bodied;kernel_rfl
theorem b94:bodied PP 94:=by unfold bodied;kernel_rfl
theorem o110_0:fofs PP 110 0=some 0:=by kernel_rfl
instance mr:FlI PP 110 0 cD (kFn PP (rl2 (kR au) (kR au) kB)) cj.same_:=⟨o110_0,rfl⟩
theorem t107:tinf PP 107=some (false,1):=by kernel_rfl
instance jt107:TinI PP 107 (kFn PP (rl2 (kR au) (kR au) kB)):=⟨t107⟩
theorem o110_2:fofs PP 110 2=some 2:=by kernel_rfl
instance mu:FlI PP 110 2 cD (kFn PP (rl2 (kR au) (kR au) kB)) cj.seen_:=⟨o110_2,rfl⟩
theorem b98:bodied PP 98:=by unfold bodied;kernel_rfl
theorem el145:ElTy PP 145 31 1 24:=⟨by kernel_rfl,by kernel_rfl⟩
theorem b45:bodied PP 45:=by unfold bodied;kernel_rfl
theorem el146:ElTy PP 146 32 1 24:=⟨by kernel_rfl,by kernel_rfl⟩
theorem b47:bodied PP 47:=by unfold bodied;kernel_rfl
theorem el143:ElTy PP 143 56 1 24:=⟨by kernel_rfl,by kernel_rfl⟩
theorem pl113:places PP 113=some [(0,2),(2,1)]:=by kernel_rfl
theorem po113:∀q f,bx[q]?=some f->([(0,2),(2,1)]:List (Nat×Nat))[q]?=some (offF bx q,f.d.sz):=fun q f h=>by
 unfold bx at h
 match q,h with
 |0,h=>cases h;rfl
 |1,h=>cases h;rfl
 |n+2,h=>simp at h
theorem ze113:zeroIs PP 113 [(.slice none 0 0),(.slice none 0 0),(.int .i64 0)]:=by unfold zeroIs;kernel_rfl
abbrev Z113:List Leaf:=[.d (kL kS) [],.d (kL (kI .u32)) [],.d (kI .i64) 0]
theorem zl113:∀g:G,leafs Z113 g [(.slice none 0 0),(.slice none 0 0),(.int .i64 0)]:=fun g=>⟨[(.slice none 0 0)],_,rfl,zL g.H,⟨[(.slice none 0 0)],_,rfl,zL g.H,⟨[(.int .i64 0)],_,rfl,zI_i64 g.H,rfl⟩⟩⟩
abbrev L113(x:bp):List Leaf:=[.d (kL kS) x.l_.Names,.d (kL (kI .u32)) x.l_.Up,.d (kI .i64) x.o_]
theorem pt113{x:bp}:Part (L113 x) (kR bx) x:=by
 have h:Part _ (kR bx) x:=(lfS (lfC (lfS (lfC lf1 (lfC lf1 lfN))) (lfC lf1 lfN)))
 exact h
theorem z113:sizeIs PP 113 3:=by unfold sizeIs;kernel_rfl
theorem b50:bodied PP 50:=by unfold bodied;kernel_rfl
theorem b51:bodied PP 51:=by unfold bodied;kernel_rfl
theorem b53:bodied PP 53:=by unfold bodied;kernel_rfl
theorem o68_1:fofs PP 68 1=some 2:=by kernel_rfl
instance mW:FlI PP 68 1 bM (kR bf) bP.t_:=⟨o68_1,rfl⟩
theorem o68_4:fofs PP 68 4=some 5:=by kernel_rfl
instance mX:FlI PP 68 4 bM (kR ap) bP.a_:=⟨o68_4,rfl⟩
theorem o68_3:fofs PP 68 3=some 4:=by kernel_rfl
instance mY:FlI PP 68 3 bM (kI .i64) bP.fuel_:=⟨o68_3,rfl⟩
theorem o68_5:fofs PP 68 5=some 11:=by kernel_rfl
instance mZ:FlI PP 68 5 bM (kR ap) bP.b_:=⟨o68_5,rfl⟩
theorem t68:tinf PP 68=some (true,17):=by kernel_rfl
instance jt68:TinI PP 68 (kR bM):=⟨t68⟩
theorem b70:bodied PP 70:=by unfold bodied;kernel_rfl
theorem b76:bodied PP 76:=by unfold bodied;kernel_rfl
theorem ze49:zeroIs PP 49 [(.slice none 0 0)]:=by unfold zeroIs;kernel_rfl
theorem t49:tinf PP 49=some (false,1):=by kernel_rfl
theorem el49:ElTy PP 49 35 6 112:=⟨by kernel_rfl,by kernel_rfl⟩
theorem z49:sizeIs PP 49 1:=by unfold sizeIs;kernel_rfl
theorem u49:PP.underlying 49=some (.slice 35):=by kernel_rfl
instance ju49:UndI PP 49 35:=⟨u49⟩
theorem b113:bodied PP 113:=by unfold bodied;kernel_rfl
theorem b67:bodied PP 67:=by unfold bodied;kernel_rfl
theorem b69:bodied PP 69:=by unfold bodied;kernel_rfl
theorem lr:∀H,(kR ap).reps H [(.int .i64 0),(.int .i64 0),(.slice none 0 0),(.slice none 0 0),(.slice none 0 0),(.slice none 0 0)] (⟨(⟨0,0⟩:az),[],[],[],[]⟩:ah):=fun H=>⟨[(.int .i64 0),(.int .i64 0)],_,rfl,eG H,⟨[(.slice none 0 0)],_,rfl,zL H,⟨[(.slice none 0 0)],_,rfl,zL H,⟨[(.slice none 0 0)],_,rfl,zL H,⟨[(.slice none 0 0)],_,rfl,zL H,rfl⟩⟩⟩⟩⟩
theorem b68:bodied PP 68:=by unfold bodied;kernel_rfl
theorem b38:bodied PP 38:=by unfold bodied;kernel_rfl
theorem u63:PP.underlying 63=some (.map 3 61):=by kernel_rfl
theorem b39:bodied PP 39:=by unfold bodied;kernel_rfl
theorem b40:bodied PP 40:=by unfold bodied;kernel_rfl
theorem zv61:zeroV PP 61 .nilFunc:=by unfold zeroV;kernel_rfl
theorem pl68:places PP 68=some [(0,2),(2,1),(3,1),(4,1),(5,6),(11,6)]:=by kernel_rfl
theorem po68:∀q f,bM[q]?=some f->([(0,2),(2,1),(3,1),(4,1),(5,6),(11,6)]:List (Nat×Nat))[q]?=some (offF bM q,f.d.sz):=fun q f h=>by
 unfold bM at h
 match q,h with
 |0,h=>cases h;rfl
 |1,h=>cases h;rfl
 |2,h=>cases h;rfl
 |3,h=>cases h;rfl
 |4,h=>cases h;rfl
 |5,h=>cases h;rfl
 |n+6,h=>simp at h
theorem ze68:zeroIs PP 68 [(.slice none 0 0),(.slice none 0 0),(.slice none 0 0),(.int .i64 0),(.int .i64 0),(.int .i64 0),(.int .i64 0),(.slice none 0 0),(.slice none 0 0),(.slice none 0 0),(.slice none 0 0),(.int .i64 0),(.int .i64 0),(.slice none 0 0),(.slice none 0 0),(.slice none 0 0),(.slice none 0 0)]:=by unfold zeroIs;kernel_rfl
theorem el23:ElTy PP 23 70 1 4:=⟨by kernel_rfl,by kernel_rfl⟩
theorem po25:∀q f,aA[q]?=some f->([(0,1),(1,1)]:List (Nat×Nat))[q]?=some (offF aA q,f.d.sz):=fun q f h=>by
 unfold aA at h
 match q,h with
 |0,h=>cases h;rfl
 |1,h=>cases h;rfl
 |n+2,h=>simp at h
abbrev Z25:List Leaf:=[.d (kL kS) [],.d (kL (kI .u32)) []]
theorem zl25:∀g:G,leafs Z25 g [(.slice none 0 0),(.slice none 0 0)]:=fun g=>⟨[(.slice none 0 0)],_,rfl,zL g.H,⟨[(.slice none 0 0)],_,rfl,zL g.H,rfl⟩⟩
theorem b22:bodied PP 22:=by unfold bodied;kernel_rfl
theorem pl73:places PP 73=some [(0,1),(1,1),(2,1)]:=by kernel_rfl
theorem po73:∀q f,aw[q]?=some f->([(0,1),(1,1),(2,1)]:List (Nat×Nat))[q]?=some (offF aw q,f.d.sz):=fun q f h=>by
 unfold aw at h
 match q,h with
 |0,h=>cases h;rfl
 |1,h=>cases h;rfl
 |2,h=>cases h;rfl
 |n+3,h=>simp at h
theorem el31:ElTy PP 31 73 3 24:=⟨by kernel_rfl,by kernel_rfl⟩
theorem cu.ok{a:aq} {r:aq}(h:cu.f a=some r):FnA PP 6 [(kR aA).sig a] ((kR aA).sig r):=by
 refine fnIntro Tryz.func6 u (by kernel_rfl) fun H0 w0=>?_
 unfold cu.f at h
 refine wSeq<|rx (c1<|cw (oAlloc (id:=2) (ls:=[.d (kN Str) [],.d (kL (kI .u32)) []]) ze25 (fun g=>⟨[(.slice none 0 0)],_,u,zN g.H,⟨[(.slice none 0 0)],_,u,zL g.H,u⟩⟩)) tv<|.nil)<|pSeq<|wSeq ?_
 obtain⟨l,h⟩:=ib h
 refine rx (c4<|c1<|cp (oMin tm (cI (by decide))) (s1 u)<|cp (oCutHi u23 z70 l.1 l.2 tm tm) (s2 u u)<|cp (oBuild (fs:=eJ) (u:=⟨[],lCut a.Up 0 (if 10<(a.Up.length:Int) then 10 else (a.Up.length:Int))⟩) u ze25 pl25 po25_0 (.ze (zc:=[(.slice none 0 0)]) zN (.op (zc:=[(.slice none 0 0)]) tm u .nil))) (s1 u)<|cw (oAlloc (id:=3) (ls:=[.d (kN Str) [],.d (kL (kI .u32)) []]) ze25 (fun g=>⟨[(.slice none 0 0)],_,u,zN g.H,⟨[(.slice none 0 0)],_,u,zL g.H,u⟩⟩)) tv<|cwn (oStA (n:=0) (fs:=eJ) u u z25 tm tm) (s2 u u)<|.nil)<|pSeq<|wSeq<|wSeq ?_
 obtain⟨o,h⟩:=ib h
 refine rx (c4<|c1<|cp (oMin tm (cI (by decide))) (s1 u)<|cp (oCutHi u22 z9 o.1 o.2 tm tm) (s2 u u)<|c2<|.nil)<|pSeq<|wNilL kS 9 5150 (n:=0) (k:=0) u u u ?_
 obtain⟨t,h,w⟩:=bd h
 refine wK1 (fun b=>b=t) (fun b=>[(2,.p 2 0),(3,.p 3 0)]) (fun b=>[.row 5150 9 kS b,.box 3 25 [.v 5150,.d (kL (kI .u32)) (lCut a.Up 0 (if 10<(a.Up.length:Int) then 10 else (a.Up.length:Int)))],.box 2 25 [.d (kN Str) [],.d (kL (kI .u32)) []]]) ?_ ?_
 ·refine wBlock (wLoop ?_)
  refine lW (pc2 t (fun i e=>[(2,.p 2 0),(3,.p 3 0),(20,.d ((kL kS).sig (lCut a.Names 0 (if 10<(a.Names.length:Int) then 10 else (a.Names.length:Int))))),(21,.d (ki.sig ((lCut a.Names 0 (if 10<(a.Names.length:Int) then 10 else (a.Names.length:Int))).length:Int))),(22,.d (ki.sig e))]) (fun i e=>[.row 5150 9 kS i,.box 3 25 [.v 5150,.d (kL (kI .u32)) (lCut a.Up 0 (if 10<(a.Up.length:Int) then 10 else (a.Up.length:Int)))],.box 2 25 [.d (kN Str) [],.d (kL (kI .u32)) []]]) (cu.l0.partial_correctness a) ?_ _ _ h) ⟨u,u,u,u,u,tv⟩ u
  clear h
  intro f' ih i e h
  refine wSeq<|rx (c1<|.nil)<|pSeq<|wSeq ?_
  obtain⟨c,h⟩|⟨c,h⟩:=ik h
  ·refine wCT c.1 tm (s1 u)<|wSkip<|pSeq<|wSeq<|wBlock<|wSeq ?_
   obtain⟨y15,q,h⟩:=bd h
   refine rx (cp (oIdx u22 z9 q tm tm) (s2 u u)<|c2<|.nil)<|pSeq ?_
   obtain⟨j,h⟩:=ib h
   obtain⟨s,h⟩:=ib h
   exact rdx hm (c1<|cr (oLdN (n:=1) (k:=0) u u u t22 tm) (s1 u)<|c2<|cp (oLenS u9 tm) (s1 u)<|cp (oMin tm (cI (by decide))) (s1 u)<|cp (oCutSH u9 j.1 j.2 tm tm) (s2 u u)<|cp (oLit (d:=kS) el22 (by decide) u u u (e1 tm e0)) (s1 u)<|cw (oApp (n:=0) (id':=34) el22 (by decide) u (by decide) s tm tm) (s2 u u)<|c1<|cwn (oStN (n:=1) (m:=0) (k:=0) u u u u z22 u tm tm) (s2 u u)<|.nil)<|pBlkN<|pSeq<|rx (c2<|.nil)<|pSub (Γ':=[(2,.p 2 0),(3,.p 3 0),(20,.d ((kL kS).sig (lCut a.Names 0 (if 10<(a.Names.length:Int) then 10 else (a.Names.length:Int))))),(21,.d (ki.sig ((lCut a.Names 0 (if 10<(a.Names.length:Int) then 10 else (a.Names.length:Int))).length:Int))),(22,.d (ki.sig (IntKind.i64.wrap (e+1))))]) (sb u)<|pRen 34 5150 u<|pLoop (lW (ih _ _ h) ⟨u,u,u,u,u,tv⟩ u)
  ·exact wCF c.1 tm (s1 u)<|wExit<|pThenX<|pThenX<|pBlkX<|pJ1 _ (so h) (sb u) u
 ·rintro b rfl
  replace h:=w
  refine pSeq<|wSeq<|wFrzR (n:=0) (id:=5150) [] u u tv<|rx (cr (oLdA (n:=0) (fs:=aA) (u:=⟨b,lCut a.Up 0 (if 10<(a.Up.length:Int) then 10 else (a.Up.length:Int))⟩) u ⟨u,u,tv⟩ t25 tm) (s1 u)<|cwn (oStA (n:=1) (fs:=aA) u u z25 tm tm) (s2 u u)<|.nil)<|pSeq<|wRet ?_
  obtain rfl:=so h
  exact pR1 (.inl u) u (.box (n:=1) (fs:=aA) (u:=⟨b,lCut a.Up 0 (if 10<(a.Up.length:Int) then 10 else (a.Up.length:Int))⟩) u u ⟨u,u,tv⟩ t25<|.nil)
theorem ca.ok{a:bw} {r:bw}(h:ca.f a=some r):FnA PP 7 [(kR bf).sig a] ((kR bf).sig r):=by
 refine fnIntro Tryz.func7 u (by kernel_rfl) fun H0 w0=>?_
 unfold ca.f at h
 refine wSeq<|rx (c1<|cw (oAlloc (id:=2) (ls:=[.d (kN aO) []]) ze28 (fun g=>⟨[(.slice none 0 0)],_,u,zN g.H,u⟩)) tv<|.nil)<|pSeq<|wSeq<|rx (cw (oAlloc (id:=3) (ls:=[.d (kN aO) []]) ze28 (fun g=>⟨[(.slice none 0 0)],_,u,zN g.H,u⟩)) tv<|.nil)<|pSeq<|wSeq<|wSeq ?_
 obtain⟨s,h⟩:=ib h
 refine rx (c4<|c1<|cp (oMin tm (cI (by decide))) (s1 u)<|cp (oCutHi u26 z58 s.1 s.2 tm tm) (s2 u u)<|c2<|.nil)<|pSeq<|wNilL (kR aU) 58 5150 (n:=0) (k:=0) u u u ?_
 obtain⟨x,h,y⟩:=bd h
 refine wK1 (fun c=>c=x) (fun c=>[(2,.p 2 0),(3,.p 3 0)]) (fun c=>[.row 5150 58 (kR aU) c,.box 3 28 [.v 5150],.box 2 28 [.d (kN aO) []]]) ?_ ?_
 ·refine wBlock (wLoop ?_)
  refine lW (pc2 x (fun j i=>[(2,.p 2 0),(3,.p 3 0),(12,.d ((kL (kR aU)).sig (lCut a.Rows 0 (if 15<(a.Rows.length:Int) then 15 else (a.Rows.length:Int))))),(13,.d (ki.sig ((lCut a.Rows 0 (if 15<(a.Rows.length:Int) then 15 else (a.Rows.length:Int))).length:Int))),(14,.d (ki.sig i))]) (fun j i=>[.row 5150 58 (kR aU) j,.box 3 28 [.v 5150],.box 2 28 [.d (kN aO) []]]) (ca.l0.partial_correctness a) ?_ _ _ h) ⟨u,u,u,u,u,tv⟩ u
  clear h
  intro f' ih j i h
  refine wSeq<|rx (c1<|.nil)<|pSeq<|wSeq ?_
  obtain⟨e,h⟩|⟨e,h⟩:=ik h
  ·refine wCT e.1 tm (s1 u)<|wSkip<|pSeq<|wSeq<|wBlock<|wSeq ?_
   obtain⟨b,t,h⟩:=bd h
   refine rx (cp (oIdx u26 z58 t tm tm) (s2 u u)<|c1<|cw (oAlloc (id:=5) (ls:=Z58) ze58 zl58) tv<|cwn (oStA (n:=0) (fs:=aU) u u z58 tm tm) (s2 u u)<|.nil)<|pSeq ?_
   obtain⟨l,h⟩:=ib h
   obtain⟨o,h⟩:=ib h
   obtain⟨q,h⟩:=ib h
   obtain⟨w,h⟩:=ib h
   exact rdx hm (c1<|cr (oLdN (n:=2) (k:=0) u u u t26 tm) (s1 u)<|c1<|cr (oLdB (n:=0) (k:=0) u u u t56 tm) (s1 u)<|c1<|cr (oLdB (n:=0) (k:=0) u u u t56 tm) (s1 u)<|c1<|cp (oMin tm (cI (by decide))) (s1 u)<|cp (oCutHi u56 z3 l.1 l.2 tm tm) (s2 u u)<|c1<|cr (oLdB (n:=0) (k:=1) u u u t56 tm) (s1 u)<|c1<|cr (oLdB (n:=0) (k:=1) u u u t56 tm) (s1 u)<|c1<|cp (oMin tm (cI (by decide))) (s1 u)<|cp (oCutHi u56 z3 o.1 o.2 tm tm) (s2 u u)<|c1<|cr (oLdB (n:=0) (k:=2) u u u t56 tm) (s1 u)<|c1<|cr (oLdB (n:=0) (k:=2) u u u t56 tm) (s1 u)<|c1<|cp (oMin tm (cI (by decide))) (s1 u)<|cp (oCutHi u56 z3 q.1 q.2 tm tm) (s2 u u)<|cp (oBuild (fs:=aU) (u:=⟨lCut b.May 0 (if 45<(b.May.length:Int) then 45 else (b.May.length:Int)),lCut b.Res 0 (if 45<(b.Res.length:Int) then 45 else (b.Res.length:Int)),lCut b.Pc 0 (if 45<(b.Pc.length:Int) then 45 else (b.Pc.length:Int))⟩) u ze58 pl58 po58 (.op (zc:=[(.slice none 0 0)]) tm u (.op (zc:=[(.slice none 0 0)]) tm u (.op (zc:=[(.slice none 0 0)]) tm u .nil)))) (s3 u u u)<|cp (oLit (d:=(kR aU)) el26 (by decide) u u u (e1 tm e0)) (s1 u)<|cw (oApp (n:=1) (id':=43) el26 (by decide) u (by decide) w tm tm) (s2 u u)<|c1<|cwn (oStN (n:=2) (m:=1) (k:=0) u u u u z26 u tm tm) (s2 u u)<|.nil)<|pBlkN<|pSeq<|rx (c2<|.nil)<|pDrop (.cons _ (.cons_cons _ (.cons_cons _ (.cons_cons _ .slnil))))<|pSub (Γ':=[(2,.p 2 0),(3,.p 3 0),(12,.d ((kL (kR aU)).sig (lCut a.Rows 0 (if 15<(a.Rows.length:Int) then 15 else (a.Rows.length:Int))))),(13,.d (ki.sig ((lCut a.Rows 0 (if 15<(a.Rows.length:Int) then 15 else (a.Rows.length:Int))).length:Int))),(14,.d (ki.sig (IntKind.i64.wrap (i+1))))]) (sb u)<|pRen 43 5150 u<|pLoop (lW (ih _ _ h) ⟨u,u,u,u,u,tv⟩ u)
  ·exact wCF e.1 tm (s1 u)<|wExit<|pThenX<|pThenX<|pBlkX<|pJ1 _ (so h) (sb u) u
 ·rintro c rfl
  replace h:=y
  refine pSeq<|wSeq<|wFrzR (n:=0) (id:=5150) [] u u tv<|rx (cr (oLdA (n:=0) (fs:=bf) (u:=⟨c⟩) u ⟨u,tv⟩ t28 tm) (s1 u)<|cwn (oStA (n:=1) (fs:=bf) u u z28 tm tm) (s2 u u)<|.nil)<|pSeq<|wRet ?_
  obtain rfl:=so h
  exact pR1 (.inl u) u (.box (n:=1) (fs:=bf) (u:=⟨c⟩) u u ⟨u,tv⟩ t28<|.nil)
theorem dn.ok{a:ah} {r:ah}(h:dn.f a=some r):FnA PP 8 [(kR ap).sig a] ((kR ap).sig r):=by
 refine fnIntro Tryz.func8 u (by kernel_rfl) fun H0 w0=>?_
 unfold dn.f at h
 refine wSeq<|rx (cw (oBoxP (id:=1) (d:=(kR ap)) (ls:=[.d ki a.Pc.V,.d ki a.Pc.L,.d (kL (kR aw)) a.Code,.d (kL (kR am)) a.Mem,.d (kL (kR au)) a.Stack,.d (kL (kR am)) a.Out]) pt35 u tm) (s1 u)<|cw (oAlloc (id:=2) (ls:=Z35) ze35 zl35) tv<|.nil)<|pSeq<|wSeq ?_
 obtain⟨b,h⟩:=ib h
 obtain⟨c,h⟩:=ib h
 obtain⟨e,h⟩:=ib h
 obtain⟨g,h⟩:=ib h
 refine rdx hm (c1<|cr (oLdB (n:=1) (k:=2) u u u t31 tm) (s1 u)<|c1<|cr (oLdB (n:=1) (k:=2) u u u t31 tm) (s1 u)<|c1<|cp (oMin tm (cI (by decide))) (s1 u)<|cp (oCutHi u31 z73 b.1 b.2 tm tm) (s2 u u)<|c1<|cr (oLdB (n:=1) (k:=3) u u u t32 tm) (s1 u)<|c1<|cr (oLdB (n:=1) (k:=3) u u u t32 tm) (s1 u)<|c1<|cp (oMin tm (cI (by decide))) (s1 u)<|cp (oCutHi u32 z30 c.1 c.2 tm tm) (s2 u u)<|c1<|cr (oLdB (n:=1) (k:=4) u u u t33 tm) (s1 u)<|c1<|cr (oLdB (n:=1) (k:=4) u u u t33 tm) (s1 u)<|c1<|cp (oMin tm (cI (by decide))) (s1 u)<|cp (oCutHi u33 z88 e.1 e.2 tm tm) (s2 u u)<|c1<|cr (oLdB (n:=1) (k:=5) u u u t32 tm) (s1 u)<|c1<|cr (oLdB (n:=1) (k:=5) u u u t32 tm) (s1 u)<|c1<|cp (oMin tm (cI (by decide))) (s1 u)<|cp (oCutHi u32 z30 g.1 g.2 tm tm) (s2 u u)<|c1<|cwn (oSt (n:=1) (k:=2) u u u u z31 tm tm) (s2 u u)<|c1<|cwn (oSt (n:=1) (k:=3) u u u u z32 tm tm) (s2 u u)<|c1<|cwn (oSt (n:=1) (k:=4) u u u u z33 tm tm) (s2 u u)<|c1<|cwn (oSt (n:=1) (k:=5) u u u u z32 tm tm) (s2 u u)<|.nil)<|pSeq<|wSeq<|rx (cr (oLdP (n:=1) (k:=0) (m:=6) (d:=(kR ap)) (u:=(⟨a.Pc,lCut a.Code 0 (if 15<(a.Code.length:Int) then 15 else (a.Code.length:Int)),lCut a.Mem 0 (if 15<(a.Mem.length:Int) then 15 else (a.Mem.length:Int)),lCut a.Stack 0 (if 15<(a.Stack.length:Int) then 15 else (a.Stack.length:Int)),lCut a.Out 0 (if 15<(a.Out.length:Int) then 15 else (a.Out.length:Int))⟩:ah)) pt35 u u u t35 tm) (s1 u)<|cwn (oStP (n:=0) (k:=0) (m:=6) (d:=(kR ap)) (u:=(⟨a.Pc,lCut a.Code 0 (if 15<(a.Code.length:Int) then 15 else (a.Code.length:Int)),lCut a.Mem 0 (if 15<(a.Mem.length:Int) then 15 else (a.Mem.length:Int)),lCut a.Stack 0 (if 15<(a.Stack.length:Int) then 15 else (a.Stack.length:Int)),lCut a.Out 0 (if 15<(a.Out.length:Int) then 15 else (a.Out.length:Int))⟩:ah)) pt35 u u u z35 tm tm) (s2 u u)<|.nil)<|pSeq<|wRet ?_
 obtain rfl:=so h
 exact pR1 (.inl u) u (.boxP (n:=0) (d:=(kR ap)) (u:=(⟨a.Pc,lCut a.Code 0 (if 15<(a.Code.length:Int) then 15 else (a.Code.length:Int)),lCut a.Mem 0 (if 15<(a.Mem.length:Int) then 15 else (a.Mem.length:Int)),lCut a.Stack 0 (if 15<(a.Stack.length:Int) then 15 else (a.Stack.length:Int)),lCut a.Out 0 (if 15<(a.Out.length:Int) then 15 else (a.Out.length:Int))⟩:ah)) u u pt35 u t35<|.nil)
theorem bO.ok{b:Str} {r:Bool}(h:bO.f b=some r):FnA PP 134 [kS.sig b] (kB.sig r):=by
 refine fnIntro Tryz.func134 u (by kernel_rfl) fun H0 w0=>?_
 unfold bO.f at h
 refine wSeq<|rx (c1<|.nil)<|pSeq<|wSeq<|wSeq<|rx (c1<|cp (oLenS u9 tm) (s1 u)<|c1<|.nil)<|pSeq ?_
 obtain⟨o,h,j⟩:=bd h
 refine wK0 (.inr ()=o) ([(0,.d (kS.sig b))]) ([]) ?_ ?_
 ·refine wBlock (wLoop ?_)
  refine lW (pc1 o (fun k=>[(0,.d (kS.sig b)),(5,.d (ki.sig (b.length:Int))),(6,.d (ki.sig k))]) (fun k=>[]) (bO.l0.partial_correctness b) ?_ _ h) ⟨u,u,u,tv⟩ u
  clear h
  intro f' ih k h
  refine wSeq<|rx (c1<|.nil)<|pSeq<|wSeq ?_
  obtain⟨g,h⟩|⟨g,h⟩:=ik h
  ·refine wCT g.1 tm (s1 u)<|wSkip<|pSeq<|wSeq<|wBlock<|wSeq<|rx (c2<|.nil)<|pSeq ?_
   obtain⟨q,h,p⟩:=bd h
   refine wJ1 (fun c=>c=q) (fun c=>[(0,.d (kS.sig b)),(5,.d (ki.sig (b.length:Int))),(6,.d (ki.sig k)),(18,.d (kB.sig c))]) (fun c=>[]) ?_ ?_
   ·obtain⟨a,h⟩:=ib h
    obtain⟨l,h⟩|⟨l,h⟩:=ik h
    ·exact rx (c2<|cp (oIdxS u9 a.1 a.2 tm tm) (s2 u u)<|c6<|c1<|.nil)<|pJ1 _ (so h) (sb u) u
    ·obtain⟨m,h⟩:=ib h
     exact rx (c2<|cp (oIdxS u9 a.1 a.2 tm tm) (s2 u u)<|c4<|cgB (dF l.1) u u (oIdxS u9 m.1 m.2 tm tm) (s2 u u)<|c2<|.nil)<|pJ1 _ (so h) (sb u) u
   ·rintro c rfl
    replace h:=p
    obtain⟨i,h⟩|⟨i,h⟩:=ik h
    ·refine wBT i.1 tm (s1 u)<|wSeq<|rx (c1<|.nil)<|pSeq<|wRet<|pBlkR<|pThenR<|pThenR<|pBlkR<|pThenR ?_
     obtain rfl:=so h
     replace h:=j
     refine pThenR ?_
     obtain rfl:=so h
     exact pR1 (.inl u) u (.tmp u<|.nil)
    ·exact wBF i.1 tm (s1 u)<|wSkip<|pBlkN<|pSeq<|rx (c2<|.nil)<|pLoop (lW (ih _ h) ⟨u,u,u,tv⟩ u)
  ·exact wCF g.1 tm (s1 u)<|wExit<|pThenX<|pThenX<|pBlkX<|pJ0 (so h) (sb u) u
 ·rintro rfl
  replace h:=j
  refine pSeq ?_
  obtain⟨o,h,j⟩:=bd h
  refine wJ1 (fun e=>e=o) (fun e=>[(2,.d (kB.sig e))]) (fun e=>[]) ?_ ?_
  ·obtain⟨n,h⟩|⟨n,h⟩:=ik h
   ·exact rx (c1<|cp (oSNe u tm (cS (by decide))) (s1 u)<|c6<|.nil)<|pJ1 _ (so h) (sb u) u
   ·exact rx (c1<|cp (oSNe u tm (cS (by decide))) (s1 u)<|c2<|cgB (nt n.1) u u (oLenS u9 tm) (s1 u)<|c3<|.nil)<|pJ1 _ (so h) (sb u) u
  ·rintro e rfl
   replace h:=j
   refine wRet ?_
   obtain rfl:=so h
   exact pR1 (.inl u) u (.tmp u<|.nil)
theorem bg.ok{b:List Str} {a1:Str} {r:Int}(h:bg.f b a1=some r):FnA PP 162 [(kL kS).sig b,kS.sig a1] (ki.sig r):=by
 refine fnIntro Tryz.func162 u (by kernel_rfl) fun H0 w0=>?_
 unfold bg.f at h
 refine wSeq<|rx (c1<|.nil)<|pSeq<|wSeq<|wSeq<|rx (c3<|.nil)<|pSeq ?_
 obtain⟨i,h,e⟩:=bd h
 refine wK0 (.inr ()=i) ([]) ([]) ?_ ?_
 ·refine wBlock (wLoop ?_)
  refine lW (pc1 i (fun g=>[(0,.d ((kL kS).sig b)),(1,.d (kS.sig a1)),(7,.d (ki.sig (b.length:Int))),(8,.d (ki.sig g))]) (fun g=>[]) (bg.l0.partial_correctness b a1) ?_ _ h) ⟨u,u,u,u,tv⟩ u
  clear h
  intro f' ih g h
  refine wSeq<|rx (c1<|.nil)<|pSeq<|wSeq ?_
  obtain⟨c,h⟩|⟨c,h⟩:=ik h
  ·refine wCT c.1 tm (s1 u)<|wSkip<|pSeq<|wSeq<|wBlock<|wSeq<|rx (c2<|.nil)<|pSeq<|wSeq ?_
   obtain⟨k,j,h⟩:=bd h
   refine rx (c3<|cp (oIdx u22 z9 j tm tm) (s2 u u)<|c1<|cp (oSEq u tm tm) (s2 u u)<|.nil)<|pSeq ?_
   obtain⟨a,h⟩|⟨a,h⟩:=ik h
   ·refine wCT a.1 tm (s1 u)<|wSeq<|rx (c2<|.nil)<|pSeq<|wRet<|pBlkR<|pThenR<|pThenR<|pBlkR<|pThenR ?_
    obtain rfl:=so h
    replace h:=e
    refine pThenR ?_
    obtain rfl:=so h
    exact pR1 (.inl u) u (.tmp u<|.nil)
   ·exact wCF a.1 tm (s1 u)<|wSkip<|pBlkN<|pSeq<|rx (c2<|.nil)<|pLoop (lW (ih _ h) ⟨u,u,u,u,tv⟩ u)
  ·exact wCF c.1 tm (s1 u)<|wExit<|pThenX<|pThenX<|pBlkX<|pJ0 (so h) tv u
 ·rintro rfl
  replace h:=e
  refine pSeq<|wSeq<|rx (c1<|.nil)<|pSeq<|wRet ?_
  obtain rfl:=so h
  exact pR1 (.inl u) u (.tmp u<|.nil)
theorem bI.ok{a:List Str} {a1:Str} {r:Bool}(h:bI.f a a1=some r):FnA PP 135 [(kL kS).sig a,kS.sig a1] (kB.sig r):=by
 refine fnIntro Tryz.func135 u (by kernel_rfl) fun H0 w0=>?_
 unfold bI.f at h
 refine wSeq<|rx (c1<|.nil)<|pSeq<|wSeq ?_
 obtain⟨c,b,h⟩:=bd h
 refine rx (c2<|cC (bg.ok b)<|c2<|.nil)<|pSeq<|wRet ?_
 obtain rfl:=so h
 exact pR1 (.inl u) u (.tmp u<|.nil)
theorem bY.ok{a:aq} {r:Bool}(h:bY.f a=some r):FnA PP 107 [(kR aA).sig a] (kB.sig r):=by
 refine fnIntro Tryz.func107 u (by kernel_rfl) fun H0 w0=>?_
 unfold bY.f at h
 refine wSeq<|rx (c2<|.nil)<|pSeq<|wSeq<|rx (c4<|.nil)<|pSeq<|wSeq ?_
 obtain⟨q,h,l⟩:=bd h
 refine wJ1 (fun n=>n=q) (fun n=>[(1,.d (sP (kR aA) a)),(3,.d (ki.sig (a.Up.length:Int))),(21,.d (kB.sig n))]) (fun n=>[]) ?_ ?_
 ·obtain⟨w,h⟩|⟨w,h⟩:=ik h
  ·exact rx (c12<|c1<|.nil)<|pJ1 _ (so h) (sb u) u
  ·obtain⟨x,h⟩|⟨x,h⟩:=ik h
   ·exact rx (c12<|c1<|.nil)<|pJ1 _ (so h) (sb u) u
   ·exact rx (c12<|c1<|.nil)<|pJ1 _ (so h) (sb u) u
 ·rintro n rfl
  replace h:=l
  obtain⟨o,h⟩|⟨o,h⟩:=ik h
  ·refine wBT o.1 tm (s1 u)<|wSeq<|rx (c1<|.nil)<|pSeq<|wRet<|pThenR ?_
   obtain rfl:=so h
   exact pR1 (.inl u) u (.tmp u<|.nil)
  ·refine wBF o.1 tm (s1 u)<|wSkip<|pSeq<|wSeq<|wSeq<|rx (c4<|.nil)<|pSeq ?_
   obtain⟨q,h,l⟩:=bd h
   refine wK0 (.inr ()=q) ([]) ([]) ?_ ?_
   ·refine wBlock (wLoop ?_)
    refine lW (pc1 q (fun m=>[(1,.d (sP (kR aA) a)),(3,.d (ki.sig (a.Up.length:Int))),(23,.d ((kL kS).sig a.Names)),(24,.d (ki.sig (a.Names.length:Int))),(25,.d (ki.sig m))]) (fun m=>[]) (bY.l0.partial_correctness a) ?_ _ h) ⟨u,u,u,u,u,tv⟩ u
    clear h
    intro f' ih m h
    refine wSeq<|rx (c1<|.nil)<|pSeq<|wSeq ?_
    obtain⟨g,h⟩|⟨g,h⟩:=ik h
    ·refine wCT g.1 tm (s1 u)<|wSkip<|pSeq<|wSeq<|wBlock<|wSeq ?_
     obtain⟨A,s,h⟩:=bd h
     refine rx (c1<|cp (oIdx u22 z9 s tm tm) (s2 u u)<|c3<|.nil)<|pSeq ?_
     obtain⟨z,h,y⟩:=bd h
     refine wJ1 (fun e=>e=z) (fun e=>[(1,.d (sP (kR aA) a)),(3,.d (ki.sig (a.Up.length:Int))),(23,.d ((kL kS).sig a.Names)),(24,.d (ki.sig (a.Names.length:Int))),(25,.d (ki.sig m)),(50,.d (kB.sig e))]) (fun e=>[]) ?_ ?_
     ·obtain⟨B,i,h⟩:=bd h
      obtain⟨b,h⟩|⟨b,h⟩:=ik h
      ·exact rx (c1<|cC (bO.ok i)<|c12<|c6<|c1<|.nil)<|pJ1 _ (so h) (sb u) u
      ·obtain⟨c,h⟩:=ib h
       obtain⟨C,p,h⟩:=bd h
       obtain⟨j,h⟩|⟨j,h⟩:=ik h
       ·exact rx (c1<|cC (bO.ok i)<|c4<|c1<|cgB (nb b.1) u u (oCutHi u22 z9 c.1 c.2 tm tm) (s2 u u)<|c1<|cgB (nb b.1) u u (oCall u (bI.ok p) b135 (oc tm (oc tm o0))) (s2 u u)<|c8<|c3<|.nil)<|pJ1 _ (so h) (sb u) u
       ·obtain⟨D,t,h⟩:=bd h
        obtain⟨v,h⟩:=ib h
        exact rx (c1<|cC (bO.ok i)<|c4<|c1<|cgB (nb b.1) u u (oCutHi u22 z9 c.1 c.2 tm tm) (s2 u u)<|c1<|cgB (nb b.1) u u (oCall u (bI.ok p) b135 (oc tm (oc tm o0))) (s2 u u)<|c4<|c1<|cgB (nb j.1) u u (oIdx u23 z70 t tm tm) (s2 u u)<|c2<|cgB (nb j.1) u u (oShr v tm tm) (s2 u u)<|c2<|.nil)<|pJ1 _ (so h) (sb u) u
     ·rintro e rfl
      replace h:=y
      obtain⟨k,h⟩|⟨k,h⟩:=ik h
      ·refine wBT k.1 tm (s1 u)<|wSeq<|rx (c1<|.nil)<|pSeq<|wRet<|pBlkR<|pThenR<|pThenR<|pBlkR<|pThenR ?_
       obtain rfl:=so h
       replace h:=l
       refine pThenR ?_
       obtain rfl:=so h
       exact pR1 (.inl u) u (.tmp u<|.nil)
      ·exact wBF k.1 tm (s1 u)<|wSkip<|pBlkN<|pSeq<|rx (c2<|.nil)<|pLoop (lW (ih _ h) ⟨u,u,u,u,u,tv⟩ u)
    ·exact wCF g.1 tm (s1 u)<|wExit<|pThenX<|pThenX<|pBlkX<|pJ0 (so h) tv u
   ·rintro rfl
    replace h:=l
    refine pSeq<|wSeq<|rx (c1<|.nil)<|pSeq<|wRet ?_
    obtain rfl:=so h
    exact pR1 (.inl u) u (.tmp u<|.nil)
theorem ba.ok{a1:Int}:FnY PP 136 (fun z=>ki.sig z) (fun z=>ki.sig z) [sP ki a1] (fun {σ} a_y a_s=>ba.f a_y a_s a1):=by
 refine fnIntroY 7777 Tryz.func136 u (by kernel_rfl) (fun σ A a_y a_s a_r h bs H0 w0=>?_)
 replace h:ba.f a_y a_s a1=some a_r:=h
 unfold ba.f at h
 refine wSeq<|rx (c2<|.nil)<|pSeq ?_
 obtain⟨q,h,m⟩:=bd h
 refine wK1 (fun b=>.inr b=q) (fun b=>[]) (fun b=>[.abs 7777 A b]) ?_ ?_
 ·refine wBlock (wLoop ?_)
  refine lW (pc2 q (fun k a=>[(0,.d (sYield PP A a_y (fun z=>ki.sig z) (fun z=>ki.sig z))),(1,.d (sP ki a1)),(5,.d (ki.sig a1)),(6,.d (ki.sig a))]) (fun k a=>[.abs 7777 A k]) (ba.l2.partial_correctness a_y a1) ?_ _ _ h) ⟨u,u,u,u,tv⟩ u
  clear h
  intro f' ih k a h
  refine wSeq<|rx (c1<|.nil)<|pSeq<|wSeq ?_
  obtain⟨e,h⟩|⟨e,h⟩:=ik h
  ·refine wCT e.1 tm (s1 u)<|wSkip<|pSeq<|wSeq<|wBlock<|wSeq<|rx (c2<|.nil)<|pSeq<|wSeq<|rx (c2<|.nil)<|pSeq ?_
   obtain⟨r,h,o⟩:=bd h
   refine wK1 (fun c=>.inr c=r) (fun c=>[(0,.d (sYield PP A a_y (fun z=>ki.sig z) (fun z=>ki.sig z))),(1,.d (sP ki a1)),(5,.d (ki.sig a1)),(6,.d (ki.sig a))]) (fun c=>[.abs 7777 A c]) ?_ ?_
   ·refine wBlock (wLoop ?_)
    refine lW (pc2 r (fun l j=>[(0,.d (sYield PP A a_y (fun z=>ki.sig z) (fun z=>ki.sig z))),(1,.d (sP ki a1)),(3,.d (ki.sig a)),(5,.d (ki.sig a1)),(6,.d (ki.sig a)),(9,.d (ki.sig a1)),(10,.d (ki.sig j))]) (fun l j=>[.abs 7777 A l]) (ba.l3.partial_correctness a_y a1 a) ?_ _ _ h) ⟨u,u,u,u,u,u,u,tv⟩ u
    clear h
    intro f' ih l j h
    refine wSeq<|rx (c1<|.nil)<|pSeq<|wSeq ?_
    obtain⟨g,h⟩|⟨g,h⟩:=ik h
    ·refine wCT g.1 tm (s1 u)<|wSkip<|pSeq<|wSeq<|wBlock<|wSeq<|rx (c2<|.nil)<|pSeq<|wSeq ?_
     obtain⟨s,p,h⟩:=bd h
     refine rx (c3<|cm (oYield (n:=0) (id':=16) u p tm tm tm) (s3 u u u)<|c1<|.nil)<|pSeq ?_
     obtain⟨i,h⟩|⟨i,h⟩:=ik h
     ·refine wBT i.1 tm (s1 u)<|wRet<|pBlkR<|pThenR<|pThenR<|pBlkR<|pThenR ?_
      obtain rfl:=so h
      replace h:=o
      refine pBlkR<|pThenR<|pThenR<|pBlkR<|pThenR ?_
      obtain rfl:=so h
      replace h:=m
      obtain rfl:=so h
      exact pRY (n:=0) (.inl u) u u u
     ·exact wBF i.1 tm (s1 u)<|wSkip<|pBlkN<|pSeq<|rx (c2<|.nil)<|pSub (Γ':=[(0,.d (sYield PP A a_y (fun z=>ki.sig z) (fun z=>ki.sig z))),(1,.d (sP ki a1)),(3,.d (ki.sig a)),(5,.d (ki.sig a1)),(6,.d (ki.sig a)),(9,.d (ki.sig a1)),(10,.d (ki.sig (IntKind.i64.wrap (j+1))))]) (sb u)<|pRen 16 7777 u<|pLoop (lW (ih _ _ h) ⟨u,u,u,u,u,u,u,tv⟩ u)
    ·exact wCF g.1 tm (s1 u)<|wExit<|pThenX<|pThenX<|pBlkX<|pJ1 _ (so h) (sb u) u
   ·rintro c rfl
    replace h:=o
    exact pBlkN<|pSeq<|rx (c2<|.nil)<|pLoop (lW (ih _ _ h) ⟨u,u,u,u,tv⟩ u)
  ·exact wCF e.1 tm (s1 u)<|wExit<|pThenX<|pThenX<|pBlkX<|pJ1 _ (so h) tv u
 ·rintro b rfl
  replace h:=m
  obtain rfl:=so h
  exact pRY (n:=0) (.inr u) u u u
theorem dV.ok{a:Int} {r:Int}(h:dV.f a=some r):FnA PP 109 [ki.sig a] ((sClo 136 [sP ki r])):=by
 refine fnIntro Tryz.func109 u (by kernel_rfl) fun H0 w0=>?_
 unfold dV.f at h
 refine wSeq<|rx (c1<|cp (oAs cV) tv<|.nil)<|pSeq<|wSeq<|rx (cp (oMkC (caps:=[sP ki a]) u (oc tm o0)) (s1 u)<|c1<|.nil)<|pSeq<|wRet ?_
 obtain rfl:=so h
 exact pR1 (.inl u) u (.tmp u<|.nil)
theorem cF.ok{a:aq} {a1:Int} {a2:Int} {r:Bool}(h:cF.f a a1 a2=some r):FnA PP 127 [(kR aA).sig a,ki.sig a1,ki.sig a2] (kB.sig r):=by
 refine fnIntro Tryz.func127 u (by kernel_rfl) fun H0 w0=>?_
 unfold cF.f at h
 refine wSeq<|rx (c2<|.nil)<|pSeq<|wSeq ?_
 obtain⟨d,b,h⟩:=bd h
 obtain⟨c,h⟩:=ib h
 refine rx (c3<|cp (oIdx u23 z70 b tm tm) (s2 u u)<|c2<|cp (oShr c tm tm) (s2 u u)<|cp (oAnd tm (cI (by decide))) (s1 u)<|c2<|.nil)<|pSeq<|wRet ?_
 obtain rfl:=so h
 exact pR1 (.inl u) u (.tmp u<|.nil)
theorem cG.ok{s:aq} {r:Bool}(h:cG.f s=some r):FnA PP 108 [(kR aA).sig s] (kB.sig r):=by
 refine fnIntro Tryz.func108 u (by kernel_rfl) fun H0 w0=>?_
 unfold cG.f at h
 refine wSeq<|rx (c1<|cw (oAlloc (id:=2) (ls:=[.d kB false]) ze4 (fun g=>⟨[(.bool false)],_,u,zB g.H,u⟩)) tv<|.nil)<|pSeq<|wSeq<|wSeq ?_
 obtain⟨I,G,h⟩:=bd h
 refine rx (c3<|cC (dV.ok G)<|.nil)<|pSeq<|wBlock ?_
 obtain⟨J,A,h⟩:=bd h
 refine wRange (Γ':=[(1,.d (sP (kR aA) s)),(2,.p 2 0)]) (Γ2:=fun c e=>[(1,.d (sP (kR aA) s)),(2,.p 2 0),(3,.d (ki.sig c)),(4,.d (ki.sig e))]) (fun(t:Unit)=>[.box 2 4 [.d kB false]]) (fun(t:Unit) c e=>[.box 2 4 [.d kB false]]) [Code.ret] [2] (cG.y0 s) () u (ba.ok (a1:=I)) b136 A u ⟨u,u,tv⟩ u u u ?_ ?_ ?_
 ·intro X H0 w0 l pv t c e
  exact wSeq<|rx (c1<|.nil)<|pSeq<|rx (c1<|.nil)<|qA ⟨u,u,u,u,tv⟩
 ·intro X H0 w0 l pv t c e o h
  unfold cG.y0 at h
  refine wBlock<|wSeq ?_
  obtain⟨B,h,v⟩:=bd h
  refine wJ1 (fun i=>i=B) (fun i=>[(1,.d (sP (kR aA) s)),(2,.p 2 0),(3,.d (ki.sig c)),(4,.d (ki.sig e)),(37,.d (kB.sig i))]) (fun i=>[.box 2 4 [.d kB false]]) ?_ ?_
  ·obtain⟨a,h⟩|⟨a,h⟩:=ik h
   ·obtain⟨K,w,h⟩:=bd h
    obtain⟨C,h⟩|⟨C,h⟩:=ik h
    ·exact rx (c6<|c1<|cgB (dT a.1) u u (oCall u (cF.ok w) b127 (oc tm (oc tm (oc tm o0)))) (s3 u u u)<|c6<|c1<|csU u u<|csU u u<|csU u u<|csU u u<|c2<|csU u u<|csU u u<|csU u u<|csU u u<|c2<|.nil)<|pJ1 _ (so h) (sb u) u
    ·exact rx (c6<|c1<|cgB (dT a.1) u u (oCall u (cF.ok w) b127 (oc tm (oc tm (oc tm o0)))) (s3 u u u)<|c12<|c6<|c1<|.nil)<|pJ1 _ (so h) (sb u) u
   ·obtain⟨L,x,h⟩:=bd h
    obtain⟨y,h⟩|⟨y,h⟩:=ik h
    ·obtain⟨M,D,h⟩:=bd h
     exact rx (c12<|c6<|cgB (nt a.1) u u (oCall u (cF.ok x) b127 (oc tm (oc tm (oc tm o0)))) (s3 u u u)<|c4<|c1<|cgB y.1 u u (oCall u (cF.ok D) b127 (oc tm (oc tm (oc tm o0)))) (s3 u u u)<|c2<|.nil)<|pJ1 _ (so h) (sb u) u
    ·exact rx (c12<|c6<|cgB (nt a.1) u u (oCall u (cF.ok x) b127 (oc tm (oc tm (oc tm o0)))) (s3 u u u)<|c8<|.nil)<|pJ1 _ (so h) (sb u) u
  ·rintro i rfl
   replace h:=v
   obtain⟨m,h⟩|⟨m,h⟩:=ik h
   ·refine wBT m.1 tm (s1 u)<|wSeq<|rx (cwn (oSt (n:=0) (k:=0) u u u u z4 tm cB) (s1 u)<|.nil)<|pSeq<|wRet<|pThenR<|pBlkR ?_
    obtain rfl:=so h
    exact qR u
   ·refine wBF m.1 tm (s1 u)<|wSkip<|pSeq ?_
    obtain⟨B,h,v⟩:=bd h
    refine wJ1 (fun j=>j=B) (fun j=>[(2,.p 2 0),(55,.d (kB.sig j))]) (fun j=>[.box 2 4 [.d kB false]]) ?_ ?_
    ·obtain⟨N,z,h⟩:=bd h
     obtain⟨b,h⟩|⟨b,h⟩:=ik h
     ·obtain⟨O,E,h⟩:=bd h
      obtain⟨P,F,h⟩:=bd h
      exact rdx hm (c3<|cC (cF.ok z)<|c4<|cgB b.1 u u (oIdx u23 z70 E tm tm) (s2 u u)<|c4<|cgB b.1 u u (oIdx u23 z70 F tm tm) (s2 u u)<|c1<|cgB b.1 u u (oAndNot tm tm) (s2 u u)<|c2<|.nil)<|pJ1 _ (so h) (sb u) u
     ·exact rdx hm (c3<|cC (cF.ok z)<|c12<|c2<|.nil)<|pJ1 _ (so h) (sb u) u
    ·rintro j rfl
     replace h:=v
     obtain⟨q,h⟩|⟨q,h⟩:=ik h
     ·refine wBT q.1 tm (s1 u)<|wSeq<|rx (cwn (oSt (n:=0) (k:=0) u u u u z4 tm cB) (s1 u)<|.nil)<|pSeq<|wRet<|pBlkR ?_
      obtain rfl:=so h
      exact qR u
     ·refine wBF q.1 tm (s1 u)<|wSkip<|pBlkN ?_
      obtain rfl:=so h
      exact qN
 ·obtain⟨hj53,h⟩|⟨hj53,h⟩:=ic h
  ·refine jp0 hj53<|pBlkN<|pSeq<|wSeq<|rx (cwn (oSt (n:=0) (k:=0) u u u u z4 tm cB) (s1 u)<|.nil)<|pSeq<|wRet ?_
   obtain rfl:=so h
   exact pR1 (.inl u) u (.boxV (n:=0) u u t4<|.nil)
  ·obtain⟨hj53,h⟩|⟨hj53,h⟩:=ic h
   ·refine jpR hj53 u<|pBlkR<|pThenR ?_
    obtain rfl:=so h
    exact pR1 (.inl u) u (.boxV (n:=0) u u t4<|.nil)
   ·cases h
theorem aH.ok{c:List Int} {a1:Int->Option Bool} {r:Int}(h:aH.f c a1=some r):FnA PP 27 [(kL (kI .u32)).sig c,(sFun PP (rl1 (kI .u32) kB a1))] (ki.sig r):=by
 refine fnIntro Tryz.func27 u (by kernel_rfl) fun H0 w0=>?_
 unfold aH.f at h
 refine wSeq<|rx (c1<|.nil)<|pSeq<|wSeq<|wSeq<|rx (c3<|.nil)<|pSeq ?_
 obtain⟨k,h,e⟩:=bd h
 refine wK0 (.inr ()=k) ([]) ([]) ?_ ?_
 ·refine wBlock (wLoop ?_)
  refine lW (pc1 k (fun g=>[(0,.d ((kL (kI .u32)).sig c)),(1,.d ((sFun PP (rl1 (kI .u32) kB a1)))),(7,.d (ki.sig (c.length:Int))),(8,.d (ki.sig g))]) (fun g=>[]) (aH.l0.partial_correctness c a1) ?_ _ h) ⟨u,u,u,u,tv⟩ u
  clear h
  intro f' ih g h
  refine wSeq<|rx (c1<|.nil)<|pSeq<|wSeq ?_
  obtain⟨a,h⟩|⟨a,h⟩:=ik h
  ·refine wCT a.1 tm (s1 u)<|wSkip<|pSeq<|wSeq<|wBlock<|wSeq<|rx (c2<|.nil)<|pSeq<|wSeq ?_
   obtain⟨l,i,h⟩:=bd h
   obtain⟨m,j,h⟩:=bd h
   refine rx (c3<|cp (oIdx u23 z70 i tm tm) (s2 u u)<|c1<|cp (oCallV u (rl1i (f:=a1) j) tm (oc tm o0)) (s2 u u)<|.nil)<|pSeq ?_
   obtain⟨b,h⟩|⟨b,h⟩:=ik h
   ·refine wBT b.1 tm (s1 u)<|wSeq<|rx (c2<|.nil)<|pSeq<|wRet<|pBlkR<|pThenR<|pThenR<|pBlkR<|pThenR ?_
    obtain rfl:=so h
    replace h:=e
    refine pThenR ?_
    obtain rfl:=so h
    exact pR1 (.inl u) u (.tmp u<|.nil)
   ·exact wBF b.1 tm (s1 u)<|wSkip<|pBlkN<|pSeq<|rx (c2<|.nil)<|pLoop (lW (ih _ h) ⟨u,u,u,u,tv⟩ u)
  ·exact wCF a.1 tm (s1 u)<|wExit<|pThenX<|pThenX<|pBlkX<|pJ0 (so h) tv u
 ·rintro rfl
  replace h:=e
  refine pSeq<|wSeq<|rx (c1<|.nil)<|pSeq<|wRet ?_
  obtain rfl:=so h
  exact pR1 (.inl u) u (.tmp u<|.nil)
theorem eB.ok{a:Int} {a1:Int} {r:Bool}(h:eB.f a a1=some r):FnA PP 137 [(kI .u32).sig a,sP (kI .u32) a1] (kB.sig r):=by
 refine fnIntro Tryz.func137 u (by kernel_rfl) fun H0 w0=>?_
 unfold eB.f at h
 refine wSeq<|rx (c1<|.nil)<|pSeq<|wSeq<|rx (c4<|.nil)<|pSeq<|wRet ?_
 obtain rfl:=so h
 exact pR1 (.inl u) u (.tmp u<|.nil)
theorem dr.ok{a:aq} {a1:Int} {a2:Int} {r:Int}(h:dr.f a a1 a2=some r):FnA PP 110 [(kR aA).sig a,ki.sig a1,ki.sig a2] (ki.sig r):=by
 refine fnIntro Tryz.func110 u (by kernel_rfl) fun H0 w0=>?_
 unfold dr.f at h
 refine wSeq<|rx (c2<|.nil)<|pSeq<|wSeq ?_
 obtain⟨i,b,h⟩:=bd h
 obtain⟨j,c,h⟩:=bd h
 refine rdx hm (c3<|cp (oIdx u23 z70 b tm tm) (s2 u u)<|c4<|cp (oIdx u23 z70 c tm tm) (s2 u u)<|c1<|cp (oAnd tm tm) (s2 u u)<|cw (oAlloc (id:=7) (ls:=[.d (kI .u32) 0]) ze70 (fun g=>⟨[(.int .u32 0)],_,u,zI_u32 g.H,u⟩)) tv<|cwn (oSt (n:=0) (k:=0) u u u u z70 tm tm) (s2 u u)<|.nil)<|pSeq<|wSeq<|wFrzV 7 (n:=0) (id:=7) u u u ?_
 obtain⟨m,e,h⟩:=bd h
 refine rx (c2<|cp (oMkF (Rl:=rl1 (kI .u32) kB (fun l=>eB.f l (bAnd .u32 i j))) u b137 (rl1e eB.ok) (oc tm o0)) (s1 u)<|cC (aH.ok e)<|c1<|.nil)<|pSeq<|wRet ?_
 obtain rfl:=so h
 exact pR1 (.inl u) u (.tmp u<|.nil)
theorem bQ.ok{c:aq} {a1:Int} {r:Int}(h:bQ.f c a1=some r):FnA PP 138 [(kR aA).sig c,ki.sig a1] ((kI .u32).sig r):=by
 refine fnIntro Tryz.func138 u (by kernel_rfl) fun H0 w0=>?_
 unfold bQ.f at h
 refine wSeq<|rx (c2<|.nil)<|pSeq<|wSeq<|rx (c1<|.nil)<|pSeq<|wSeq<|wSeq<|rx (c4<|.nil)<|pSeq ?_
 obtain⟨l,h,m⟩:=bd h
 refine wK1 (fun a=>a=l) (fun a=>[(5,.d ((kI .u32).sig a))]) (fun a=>[]) ?_ ?_
 ·refine wBlock (wLoop ?_)
  refine lW (pc2 l (fun e g=>[(1,.d (ki.sig a1)),(2,.d (sP (kR aA) c)),(5,.d ((kI .u32).sig g)),(9,.d (ki.sig (c.Up.length:Int))),(10,.d (ki.sig e))]) (fun e g=>[]) (bQ.l0.partial_correctness c a1) ?_ _ _ h) ⟨u,u,u,u,u,tv⟩ u
  clear h
  intro f' ih e g h
  refine wSeq<|rx (c1<|.nil)<|pSeq<|wSeq ?_
  obtain⟨b,h⟩|⟨b,h⟩:=ik h
  ·refine wCT b.1 tm (s1 u)<|wSkip<|pSeq<|wSeq<|wBlock<|wSeq<|rx (c2<|.nil)<|pSeq ?_
   obtain⟨n,i,h⟩:=bd h
   obtain⟨j,h⟩:=ib h
   obtain⟨k,h⟩:=ib h
   exact rx (c4<|cp (oIdx u23 z70 i tm tm) (s2 u u)<|c2<|cp (oShr j tm tm) (s2 u u)<|cp (oAnd tm (cI (by decide))) (s1 u)<|c1<|cp (oShl k tm tm) (s2 u u)<|cp (oOr tm tm) (s2 u u)<|c1<|.nil)<|pBlkN<|pSeq<|rx (c2<|.nil)<|pLoop (lW (ih _ _ h) ⟨u,u,u,u,u,tv⟩ u)
  ·exact wCF b.1 tm (s1 u)<|wExit<|pThenX<|pThenX<|pBlkX<|pJ1 _ (so h) (sb u) u
 ·rintro a rfl
  replace h:=m
  refine pSeq<|wSeq<|rx (c2<|.nil)<|pSeq<|wRet ?_
  obtain rfl:=so h
  exact pR1 (.inl u) u (.tmp u<|.nil)
theorem bN.ok{c:aq} {a1:Int} {a2:Int} {r:Int}(h:bN.f c a1 a2=some r):FnA PP 111 [(kR aA).sig c,ki.sig a1,ki.sig a2] (ki.sig r):=by
 refine fnIntro Tryz.func111 u (by kernel_rfl) fun H0 w0=>?_
 unfold bN.f at h
 refine wSeq<|rx (c2<|.nil)<|pSeq<|wSeq ?_
 obtain⟨j,k,h⟩:=bd h
 obtain⟨l,m,h⟩:=bd h
 refine rdx hm (c2<|cC (bQ.ok k)<|c2<|cC (bQ.ok m)<|cp (oAnd tm tm) (s2 u u)<|c1<|.nil)<|pSeq<|wSeq<|wSeq<|rx (c4<|.nil)<|pSeq ?_
 obtain⟨n,h,e⟩:=bd h
 refine wK0 (.inr ()=n) ([]) ([]) ?_ ?_
 ·refine wBlock (wLoop ?_)
  refine lW (pc1 n (fun g=>[(3,.d (sP (kR aA) c)),(7,.d ((kI .u32).sig (bAnd .u32 j l))),(18,.d (ki.sig (c.Up.length:Int))),(19,.d (ki.sig g))]) (fun g=>[]) (bN.l0.partial_correctness c j l) ?_ _ h) ⟨u,u,u,u,tv⟩ u
  clear h
  intro f' ih g h
  refine wSeq<|rx (c1<|.nil)<|pSeq<|wSeq ?_
  obtain⟨a,h⟩|⟨a,h⟩:=ik h
  ·refine wCT a.1 tm (s1 u)<|wSkip<|pSeq<|wSeq<|wBlock<|wSeq<|rx (c2<|.nil)<|pSeq<|wSeq ?_
   obtain⟨o,i,h⟩:=bd h
   refine rx (c2<|cC (bQ.ok i)<|c2<|.nil)<|pSeq ?_
   obtain⟨b,h⟩|⟨b,h⟩:=ik h
   ·refine wCT b.1 tm (s1 u)<|wSeq<|rx (c2<|.nil)<|pSeq<|wRet<|pBlkR<|pThenR<|pThenR<|pBlkR<|pThenR ?_
    obtain rfl:=so h
    replace h:=e
    refine pThenR ?_
    obtain rfl:=so h
    exact pR1 (.inl u) u (.tmp u<|.nil)
   ·exact wCF b.1 tm (s1 u)<|wSkip<|pBlkN<|pSeq<|rx (c2<|.nil)<|pLoop (lW (ih _ h) ⟨u,u,u,u,tv⟩ u)
  ·exact wCF a.1 tm (s1 u)<|wExit<|pThenX<|pThenX<|pBlkX<|pJ0 (so h) tv u
 ·rintro rfl
  replace h:=e
  refine pSeq<|wSeq<|rx (c1<|.nil)<|pSeq<|wRet ?_
  obtain rfl:=so h
  exact pR1 (.inl u) u (.tmp u<|.nil)
theorem bE.ok{j:aq} {r:Int}(h:bE.f j=some r):FnA PP 64 [(kR aA).sig j] (ki.sig r):=by
 refine fnIntro Tryz.func64 u (by kernel_rfl) fun H0 w0=>?_
 unfold bE.f at h
 refine wSeq<|rx (c1<|cw (oAlloc (id:=2) (ls:=[.d ki 0]) ze39 (fun g=>⟨[(.int .i64 0)],_,u,zI_i64 g.H,u⟩)) tv<|.nil)<|pSeq<|wSeq<|wBlock<|wSeq ?_
 obtain⟨G,x,h⟩:=bd h
 refine rx (c1<|cC (bY.ok x)<|c2<|.nil)<|pSeq ?_
 obtain⟨m,h⟩|⟨m,h⟩:=ik h
 ·refine wBT m.1 tm (s1 u)<|wSeq<|rx (cwn (oSt (n:=0) (k:=0) u u u u z39 tm (cI (by decide))) (s1 u)<|.nil)<|pSeq<|wRet<|pBlkR<|pThenR ?_
  obtain rfl:=so h
  exact pR1 (.inl u) u (.boxV (n:=0) u u t39<|.nil)
 ·refine wBF m.1 tm (s1 u)<|wSeq ?_
  obtain⟨I,y,h⟩:=bd h
  refine rx (c1<|cC (cG.ok y)<|c2<|.nil)<|pSeq ?_
  obtain⟨q,h⟩|⟨q,h⟩:=ik h
  ·refine wBT q.1 tm (s1 u)<|wSeq<|rx (cwn (oSt (n:=0) (k:=0) u u u u z39 tm (cI (by decide))) (s1 u)<|.nil)<|pSeq<|wRet<|pBlkR<|pThenR ?_
   obtain rfl:=so h
   exact pR1 (.inl u) u (.boxV (n:=0) u u t39<|.nil)
  ·refine wBF q.1 tm (s1 u)<|wSkip<|pBlkN<|pSeq<|wSeq<|wSeq ?_
   obtain⟨B,z,h⟩:=bd h
   refine rx (c3<|cC (dV.ok z)<|.nil)<|pSeq<|wBlock ?_
   obtain⟨D,v,h⟩:=bd h
   refine wRange (Γ':=[(1,.d (sP (kR aA) j)),(2,.p 2 0)]) (Γ2:=fun e i=>[(1,.d (sP (kR aA) j)),(2,.p 2 0),(3,.d (ki.sig e)),(4,.d (ki.sig i))]) (fun(a:Int)=>[.box 2 39 [.d ki a]]) (fun(a:Int) e i=>[.box 2 39 [.d ki a]]) [Code.ret] [2] (bE.y0 j) 0 u (ba.ok (a1:=B)) b136 v u ⟨u,u,tv⟩ u u u ?_ ?_ ?_
   ·intro X H0 w0 l pv a e i
    exact wSeq<|rx (c1<|.nil)<|pSeq<|rx (c1<|.nil)<|qA ⟨u,u,u,u,tv⟩
   ·intro X H0 w0 l pv a e i o h
    unfold bE.y0 at h
    refine wBlock ?_
    obtain⟨C,h,A⟩:=bd h
    refine wJ1 (fun b=>b=C) (fun b=>[(2,.p 2 0),(30,.d (kB.sig b))]) (fun b=>[.box 2 39 [.d ki a]]) ?_ ?_
    ·obtain⟨E,s,h⟩:=bd h
     obtain⟨t,h⟩|⟨t,h⟩:=ik h
     ·exact rx (c3<|cC (dr.ok s)<|c8<|.nil)<|pJ1 _ (so h) (sb u) u
     ·obtain⟨F,w,h⟩:=bd h
      exact rx (c3<|cC (dr.ok s)<|c4<|c1<|cgB (dF t.1) u u (oCall u (bN.ok w) b111 (oc tm (oc tm (oc tm o0)))) (s3 u u u)<|c2<|.nil)<|pJ1 _ (so h) (sb u) u
    ·rintro b rfl
     replace h:=A
     obtain⟨c,h⟩|⟨c,h⟩:=ik h
     ·refine wBT c.1 tm (s1 u)<|wSeq<|rx (cwn (oSt (n:=0) (k:=0) u u u u z39 tm (cI (by decide))) (s1 u)<|.nil)<|pSeq<|wRet<|pBlkR ?_
      obtain rfl:=so h
      exact qR u
     ·refine wBF c.1 tm (s1 u)<|wSkip<|pBlkN ?_
      obtain rfl:=so h
      exact qN
   ·obtain⟨hj33,h⟩|⟨hj33,h⟩:=ic h
    ·refine jp0 hj33<|pBlkN<|pSeq<|wSeq<|rx (cwn (oSt (n:=0) (k:=0) u u u u z39 tm (cI (by decide))) (s1 u)<|.nil)<|pSeq<|wRet ?_
     obtain rfl:=so h
     exact pR1 (.inl u) u (.boxV (n:=0) u u t39<|.nil)
    ·obtain⟨hj33,h⟩|⟨hj33,h⟩:=ic h
     ·refine jpR hj33 u<|pBlkR<|pThenR ?_
      obtain rfl:=so h
      exact pR1 (.inl u) u (.boxV (n:=0) u u t39<|.nil)
     ·cases h
theorem aW.ok{c:List Int} {a1:Int->Option Bool} {r:Int}(h:aW.f c a1=some r):FnA PP 112 [(kL ki).sig c,(sFun PP (rl1 ki kB a1))] (ki.sig r):=by
 refine fnIntro Tryz.func112 u (by kernel_rfl) fun H0 w0=>?_
 unfold aW.f at h
 refine wSeq<|rx (c1<|.nil)<|pSeq<|wSeq<|wSeq<|rx (c3<|.nil)<|pSeq ?_
 obtain⟨k,h,e⟩:=bd h
 refine wK0 (.inr ()=k) ([]) ([]) ?_ ?_
 ·refine wBlock (wLoop ?_)
  refine lW (pc1 k (fun g=>[(0,.d ((kL ki).sig c)),(1,.d ((sFun PP (rl1 ki kB a1)))),(7,.d (ki.sig (c.length:Int))),(8,.d (ki.sig g))]) (fun g=>[]) (aW.l0.partial_correctness c a1) ?_ _ h) ⟨u,u,u,u,tv⟩ u
  clear h
  intro f' ih g h
  refine wSeq<|rx (c1<|.nil)<|pSeq<|wSeq ?_
  obtain⟨a,h⟩|⟨a,h⟩:=ik h
  ·refine wCT a.1 tm (s1 u)<|wSkip<|pSeq<|wSeq<|wBlock<|wSeq<|rx (c2<|.nil)<|pSeq<|wSeq ?_
   obtain⟨l,i,h⟩:=bd h
   obtain⟨m,j,h⟩:=bd h
   refine rx (c3<|cp (oIdx u56 z3 i tm tm) (s2 u u)<|c1<|cp (oCallV u (rl1i (f:=a1) j) tm (oc tm o0)) (s2 u u)<|.nil)<|pSeq ?_
   obtain⟨b,h⟩|⟨b,h⟩:=ik h
   ·refine wBT b.1 tm (s1 u)<|wSeq<|rx (c2<|.nil)<|pSeq<|wRet<|pBlkR<|pThenR<|pThenR<|pBlkR<|pThenR ?_
    obtain rfl:=so h
    replace h:=e
    refine pThenR ?_
    obtain rfl:=so h
    exact pR1 (.inl u) u (.tmp u<|.nil)
   ·exact wBF b.1 tm (s1 u)<|wSkip<|pBlkN<|pSeq<|rx (c2<|.nil)<|pLoop (lW (ih _ h) ⟨u,u,u,u,tv⟩ u)
  ·exact wCF a.1 tm (s1 u)<|wExit<|pThenX<|pThenX<|pBlkX<|pJ0 (so h) tv u
 ·rintro rfl
  replace h:=e
  refine pSeq<|wSeq<|rx (c1<|.nil)<|pSeq<|wRet ?_
  obtain rfl:=so h
  exact pR1 (.inl u) u (.tmp u<|.nil)
theorem bB.ok{a:List Int} {a1:Int->Option Bool} {r:Bool}(h:bB.f a a1=some r):FnA PP 65 [(kL ki).sig a,(sFun PP (rl1 ki kB a1))] (kB.sig r):=by
 refine fnIntro Tryz.func65 u (by kernel_rfl) fun H0 w0=>?_
 unfold bB.f at h
 refine wSeq<|rx (c1<|.nil)<|pSeq<|wSeq ?_
 obtain⟨c,b,h⟩:=bd h
 refine rx (c2<|cC (aW.ok b)<|c2<|.nil)<|pSeq<|wRet ?_
 obtain rfl:=so h
 exact pR1 (.inl u) u (.tmp u<|.nil)
theorem dO.ok{b:Int} {a1:aq} {r:Bool}(h:dO.f b a1=some r):FnA PP 66 [ki.sig b,sP (kR aA) a1] (kB.sig r):=by
 refine fnIntro Tryz.func66 u (by kernel_rfl) fun H0 w0=>?_
 unfold dO.f at h
 refine wSeq<|rx (c1<|.nil)<|pSeq ?_
 obtain⟨g,h,c⟩:=bd h
 refine wJ1 (fun a=>a=g) (fun a=>[(3,.d (kB.sig a))]) (fun a=>[]) ?_ ?_
 ·obtain⟨e,h⟩|⟨e,h⟩:=ik h
  ·exact rx (c8<|c2<|.nil)<|pJ1 _ (so h) (sb u) u
  ·exact rx (c8<|c2<|.nil)<|pJ1 _ (so h) (sb u) u
 ·rintro a rfl
  replace h:=c
  refine wRet ?_
  obtain rfl:=so h
  exact pR1 (.inl u) u (.tmp u<|.nil)
theorem cE.ok{c:aq} {a1:List Int} {r:Int}(h:cE.f c a1=some r):FnA PP 26 [(kR aA).sig c,(kL ki).sig a1] (ki.sig r):=by
 refine fnIntro Tryz.func26 u (by kernel_rfl) fun H0 w0=>?_
 unfold cE.f at h
 refine wSeq<|rx (c2<|.nil)<|pSeq<|wSeq<|wSeq ?_
 obtain⟨i,d,h⟩:=bd h
 refine rx (c1<|cC (bE.ok d)<|c1<|.nil)<|pSeq<|wSeq<|rx (c2<|.nil)<|pSeq ?_
 obtain⟨a,h⟩|⟨a,h⟩:=ik h
 ·refine wNT a.1 tm (s1 u)<|wSkip<|pSeq<|wSeq<|wSeq ?_
  obtain⟨j,e,h⟩:=bd h
  refine rx (c1<|cp (oMkF (Rl:=rl1 ki kB (fun g=>dO.f g c)) u b66 (rl1e dO.ok) (oc tm o0)) (s1 u)<|cC (bB.ok e)<|.nil)<|pSeq ?_
  obtain⟨b,h⟩|⟨b,h⟩:=ik h
  ·refine wBT b.1 tm (s1 u)<|wSeq<|rx (c1<|.nil)<|pSeq<|wRet<|pThenR ?_
   obtain rfl:=so h
   exact pR1 (.inl u) u (.tmp u<|.nil)
  ·refine wBF b.1 tm (s1 u)<|wSkip<|pSeq<|wSeq<|rx (c1<|.nil)<|pSeq<|wRet ?_
   obtain rfl:=so h
   exact pR1 (.inl u) u (.tmp u<|.nil)
 ·refine wNF a.1 tm (s1 u)<|wSeq<|rx (c2<|.nil)<|pSeq<|wRet<|pThenR ?_
  obtain rfl:=so h
  exact pR1 (.inl u) u (.tmp u<|.nil)
theorem eC.ok{e:Int} {r:Int}(h:eC.f e=some r):FnA PP 29 [(kI .u32).sig e] (ki.sig r):=by
 refine fnIntro Tryz.func29 u (by kernel_rfl) fun H0 w0=>?_
 unfold eC.f at h
 refine wSeq<|rx (c1<|.nil)<|pSeq<|wSeq ?_
 obtain⟨a,h⟩:=ib h
 obtain⟨b,h⟩:=ib h
 obtain⟨c,h⟩:=ib h
 obtain⟨d,h⟩:=ib h
 refine rdx hm (c1<|cp (oShr (by decide) tm (cI (by decide))) (s1 u)<|cp (oIdxS u9 a.1 a.2 (cS (s:=ks0) (by decide)) tm) (s1 u)<|c1<|cp (oShr (by decide) tm (cI (by decide))) (s1 u)<|cp (oAnd tm (cI (by decide))) (s1 u)<|cp (oIdxS u9 b.1 b.2 (cS (s:=ks0) (by decide)) tm) (s1 u)<|c2<|cp (oShr (by decide) tm (cI (by decide))) (s1 u)<|cp (oAnd tm (cI (by decide))) (s1 u)<|cp (oIdxS u9 c.1 c.2 (cS (s:=ks0) (by decide)) tm) (s1 u)<|c2<|cp (oAnd tm (cI (by decide))) (s1 u)<|cp (oIdxS u9 d.1 d.2 (cS (s:=ks0) (by decide)) tm) (s1 u)<|c1<|cp (oConv u5 u3 tm) (s1 u)<|c1<|.nil)<|pSeq<|wRet ?_
 obtain rfl:=so h
 exact pR1 (.inl u) u (.tmp u<|.nil)
theorem dC.ok{a:Int} {r:Bool}(h:dC.f a=some r):FnA PP 28 [(kI .u32).sig a] (kB.sig r):=by
 refine fnIntro Tryz.func28 u (by kernel_rfl) fun H0 w0=>?_
 unfold dC.f at h
 refine wSeq<|rx (c1<|.nil)<|pSeq<|wSeq ?_
 obtain⟨c,b,h⟩:=bd h
 refine rx (c1<|cC (eC.ok b)<|c2<|.nil)<|pSeq<|wRet ?_
 obtain rfl:=so h
 exact pR1 (.inl u) u (.tmp u<|.nil)
theorem dg.ok{b:aq} {r:Int×Int}(h:dg.f b=some r):FnA PP 13 [(kR aA).sig b] (tup [ki.sig r.1,ki.sig r.2]):=by
 refine fnIntro Tryz.func13 u (by kernel_rfl) fun H0 w0=>?_
 unfold dg.f at h
 refine wSeq<|rx (c3<|.nil)<|pSeq<|wSeq<|wSeq ?_
 obtain⟨g,c,h⟩:=bd h
 refine rx (c1<|cp (oCall u (cE.ok c) b26 (oc tm (oc (cN (d:=ki)) o0))) (s1 u)<|c1<|.nil)<|pSeq<|wSeq<|rx (c2<|.nil)<|pSeq ?_
 obtain⟨a,h⟩|⟨a,h⟩:=ik h
 ·refine wNT a.1 tm (s1 u)<|wSkip<|pSeq<|wSeq ?_
  obtain⟨i,e,h⟩:=bd h
  refine rx (c2<|cp (oCall u (aH.ok e) b27 (oc tm (oc (oFn b28 (rl1n dC.ok)) o0))) (s1 u)<|c2<|.nil)<|pSeq<|wRet ?_
  obtain rfl:=so h
  exact pRn (.inl u) u u (.tmp u<|.tmp u<|.nil)
 ·refine wNF a.1 tm (s1 u)<|wSeq<|rx (c3<|.nil)<|pSeq<|wRet<|pThenR ?_
  obtain rfl:=so h
  exact pRn (.inl u) u u (.tmp u<|.tmp u<|.nil)
theorem fl.ok{r:bw}(h:fl.f=some r):FnA PP 22 [] ((kR bf).sig r):=by
 refine fnIntro Tryz.func22 u (by kernel_rfl) fun H0 w0=>?_
 unfold fl.f at h
 refine wSeq<|rx (cw (oAlloc (id:=0) (ls:=[.d (kL (kR aU)) []]) ze28 (fun g=>⟨[(.slice none 0 0)],_,u,zL g.H,u⟩)) tv<|.nil)<|pSeq<|wSeq<|rx (cp (oLit (d:=ki) el56 (by decide) u u u (e1 (cI (by decide)) e0)) tv<|cp (oLit (d:=ki) el56 (by decide) u u u (e1 (cI (by decide)) e0)) tv<|cp (oLit (d:=ki) el56 (by decide) u u u (e1 (cI (by decide)) e0)) tv<|c3<|.nil)<|pSeq<|wSeq<|rx (cp (oLit (d:=ki) el56 (by decide) u u u (e1 (cI (by decide)) (e1 (cI (by decide)) (e1 (cI (by decide)) e0)))) tv<|c1<|.nil)<|pSeq<|wSeq<|rx (cp (oLit (d:=ki) el56 (by decide) u u u (e1 (cI (by decide)) (e1 (cI (by decide)) (e1 (cI (by decide)) e0)))) tv<|c1<|.nil)<|pSeq<|wSeq<|rx (c3<|cp (oBuild (fs:=aU) (u:=⟨([1]:List Int),([6]:List Int),([8]:List Int)⟩) u ze58 pl58 po58 (.op (zc:=[(.slice none 0 0)]) tm u (.op (zc:=[(.slice none 0 0)]) tm u (.op (zc:=[(.slice none 0 0)]) tm u .nil)))) (s3 u u u)<|cw (oAlloc (id:=6) (ls:=Z58) ze58 zl58) tv<|cwn (oStA (n:=0) (fs:=aU) u u z58 tm tm) (s2 u u)<|.nil)<|pSeq<|wSeq<|rx (c3<|cp (oBuild (fs:=aU) (u:=⟨([1]:List Int),([9,10,12]:List Int),([8]:List Int)⟩) u ze58 pl58 po58 (.op (zc:=[(.slice none 0 0)]) tm u (.op (zc:=[(.slice none 0 0)]) tm u (.op (zc:=[(.slice none 0 0)]) tm u .nil)))) (s3 u u u)<|cw (oAlloc (id:=7) (ls:=Z58) ze58 zl58) tv<|cwn (oStA (n:=0) (fs:=aU) u u z58 tm tm) (s2 u u)<|.nil)<|pSeq<|wSeq<|rx (c3<|cp (oBuild (fs:=aU) (u:=⟨([1]:List Int),([6]:List Int),([9,8,12]:List Int)⟩) u ze58 pl58 po58 (.op (zc:=[(.slice none 0 0)]) tm u (.op (zc:=[(.slice none 0 0)]) tm u (.op (zc:=[(.slice none 0 0)]) tm u .nil)))) (s3 u u u)<|cw (oAlloc (id:=8) (ls:=Z58) ze58 zl58) tv<|cwn (oStA (n:=0) (fs:=aU) u u z58 tm tm) (s2 u u)<|.nil)<|pSeq<|wSeq<|rx (cr (oLdA (n:=2) (fs:=aU) (u:=⟨([1]:List Int),([6]:List Int),([8]:List Int)⟩) u ⟨u,u,u,tv⟩ t58 tm) (s1 u)<|c1<|cp (oLit (d:=ki) el56 (by decide) u u u (e1 (cI (by decide)) e0)) tv<|c1<|cp (oBuild (fs:=aU) (u:=⟨([1]:List Int),([9]:List Int),([8]:List Int)⟩) u ze58 pl58 po58 (.op (zc:=[(.slice none 0 0)]) tm u (.op (zc:=[(.slice none 0 0)]) tm u (.op (zc:=[(.slice none 0 0)]) tm u .nil)))) (s3 u u u)<|cr (oLdA (n:=2) (fs:=aU) (u:=⟨([1]:List Int),([6]:List Int),([8]:List Int)⟩) u ⟨u,u,u,tv⟩ t58 tm) (s1 u)<|cr (oLdA (n:=1) (fs:=aU) (u:=⟨([1]:List Int),([9,10,12]:List Int),([8]:List Int)⟩) u ⟨u,u,u,tv⟩ t58 tm) (s1 u)<|cr (oLdA (n:=1) (fs:=aU) (u:=⟨([1]:List Int),([9,10,12]:List Int),([8]:List Int)⟩) u ⟨u,u,u,tv⟩ t58 tm) (s1 u)<|cr (oLdA (n:=1) (fs:=aU) (u:=⟨([1]:List Int),([9,10,12]:List Int),([8]:List Int)⟩) u ⟨u,u,u,tv⟩ t58 tm) (s1 u)<|cp (oLit (d:=ki) el56 (by decide) u u u (e1 (cI (by decide)) (e1 (cI (by decide)) (e1 (cI (by decide)) (e1 (cI (by decide)) (e1 (cI (by decide)) e0)))))) tv<|cp (oLit (d:=ki) el56 (by decide) u u u (e1 (cI (by decide)) (e1 (cI (by decide)) (e1 (cI (by decide)) (e1 (cI (by decide)) (e1 (cI (by decide)) e0)))))) tv<|c1<|cp (oBuild (fs:=aU) (u:=⟨([9,8,12,11,5]:List Int),([9,10,12,8,12]:List Int),([8]:List Int)⟩) u ze58 pl58 po58 (.op (zc:=[(.slice none 0 0)]) tm u (.op (zc:=[(.slice none 0 0)]) tm u (.op (zc:=[(.slice none 0 0)]) tm u .nil)))) (s3 u u u)<|cr (oLdA (n:=0) (fs:=aU) (u:=⟨([1]:List Int),([6]:List Int),([9,8,12]:List Int)⟩) u ⟨u,u,u,tv⟩ t58 tm) (s1 u)<|cr (oLdA (n:=0) (fs:=aU) (u:=⟨([1]:List Int),([6]:List Int),([9,8,12]:List Int)⟩) u ⟨u,u,u,tv⟩ t58 tm) (s1 u)<|cr (oLdA (n:=0) (fs:=aU) (u:=⟨([1]:List Int),([6]:List Int),([9,8,12]:List Int)⟩) u ⟨u,u,u,tv⟩ t58 tm) (s1 u)<|c2<|cp (oLit (d:=ki) el56 (by decide) u u u (e1 (cI (by decide)) e0)) tv<|cp (oBuild (fs:=aU) (u:=⟨([1]:List Int),([9,8,12]:List Int),([10]:List Int)⟩) u ze58 pl58 po58 (.op (zc:=[(.slice none 0 0)]) tm u (.op (zc:=[(.slice none 0 0)]) tm u (.op (zc:=[(.slice none 0 0)]) tm u .nil)))) (s3 u u u)<|c3<|cp (oBuild (fs:=aU) (u:=⟨([1]:List Int),([9,8,12]:List Int),([8]:List Int)⟩) u ze58 pl58 po58 (.op (zc:=[(.slice none 0 0)]) tm u (.op (zc:=[(.slice none 0 0)]) tm u (.op (zc:=[(.slice none 0 0)]) tm u .nil)))) (s3 u u u)<|cr (oLdA (n:=2) (fs:=aU) (u:=⟨([1]:List Int),([6]:List Int),([8]:List Int)⟩) u ⟨u,u,u,tv⟩ t58 tm) (s1 u)<|cp (oLit (d:=(kR aU)) el26 (by decide) u u u (e1 tm (e1 tm (e1 tm (e1 tm (e1 tm (e1 tm (e1 tm (e1 tm (e1 tm (e1 tm (e1 tm (e1 tm (e1 tm e0)))))))))))))) ⟨u,u,u,u,u,u,u,u,u,u,u,u,u,tv⟩<|cp (oBuild (fs:=bf) (u:=⟨([(⟨([1]:List Int),([6]:List Int),([8]:List Int)⟩:aO),(⟨([1]:List Int),([9]:List Int),([8]:List Int)⟩:aO),(⟨([1]:List Int),([6]:List Int),([8]:List Int)⟩:aO),(⟨([1]:List Int),([9,10,12]:List Int),([8]:List Int)⟩:aO),(⟨([1]:List Int),([9,10,12]:List Int),([8]:List Int)⟩:aO),(⟨([1]:List Int),([9,10,12]:List Int),([8]:List Int)⟩:aO),(⟨([9,8,12,11,5]:List Int),([9,10,12,8,12]:List Int),([8]:List Int)⟩:aO),(⟨([1]:List Int),([6]:List Int),([9,8,12]:List Int)⟩:aO),(⟨([1]:List Int),([6]:List Int),([9,8,12]:List Int)⟩:aO),(⟨([1]:List Int),([6]:List Int),([9,8,12]:List Int)⟩:aO),(⟨([1]:List Int),([9,8,12]:List Int),([10]:List Int)⟩:aO),(⟨([1]:List Int),([9,8,12]:List Int),([8]:List Int)⟩:aO),(⟨([1]:List Int),([6]:List Int),([8]:List Int)⟩:aO)]:List aO)⟩) u ze28 pl28 po28 (.op (zc:=[(.slice none 0 0)]) tm u .nil)) (s1 u)<|cwn (oStA (n:=3) (fs:=bf) u u z28 tm tm) (s2 u u)<|.nil)<|pSeq<|wRet ?_
 obtain rfl:=so h
 exact pR1 (.inl u) u (.box (n:=3) (fs:=bf) (u:=⟨([(⟨([1]:List Int),([6]:List Int),([8]:List Int)⟩:aO),(⟨([1]:List Int),([9]:List Int),([8]:List Int)⟩:aO),(⟨([1]:List Int),([6]:List Int),([8]:List Int)⟩:aO),(⟨([1]:List Int),([9,10,12]:List Int),([8]:List Int)⟩:aO),(⟨([1]:List Int),([9,10,12]:List Int),([8]:List Int)⟩:aO),(⟨([1]:List Int),([9,10,12]:List Int),([8]:List Int)⟩:aO),(⟨([9,8,12,11,5]:List Int),([9,10,12,8,12]:List Int),([8]:List Int)⟩:aO),(⟨([1]:List Int),([6]:List Int),([9,8,12]:List Int)⟩:aO),(⟨([1]:List Int),([6]:List Int),([9,8,12]:List Int)⟩:aO),(⟨([1]:List Int),([6]:List Int),([9,8,12]:List Int)⟩:aO),(⟨([1]:List Int),([9,8,12]:List Int),([10]:List Int)⟩:aO),(⟨([1]:List Int),([9,8,12]:List Int),([8]:List Int)⟩:aO),(⟨([1]:List Int),([6]:List Int),([8]:List Int)⟩:aO)]:List aO)⟩) u u ⟨u,tv⟩ t28<|.nil)
theorem dd.ok{l:Bool} {a1:List Bool} {r:(List Bool)×Bool}(h:dd.f l a1=some r):FnS PP 199 [.d (kB.sig l),.p 70100 0] [.box 70100 248 [.v 70101],.row 70101 232 kB a1] [70100] (.d (kB.sig r.2)) [.box 70100 248 [.v 70101],.row 70101 232 kB r.1]:=by
 refine fnIntroS Tryz.func199 u (by kernel_rfl) fun X H0 w0 pv=>?_
 unfold dd.f at h
 refine wSeq<|rx (c1<|.nil)<|pSeq<|wSeq<|rx (cr (oLdN (n:=0) (k:=0) u u u t248 tm) (s1 u)<|cr (oLenR (n:=1) u248 u tm) (s1 u)<|c2<|.nil)<|pSeq<|wSeq<|wWeak (Γ':=[(0,.d (kB.sig l)),(1,.p 70100 0),(4,.d (ki.sig (IntKind.i64.wrap ((a1.length:Int)-1))))]) (sb u)<|wRen 70101 3510000 u ?_
 obtain⟨q,h,o⟩:=bd h
 refine wJ1 (fun g=>g=q) (fun g=>[(1,.p 70100 0),(4,.d (ki.sig (IntKind.i64.wrap ((a1.length:Int)-1)))),(26,.d (kB.sig g))]) (fun g=>[.box 70100 248 [.v 3510000],.row 3510000 232 kB a1]) ?_ ?_
 ·obtain⟨a,h⟩|⟨a,h⟩:=ik h
  ·exact rx (c12<|c6<|c1<|.nil)<|pJ1 _ (so h) (sb u) u
  ·obtain⟨s,e,h⟩:=bd h
   obtain⟨b,h⟩|⟨b,h⟩:=ik h
   ·obtain⟨t,j,h⟩:=bd h
    exact rx (c3<|crgB (dF a.1) u u (oLdN (n:=0) (k:=0) u u u t248 tm) (s1 u)<|c1<|crgB (dF a.1) u u (oIdxR (n:=1) u248 z232 u e tm tm) (s2 u u)<|crgB (dF a.1) u u (oLdE (n:=1) u e u t232 tm) (s1 u)<|c1<|cgB (dF a.1) u u (oBNe u232 u tm tm) (s2 u u)<|c2<|crgB (nf b.1) u u (oLdN (n:=0) (k:=0) u u u t248 tm) (s1 u)<|c2<|crgB (nf b.1) u u (oIdxR (n:=1) u248 z232 u j tm tm) (s2 u u)<|crgB (nf b.1) u u (oLdE (n:=1) u j u t232 tm) (s1 u)<|c1<|cgB (nf b.1) u u (oBNe u232 u tm tm) (s2 u u)<|c1<|.nil)<|pJ1 _ (so h) (sb u) u
   ·exact rx (c3<|crgB (dF a.1) u u (oLdN (n:=0) (k:=0) u u u t248 tm) (s1 u)<|c1<|crgB (dF a.1) u u (oIdxR (n:=1) u248 z232 u e tm tm) (s2 u u)<|crgB (dF a.1) u u (oLdE (n:=1) u e u t232 tm) (s1 u)<|c1<|cgB (dF a.1) u u (oBNe u232 u tm tm) (s2 u u)<|c8<|c2<|.nil)<|pJ1 _ (so h) (sb u) u
 ·rintro g rfl
  replace h:=o
  obtain⟨c,h⟩|⟨c,h⟩:=ik h
  ·refine wBT c.1 tm (s1 u)<|wSeq<|rx (c1<|.nil)<|pSeq<|wRet<|pThenR ?_
   obtain rfl:=so h
   exact pSub (Γ':=[(3,.d (kB.sig false))]) (sb u)<|pRen 3510000 70101 u<|pS1 [0,1] u u (.inl u) u (.tmp u<|.nil)
  ·refine wBF c.1 tm (s1 u)<|wSkip<|pSeq<|wSeq ?_
   obtain⟨i,h⟩:=ib h
   refine rx (cr (oLdN (n:=0) (k:=0) u u u t248 tm) (s1 u)<|c2<|cw (oCutR (n:=1) (id':=30) u248 z232 u i.1 i.2 tm tm) (s2 u u)<|cwn (oStN (n:=0) (m:=1) (k:=0) u u u u z248 u tm tm) (s2 u u)<|.nil)<|pSeq<|wSeq<|rx (c1<|.nil)<|pSeq<|wRet ?_
   obtain rfl:=so h
   exact pSub (Γ':=[(3,.d (kB.sig true))]) (sb u)<|pRen 30 70101 u<|pS1 [0,1] u u (.inl u) u (.tmp u<|.nil)
theorem cR.ok{a:List Int} {r:Bool×Bool}(h:cR.f a=some r):FnA PP 188 [(kL ki).sig a] (tup [kB.sig r.1,kB.sig r.2]):=by
 refine fnIntro Tryz.func188 u (by kernel_rfl) fun H0 w0=>?_
 unfold cR.f at h
 refine wSeq<|rx (c2<|.nil)<|pSeq<|wSeq<|rx (cw (oAlloc (id:=4) (ls:=[.d (kN Bool) []]) ze248 (fun g=>⟨[(.slice none 0 0)],_,u,zN g.H,u⟩)) tv<|.nil)<|pSeq<|wSeq<|rx (cp (oMkN (ids:=[4]) (caps:=[none]) u (oNp tm oN0)) (s1 u)<|c1<|.nil)<|pSeq<|wSeq<|wSeq<|rx (c3<|.nil)<|pSeq<|wNilL kB 232 5200 (n:=0) (k:=0) u u u ?_
 obtain⟨R,h,P⟩:=bd h
 refine wK1 (fun c=>.inr c=R) (fun c=>[(0,.d ((kL ki).sig a)),(4,.p 4 0)]) (fun c=>[.row 5200 232 kB c,.box 4 248 [.v 5200]]) ?_ ?_
 ·refine wBlock (wLoop ?_)
  refine lW (pc2 R (fun J b=>[(0,.d ((kL ki).sig a)),(4,.p 4 0),(5,.f [4] (sCloN 199 [none])),(10,.d ((kL ki).sig a)),(11,.d (ki.sig (a.length:Int))),(12,.d (ki.sig b))]) (fun J b=>[.row 5200 232 kB J,.box 4 248 [.v 5200]]) (cR.l0.partial_correctness a) ?_ _ _ h) ⟨u,u,u,u,u,u,tv⟩ u
  clear h
  intro f' ih J b h
  refine wSeq<|rx (c1<|.nil)<|pSeq<|wSeq ?_
  obtain⟨A,h⟩|⟨A,h⟩:=ik h
  ·refine wCT A.1 tm (s1 u)<|wSkip<|pSeq ?_
   obtain⟨o2,h,nw⟩:=bd h
   refine wJ1 (fun w=>.inr w=o2) (fun w=>[(0,.d ((kL ki).sig a)),(4,.p 4 0),(5,.f [4] (sCloN 199 [none])),(10,.d ((kL ki).sig a)),(11,.d (ki.sig (a.length:Int))),(12,.d (ki.sig b))]) (fun w=>[.row 5200 232 kB w,.box 4 248 [.v 5200]]) ?_ ?_
   ·refine wBlock<|wSeq ?_
    obtain⟨ny,S,h⟩:=bd h
    refine rx (cp (oIdx u56 z3 S tm tm) (s2 u u)<|c2<|.nil)<|pSeq<|wSeq<|rx (c1<|.nil)<|pSeq<|wSeq<|wSeq<|rx (c1<|.nil)<|pSeq ?_
    obtain⟨o3,h,nx⟩:=bd h
    refine wK2 (fun x y=>(x,y)=o3) (fun x y=>[(0,.d ((kL ki).sig a)),(4,.p 4 0),(5,.f [4] (sCloN 199 [none])),(8,.d (kB.sig y)),(10,.d ((kL ki).sig a)),(11,.d (ki.sig (a.length:Int))),(12,.d (ki.sig b))]) (fun x y=>[.row 5200 232 kB x,.box 4 248 [.v 5200]]) ?_ ?_
    ·refine wBlock<|wSeq<|wSeq<|rx (c2<|.nil)<|pSeq ?_
     obtain⟨e,h⟩|⟨e,h⟩:=ik h
     ·refine wCT e.1 tm (s1 u)<|wSkip<|pSeq<|wCT e.1 tm (s1 u) ?_
      obtain⟨T,h⟩:=ib h
      exact rx (cr (oLdN (n:=1) (k:=0) u u u t248 tm) (s1 u)<|cp (oLit (d:=kB) el248 (by decide) u u u (e1 cB e0)) tv<|cw (oApp (n:=0) (id':=22) el248 (by decide) u (by decide) T tm tm) (s2 u u)<|cwn (oStN (n:=1) (m:=0) (k:=0) u u u u z248 u tm tm) (s2 u u)<|.nil)<|pBlkN<|pSub (Γ':=[(0,.d ((kL ki).sig a)),(4,.p 4 0),(5,.f [4] (sCloN 199 [none])),(8,.d (kB.sig true)),(10,.d ((kL ki).sig a)),(11,.d (ki.sig (a.length:Int))),(12,.d (ki.sig b))]) (sb u)<|pRen 22 5200 u<|pJ2 _ _ (so h) (sb u) u
     ·refine wCF e.1 tm (s1 u)<|rx (c2<|.nil)<|pSeq ?_
      obtain⟨B,h⟩|⟨B,h⟩:=ik h
      ·refine wCT B.1 tm (s1 u) ?_
       obtain⟨U,h⟩:=ib h
       exact rx (cr (oLdN (n:=1) (k:=0) u u u t248 tm) (s1 u)<|cp (oLit (d:=kB) el248 (by decide) u u u (e1 cB e0)) tv<|cw (oApp (n:=0) (id':=22) el248 (by decide) u (by decide) U tm tm) (s2 u u)<|cwn (oStN (n:=1) (m:=0) (k:=0) u u u u z248 u tm tm) (s2 u u)<|.nil)<|pBlkN<|pSub (Γ':=[(0,.d ((kL ki).sig a)),(4,.p 4 0),(5,.f [4] (sCloN 199 [none])),(8,.d (kB.sig true)),(10,.d ((kL ki).sig a)),(11,.d (ki.sig (a.length:Int))),(12,.d (ki.sig b))]) (sb u)<|pRen 22 5200 u<|pJ2 _ _ (so h) (sb u) u
      ·refine wCF B.1 tm (s1 u)<|wSeq<|wSeq<|rx (c2<|.nil)<|pSeq ?_
       obtain⟨i,h⟩|⟨i,h⟩:=ik h
       ·refine wCT i.1 tm (s1 u)<|wSkip<|pSeq<|wCT i.1 tm (s1 u) ?_
        obtain⟨V,h⟩:=ib h
        exact rx (cr (oLdN (n:=1) (k:=0) u u u t248 tm) (s1 u)<|cp (oLit (d:=kB) el248 (by decide) u u u (e1 cB e0)) tv<|cw (oApp (n:=0) (id':=32) el248 (by decide) u (by decide) V tm tm) (s2 u u)<|cwn (oStN (n:=1) (m:=0) (k:=0) u u u u z248 u tm tm) (s2 u u)<|.nil)<|pBlkN<|pSub (Γ':=[(0,.d ((kL ki).sig a)),(4,.p 4 0),(5,.f [4] (sCloN 199 [none])),(8,.d (kB.sig true)),(10,.d ((kL ki).sig a)),(11,.d (ki.sig (a.length:Int))),(12,.d (ki.sig b))]) (sb u)<|pRen 32 5200 u<|pJ2 _ _ (so h) (sb u) u
       ·refine wCF i.1 tm (s1 u)<|wSeq<|rx (c2<|.nil)<|pSeq ?_
        obtain⟨j,h⟩|⟨j,h⟩:=ik h
        ·refine wCT j.1 tm (s1 u)<|wSkip<|pSeq<|wCT j.1 tm (s1 u) ?_
         obtain⟨W,h⟩:=ib h
         exact rx (cr (oLdN (n:=1) (k:=0) u u u t248 tm) (s1 u)<|cp (oLit (d:=kB) el248 (by decide) u u u (e1 cB e0)) tv<|cw (oApp (n:=0) (id':=32) el248 (by decide) u (by decide) W tm tm) (s2 u u)<|cwn (oStN (n:=1) (m:=0) (k:=0) u u u u z248 u tm tm) (s2 u u)<|.nil)<|pBlkN<|pSub (Γ':=[(0,.d ((kL ki).sig a)),(4,.p 4 0),(5,.f [4] (sCloN 199 [none])),(8,.d (kB.sig true)),(10,.d ((kL ki).sig a)),(11,.d (ki.sig (a.length:Int))),(12,.d (ki.sig b))]) (sb u)<|pRen 32 5200 u<|pJ2 _ _ (so h) (sb u) u
        ·refine wCF j.1 tm (s1 u)<|wSeq<|rx (c2<|.nil)<|pSeq ?_
         obtain⟨l,h⟩|⟨l,h⟩:=ik h
         ·refine wCT l.1 tm (s1 u)<|wSkip<|pSeq<|wCT l.1 tm (s1 u) ?_
          obtain⟨X,h⟩:=ib h
          exact rx (cr (oLdN (n:=1) (k:=0) u u u t248 tm) (s1 u)<|cp (oLit (d:=kB) el248 (by decide) u u u (e1 cB e0)) tv<|cw (oApp (n:=0) (id':=32) el248 (by decide) u (by decide) X tm tm) (s2 u u)<|cwn (oStN (n:=1) (m:=0) (k:=0) u u u u z248 u tm tm) (s2 u u)<|.nil)<|pBlkN<|pSub (Γ':=[(0,.d ((kL ki).sig a)),(4,.p 4 0),(5,.f [4] (sCloN 199 [none])),(8,.d (kB.sig true)),(10,.d ((kL ki).sig a)),(11,.d (ki.sig (a.length:Int))),(12,.d (ki.sig b))]) (sb u)<|pRen 32 5200 u<|pJ2 _ _ (so h) (sb u) u
         ·refine wCF l.1 tm (s1 u)<|wSeq<|rx (c2<|.nil)<|pSeq ?_
          obtain⟨o,h⟩|⟨o,h⟩:=ik h
          ·refine wCT o.1 tm (s1 u)<|wSkip<|pSeq<|wCT o.1 tm (s1 u) ?_
           obtain⟨Y,h⟩:=ib h
           exact rx (cr (oLdN (n:=1) (k:=0) u u u t248 tm) (s1 u)<|cp (oLit (d:=kB) el248 (by decide) u u u (e1 cB e0)) tv<|cw (oApp (n:=0) (id':=32) el248 (by decide) u (by decide) Y tm tm) (s2 u u)<|cwn (oStN (n:=1) (m:=0) (k:=0) u u u u z248 u tm tm) (s2 u u)<|.nil)<|pBlkN<|pSub (Γ':=[(0,.d ((kL ki).sig a)),(4,.p 4 0),(5,.f [4] (sCloN 199 [none])),(8,.d (kB.sig true)),(10,.d ((kL ki).sig a)),(11,.d (ki.sig (a.length:Int))),(12,.d (ki.sig b))]) (sb u)<|pRen 32 5200 u<|pJ2 _ _ (so h) (sb u) u
          ·refine wCF o.1 tm (s1 u)<|wSeq<|rx (c2<|.nil)<|pSeq ?_
           obtain⟨q,h⟩|⟨q,h⟩:=ik h
           ·refine wCT q.1 tm (s1 u)<|wSkip<|pSeq<|wCT q.1 tm (s1 u) ?_
            obtain⟨Z,h⟩:=ib h
            exact rx (cr (oLdN (n:=1) (k:=0) u u u t248 tm) (s1 u)<|cp (oLit (d:=kB) el248 (by decide) u u u (e1 cB e0)) tv<|cw (oApp (n:=0) (id':=32) el248 (by decide) u (by decide) Z tm tm) (s2 u u)<|cwn (oStN (n:=1) (m:=0) (k:=0) u u u u z248 u tm tm) (s2 u u)<|.nil)<|pBlkN<|pSub (Γ':=[(0,.d ((kL ki).sig a)),(4,.p 4 0),(5,.f [4] (sCloN 199 [none])),(8,.d (kB.sig true)),(10,.d ((kL ki).sig a)),(11,.d (ki.sig (a.length:Int))),(12,.d (ki.sig b))]) (sb u)<|pRen 32 5200 u<|pJ2 _ _ (so h) (sb u) u
           ·refine wCF q.1 tm (s1 u)<|rx (c2<|.nil)<|pSeq ?_
            obtain⟨C,h⟩|⟨C,h⟩:=ik h
            ·refine wCT C.1 tm (s1 u) ?_
             obtain⟨nc,h⟩:=ib h
             exact rx (cr (oLdN (n:=1) (k:=0) u u u t248 tm) (s1 u)<|cp (oLit (d:=kB) el248 (by decide) u u u (e1 cB e0)) tv<|cw (oApp (n:=0) (id':=32) el248 (by decide) u (by decide) nc tm tm) (s2 u u)<|cwn (oStN (n:=1) (m:=0) (k:=0) u u u u z248 u tm tm) (s2 u u)<|.nil)<|pBlkN<|pSub (Γ':=[(0,.d ((kL ki).sig a)),(4,.p 4 0),(5,.f [4] (sCloN 199 [none])),(8,.d (kB.sig true)),(10,.d ((kL ki).sig a)),(11,.d (ki.sig (a.length:Int))),(12,.d (ki.sig b))]) (sb u)<|pRen 32 5200 u<|pJ2 _ _ (so h) (sb u) u
            ·refine wCF C.1 tm (s1 u)<|wSeq<|wSeq<|rx (c2<|.nil)<|pSeq ?_
             obtain⟨s,h⟩|⟨s,h⟩:=ik h
             ·refine wCT s.1 tm (s1 u)<|wSkip<|pSeq<|wCT s.1 tm (s1 u)<|wSeq ?_
              obtain⟨K,ne,h⟩:=bd h
              refine rx (c1<|cm (oCallN (ins:=[.d (kB.sig false)]) (caps:=[none]) (kn:=[70100]) (rest:=[]) (R':=[.row 510040 232 kB K.1,.box 4 248 [.v 510040]]) (out':=.d (kB.sig K.2)) [(70100,4),(70101,5200)] [(70101,510040)] [1,0] [] [1,0] u tm (dd.ok ne) u b199 (oE1 cB oE0) u u u u u u u u) (s1 u)<|c1<|.nil)<|pSeq ?_
              obtain⟨ng,h⟩:=ib h
              exact rx (cr (oLdN (n:=1) (k:=0) u u u t248 tm) (s1 u)<|cp (oLit (d:=kB) el248 (by decide) u u u (e1 cB e0)) tv<|cw (oApp (n:=0) (id':=40) el248 (by decide) u (by decide) ng tm tm) (s2 u u)<|cwn (oStN (n:=1) (m:=0) (k:=0) u u u u z248 u tm tm) (s2 u u)<|.nil)<|pBlkN<|pSub (Γ':=[(0,.d ((kL ki).sig a)),(4,.p 4 0),(5,.f [4] (sCloN 199 [none])),(8,.d (kB.sig K.2)),(10,.d ((kL ki).sig a)),(11,.d (ki.sig (a.length:Int))),(12,.d (ki.sig b))]) (sb u)<|pRen 40 5200 u<|pJ2 _ _ (so h) (sb u) u
             ·refine wCF s.1 tm (s1 u)<|rx (c2<|.nil)<|pSeq ?_
              obtain⟨D,h⟩|⟨D,h⟩:=ik h
              ·refine wCT D.1 tm (s1 u)<|wSeq ?_
               obtain⟨L,nh,h⟩:=bd h
               refine rx (c1<|cm (oCallN (ins:=[.d (kB.sig false)]) (caps:=[none]) (kn:=[70100]) (rest:=[]) (R':=[.row 510040 232 kB L.1,.box 4 248 [.v 510040]]) (out':=.d (kB.sig L.2)) [(70100,4),(70101,5200)] [(70101,510040)] [1,0] [] [1,0] u tm (dd.ok nh) u b199 (oE1 cB oE0) u u u u u u u u) (s1 u)<|c1<|.nil)<|pSeq ?_
               obtain⟨ni,h⟩:=ib h
               exact rx (cr (oLdN (n:=1) (k:=0) u u u t248 tm) (s1 u)<|cp (oLit (d:=kB) el248 (by decide) u u u (e1 cB e0)) tv<|cw (oApp (n:=0) (id':=40) el248 (by decide) u (by decide) ni tm tm) (s2 u u)<|cwn (oStN (n:=1) (m:=0) (k:=0) u u u u z248 u tm tm) (s2 u u)<|.nil)<|pBlkN<|pSub (Γ':=[(0,.d ((kL ki).sig a)),(4,.p 4 0),(5,.f [4] (sCloN 199 [none])),(8,.d (kB.sig L.2)),(10,.d ((kL ki).sig a)),(11,.d (ki.sig (a.length:Int))),(12,.d (ki.sig b))]) (sb u)<|pRen 40 5200 u<|pJ2 _ _ (so h) (sb u) u
              ·refine wCF D.1 tm (s1 u)<|wSeq<|rx (c2<|.nil)<|pSeq ?_
               obtain⟨E,h⟩|⟨E,h⟩:=ik h
               ·refine wCT E.1 tm (s1 u)<|wSeq ?_
                obtain⟨M,nj,h⟩:=bd h
                refine rx (c1<|cm (oCallN (ins:=[.d (kB.sig true)]) (caps:=[none]) (kn:=[70100]) (rest:=[]) (R':=[.row 540040 232 kB M.1,.box 4 248 [.v 540040]]) (out':=.d (kB.sig M.2)) [(70100,4),(70101,5200)] [(70101,540040)] [1,0] [] [1,0] u tm (dd.ok nj) u b199 (oE1 cB oE0) u u u u u u u u) (s1 u)<|c1<|.nil)<|pSeq ?_
                obtain⟨nk,h⟩:=ib h
                exact rx (cr (oLdN (n:=1) (k:=0) u u u t248 tm) (s1 u)<|cp (oLit (d:=kB) el248 (by decide) u u u (e1 cB e0)) tv<|cw (oApp (n:=0) (id':=47) el248 (by decide) u (by decide) nk tm tm) (s2 u u)<|cwn (oStN (n:=1) (m:=0) (k:=0) u u u u z248 u tm tm) (s2 u u)<|.nil)<|pBlkN<|pSub (Γ':=[(0,.d ((kL ki).sig a)),(4,.p 4 0),(5,.f [4] (sCloN 199 [none])),(8,.d (kB.sig M.2)),(10,.d ((kL ki).sig a)),(11,.d (ki.sig (a.length:Int))),(12,.d (ki.sig b))]) (sb u)<|pRen 47 5200 u<|pJ2 _ _ (so h) (sb u) u
               ·refine wCF E.1 tm (s1 u)<|wSeq<|wSeq<|rx (c2<|.nil)<|pSeq ?_
                obtain⟨t,h⟩|⟨t,h⟩:=ik h
                ·refine wCT t.1 tm (s1 u)<|wSkip<|pSeq<|wCT t.1 tm (s1 u)<|wSeq ?_
                 obtain⟨N,np,h⟩:=bd h
                 refine rx (c1<|cm (oCallN (ins:=[.d (kB.sig true)]) (caps:=[none]) (kn:=[70100]) (rest:=[]) (R':=[.row 580040 232 kB N.1,.box 4 248 [.v 580040]]) (out':=.d (kB.sig N.2)) [(70100,4),(70101,5200)] [(70101,580040)] [1,0] [] [1,0] u tm (dd.ok np) u b199 (oE1 cB oE0) u u u u u u u u) (s1 u)<|c1<|.nil)<|pSeq ?_
                 obtain⟨nq,h⟩:=ib h
                 exact rx (cr (oLdN (n:=1) (k:=0) u u u t248 tm) (s1 u)<|cp (oLit (d:=kB) el248 (by decide) u u u (e1 cB e0)) tv<|cw (oApp (n:=0) (id':=55) el248 (by decide) u (by decide) nq tm tm) (s2 u u)<|cwn (oStN (n:=1) (m:=0) (k:=0) u u u u z248 u tm tm) (s2 u u)<|.nil)<|pBlkN<|pSub (Γ':=[(0,.d ((kL ki).sig a)),(4,.p 4 0),(5,.f [4] (sCloN 199 [none])),(8,.d (kB.sig N.2)),(10,.d ((kL ki).sig a)),(11,.d (ki.sig (a.length:Int))),(12,.d (ki.sig b))]) (sb u)<|pRen 55 5200 u<|pJ2 _ _ (so h) (sb u) u
                ·refine wCF t.1 tm (s1 u)<|rx (c2<|.nil)<|pSeq ?_
                 obtain⟨F,h⟩|⟨F,h⟩:=ik h
                 ·refine wCT F.1 tm (s1 u)<|wSeq ?_
                  obtain⟨O,nr,h⟩:=bd h
                  refine rx (c1<|cm (oCallN (ins:=[.d (kB.sig true)]) (caps:=[none]) (kn:=[70100]) (rest:=[]) (R':=[.row 580040 232 kB O.1,.box 4 248 [.v 580040]]) (out':=.d (kB.sig O.2)) [(70100,4),(70101,5200)] [(70101,580040)] [1,0] [] [1,0] u tm (dd.ok nr) u b199 (oE1 cB oE0) u u u u u u u u) (s1 u)<|c1<|.nil)<|pSeq ?_
                  obtain⟨nu,h⟩:=ib h
                  exact rx (cr (oLdN (n:=1) (k:=0) u u u t248 tm) (s1 u)<|cp (oLit (d:=kB) el248 (by decide) u u u (e1 cB e0)) tv<|cw (oApp (n:=0) (id':=55) el248 (by decide) u (by decide) nu tm tm) (s2 u u)<|cwn (oStN (n:=1) (m:=0) (k:=0) u u u u z248 u tm tm) (s2 u u)<|.nil)<|pBlkN<|pSub (Γ':=[(0,.d ((kL ki).sig a)),(4,.p 4 0),(5,.f [4] (sCloN 199 [none])),(8,.d (kB.sig O.2)),(10,.d ((kL ki).sig a)),(11,.d (ki.sig (a.length:Int))),(12,.d (ki.sig b))]) (sb u)<|pRen 55 5200 u<|pJ2 _ _ (so h) (sb u) u
                 ·exact wCF F.1 tm (s1 u)<|rx (c1<|.nil)<|pBlkN<|pJ2 _ _ (so h) (sb u) u
    ·rintro x y rfl
     replace h:=nx
     refine pSeq<|wSeq<|rx (c2<|.nil)<|pSeq ?_
     obtain⟨G,h⟩|⟨G,h⟩:=ik h
     ·refine wBT G.1 tm (s1 u)<|wSeq<|rx (c2<|.nil)<|pSeq<|wRet<|pBlkR<|pThenR ?_
      obtain rfl:=so h
      replace h:=nw
      refine pThenR<|pBlkR<|pThenR ?_
      obtain rfl:=so h
      replace h:=P
      refine pThenR ?_
      obtain rfl:=so h
      exact pRn (.inl u) u u (.tmp u<|.tmp u<|.nil)
     ·exact wBF G.1 tm (s1 u)<|wSkip<|pBlkN<|pJ1 _ (so h) (sb u) u
   ·rintro w rfl
    replace h:=nw
    exact rx (c2<|.nil)<|pLoop (lW (ih _ _ h) ⟨u,u,u,u,u,u,tv⟩ u)
  ·exact wCF A.1 tm (s1 u)<|wExit<|pThenX<|pThenX<|pBlkX<|pJ1 _ (so h) (sb u) u
 ·rintro c rfl
  replace h:=P
  refine pSeq<|wSeq ?_
  obtain⟨R,h,P⟩:=bd h
  refine wJ1 (fun z=>z=R) (fun z=>[(4,.p 4 0),(66,.d (kB.sig z))]) (fun z=>[.row 5200 232 kB c,.box 4 248 [.v 5200]]) ?_ ?_
  ·obtain⟨nv,h⟩|⟨nv,h⟩:=ik h
   ·exact rx (cr (oLdN (n:=1) (k:=0) u u u t248 tm) (s1 u)<|cr (oLenR (n:=0) u248 u tm) (s1 u)<|c6<|.nil)<|pJ1 _ (so h) (sb u) u
   ·exact rx (cr (oLdN (n:=1) (k:=0) u u u t248 tm) (s1 u)<|cr (oLenR (n:=0) u248 u tm) (s1 u)<|c6<|.nil)<|pJ1 _ (so h) (sb u) u
  ·rintro z rfl
   replace h:=P
   obtain⟨I,h⟩|⟨I,h⟩:=ik h
   ·refine wBT I.1 tm (s1 u)<|wSeq<|rx (c2<|.nil)<|pSeq<|wRet<|pThenR ?_
    obtain rfl:=so h
    exact pRn (.inl u) u u (.tmp u<|.tmp u<|.nil)
   ·refine wBF I.1 tm (s1 u)<|wSkip<|pSeq<|wSeq ?_
    obtain⟨nz,Q,h⟩:=bd h
    refine rx (cr (oLdN (n:=1) (k:=0) u u u t248 tm) (s1 u)<|cr (oIdxR (n:=0) u248 z232 u Q tm (cI (by decide))) (s1 u)<|cr (oLdE (n:=0) u Q u t232 tm) (s1 u)<|c2<|.nil)<|pSeq<|wRet ?_
    obtain rfl:=so h
    exact pRn (.inl u) u u (.tmp u<|.tmp u<|.nil)
theorem db.ok{c:List Int} {a1:Bool} {r:Bool}(h:db.f c a1=some r):FnA PP 166 [(kL ki).sig c,kB.sig a1] (kB.sig r):=by
 refine fnIntro Tryz.func166 u (by kernel_rfl) fun H0 w0=>?_
 unfold db.f at h
 refine wSeq<|rx (c1<|.nil)<|pSeq<|wSeq ?_
 obtain⟨j,e,h⟩:=bd h
 refine rx (c1<|cC (cR.ok e)<|c4<|c1<|.nil)<|pSeq ?_
 obtain⟨i,h,g⟩:=bd h
 refine wJ1 (fun a=>a=i) (fun a=>[(4,.d (kB.sig a))]) (fun a=>[]) ?_ ?_
 ·obtain⟨b,h⟩|⟨b,h⟩:=ik h
  ·exact rx (c4<|cgB b.1 u u (oBEq u4 u tm tm) (s2 u u)<|c2<|.nil)<|pJ1 _ (so h) (sb u) u
  ·exact rx (c6<|c1<|.nil)<|pJ1 _ (so h) (sb u) u
 ·rintro a rfl
  replace h:=g
  refine wRet ?_
  obtain rfl:=so h
  exact pR1 (.inl u) u (.tmp u<|.nil)
theorem dQ.ok{j:aO} {r:Bool}(h:dQ.f j=some r):FnA PP 144 [(kR aU).sig j] (kB.sig r):=by
 refine fnIntro Tryz.func144 u (by kernel_rfl) fun H0 w0=>?_
 unfold dQ.f at h
 refine wSeq<|rx (c2<|.nil)<|pSeq ?_
 obtain⟨l,h,k⟩:=bd h
 refine wJ1 (fun a=>a=l) (fun a=>[(2,.d (kB.sig a))]) (fun a=>[]) ?_ ?_
 ·obtain⟨n,b,h⟩:=bd h
  obtain⟨c,h⟩|⟨c,h⟩:=ik h
  ·obtain⟨o,g,h⟩:=bd h
   obtain⟨e,h⟩|⟨e,h⟩:=ik h
   ·obtain⟨m,i,h⟩:=bd h
    exact rx (c2<|cC (db.ok b)<|c3<|cgB c.1 u u (oCall u (db.ok g) b166 (oc tm (oc cB o0))) (s1 u)<|c4<|cgB e.1 u u (oCall u (db.ok i) b166 (oc tm (oc cB o0))) (s1 u)<|c2<|.nil)<|pJ1 _ (so h) (sb u) u
   ·exact rx (c2<|cC (db.ok b)<|c3<|cgB c.1 u u (oCall u (db.ok g) b166 (oc tm (oc cB o0))) (s1 u)<|c6<|c1<|.nil)<|pJ1 _ (so h) (sb u) u
  ·exact rx (c2<|cC (db.ok b)<|c8<|c3<|.nil)<|pJ1 _ (so h) (sb u) u
 ·rintro a rfl
  replace h:=k
  refine wRet ?_
  obtain rfl:=so h
  exact pR1 (.inl u) u (.tmp u<|.nil)
theorem cZ.ok{a:List Int} {r:Int×Int}(h:cZ.f a=some r):FnA PP 189 [(kL ki).sig a] (tup [(kI .u32).sig r.1,ki.sig r.2]):=by
 refine fnIntro Tryz.func189 u (by kernel_rfl) fun H0 w0=>?_
 unfold cZ.f at h
 refine wSeq<|rx (c2<|.nil)<|pSeq<|wSeq<|wSeq ?_
 obtain⟨z,p,h⟩:=bd h
 refine rx (c1<|cC (cR.ok p)<|c4<|c1<|.nil)<|pSeq<|wSeq<|rx (c2<|.nil)<|pSeq ?_
 obtain⟨l,h⟩|⟨l,h⟩:=ik h
 ·refine wBT l.1 tm (s1 u)<|wSeq<|rx (c2<|.nil)<|pSeq<|wRet<|pThenR ?_
  obtain rfl:=so h
  exact pRn (.inl u) u u (.tmp u<|.tmp u<|.nil)
 ·refine wBF l.1 tm (s1 u)<|wSkip<|pSeq<|wSeq<|rx (c1<|.nil)<|pSeq<|wSeq<|wSeq<|rx (c3<|.nil)<|pSeq ?_
  obtain⟨q,h,s⟩:=bd h
  refine wK1 (fun b=>b=q) (fun b=>[(6,.d ((kI .u32).sig b))]) (fun b=>[]) ?_ ?_
  ·refine wBlock (wLoop ?_)
   refine lW (pc2 q (fun c k=>[(6,.d ((kI .u32).sig k)),(16,.d ((kL ki).sig a)),(17,.d (ki.sig (a.length:Int))),(18,.d (ki.sig c))]) (fun c k=>[]) (cZ.l0.partial_correctness a) ?_ _ _ h) ⟨u,u,u,u,tv⟩ u
   clear h
   intro f' ih c k h
   refine wSeq<|rx (c1<|.nil)<|pSeq<|wSeq ?_
   obtain⟨i,h⟩|⟨i,h⟩:=ik h
   ·refine wCT i.1 tm (s1 u)<|wSkip<|pSeq ?_
    obtain⟨x,h,t⟩:=bd h
    refine wJ1 (fun e=>e=x) (fun e=>[(6,.d ((kI .u32).sig e)),(16,.d ((kL ki).sig a)),(17,.d (ki.sig (a.length:Int))),(18,.d (ki.sig c))]) (fun e=>[]) ?_ ?_
    ·refine wBlock<|wSeq ?_
     obtain⟨v,m,h⟩:=bd h
     refine rx (cp (oIdx u56 z3 m tm tm) (s2 u u)<|c2<|.nil)<|pSeq ?_
     obtain⟨y,h,w⟩:=bd h
     refine wJ1 (fun g=>g=y) (fun g=>[(6,.d ((kI .u32).sig k)),(8,.d (ki.sig v)),(16,.d ((kL ki).sig a)),(17,.d (ki.sig (a.length:Int))),(18,.d (ki.sig c)),(27,.d (kB.sig g))]) (fun g=>[]) ?_ ?_
     ·obtain⟨n,h⟩|⟨n,h⟩:=ik h
      ·exact rx (c6<|.nil)<|pJ1 _ (so h) (sb u) u
      ·exact rx (c6<|.nil)<|pJ1 _ (so h) (sb u) u
     ·rintro g rfl
      replace h:=w
      obtain⟨j,h⟩|⟨j,h⟩:=ik h
      ·refine wBT j.1 tm (s1 u) ?_
       obtain⟨o,h⟩:=ib h
       exact rx (c3<|cp (oShl o (cI (by decide)) tm) (s1 u)<|cp (oOr tm tm) (s2 u u)<|c1<|.nil)<|pBlkN<|pJ1 _ (so h) (sb u) u
      ·exact wBF j.1 tm (s1 u)<|wSkip<|pBlkN<|pJ1 _ (so h) (sb u) u
    ·rintro e rfl
     replace h:=t
     exact rx (c2<|.nil)<|pLoop (lW (ih _ _ h) ⟨u,u,u,u,tv⟩ u)
   ·exact wCF i.1 tm (s1 u)<|wExit<|pThenX<|pThenX<|pBlkX<|pJ1 _ (so h) (sb u) u
  ·rintro b rfl
   replace h:=s
   refine pSeq<|wSeq<|rx (c3<|.nil)<|pSeq<|wRet ?_
   obtain rfl:=so h
   exact pRn (.inl u) u u (.tmp u<|.tmp u<|.nil)
theorem dx.ok{c:Int} {a1:List Int} {r:Bool}(h:dx.f c a1=some r):FnA PP 167 [ki.sig c,(kL ki).sig a1] (kB.sig r):=by
 refine fnIntro Tryz.func167 u (by kernel_rfl) fun H0 w0=>?_
 unfold dx.f at h
 refine wSeq<|rx (c1<|.nil)<|pSeq<|wSeq ?_
 obtain⟨l,e,h⟩:=bd h
 refine rx (c1<|cC (cZ.ok e)<|c4<|c1<|.nil)<|pSeq ?_
 obtain⟨k,h,g⟩:=bd h
 refine wJ1 (fun a=>a=k) (fun a=>[(4,.d (kB.sig a))]) (fun a=>[]) ?_ ?_
 ·obtain⟨b,h⟩|⟨b,h⟩:=ik h
  ·obtain⟨m,i,h⟩:=bd h
   obtain⟨j,h⟩:=ib h
   exact rx (c4<|c1<|cgB (dT b.1) u u (oIdxG gm0 u237 u z3 i tm) (s1 u)<|c2<|cgB (dT b.1) u u (oShr j tm tm) (s2 u u)<|c3<|.nil)<|pJ1 _ (so h) (sb u) u
  ·exact rx (c12<|.nil)<|pJ1 _ (so h) (sb u) u
 ·rintro a rfl
  replace h:=g
  refine wRet ?_
  obtain rfl:=so h
  exact pR1 (.inl u) u (.tmp u<|.nil)
theorem dJ.ok{j:Int} {a1:aO} {r:Bool}(h:dJ.f j a1=some r):FnA PP 145 [ki.sig j,(kR aU).sig a1] (kB.sig r):=by
 refine fnIntro Tryz.func145 u (by kernel_rfl) fun H0 w0=>?_
 unfold dJ.f at h
 refine wSeq<|rx (c2<|.nil)<|pSeq ?_
 obtain⟨l,h,k⟩:=bd h
 refine wJ1 (fun a=>a=l) (fun a=>[(4,.d (kB.sig a))]) (fun a=>[]) ?_ ?_
 ·obtain⟨n,b,h⟩:=bd h
  obtain⟨c,h⟩|⟨c,h⟩:=ik h
  ·obtain⟨o,g,h⟩:=bd h
   obtain⟨e,h⟩|⟨e,h⟩:=ik h
   ·obtain⟨m,i,h⟩:=bd h
    exact rx (c3<|cC (dx.ok b)<|c4<|cgB c.1 u u (oCall u (dx.ok g) b167 (oc tm (oc tm o0))) (s2 u u)<|c4<|c1<|cgB e.1 u u (oCall u (dx.ok i) b167 (oc tm (oc tm o0))) (s2 u u)<|c2<|.nil)<|pJ1 _ (so h) (sb u) u
   ·exact rx (c3<|cC (dx.ok b)<|c4<|cgB c.1 u u (oCall u (dx.ok g) b167 (oc tm (oc tm o0))) (s2 u u)<|c8<|.nil)<|pJ1 _ (so h) (sb u) u
  ·exact rx (c3<|cC (dx.ok b)<|c12<|c1<|.nil)<|pJ1 _ (so h) (sb u) u
 ·rintro a rfl
  replace h:=k
  refine wRet ?_
  obtain rfl:=so h
  exact pR1 (.inl u) u (.tmp u<|.nil)
theorem cH.ok{e:bw} {r:Int×Int}(h:cH.f e=some r):FnA PP 123 [(kR bf).sig e] (tup [ki.sig r.1,ki.sig r.2]):=by
 refine fnIntro Tryz.func123 u (by kernel_rfl) fun H0 w0=>?_
 unfold cH.f at h
 refine wSeq<|rx (c3<|.nil)<|pSeq<|wSeq<|wSeq<|rx (c4<|.nil)<|pSeq ?_
 obtain⟨g,h⟩|⟨g,h⟩:=ik h
 ·refine wNT g.1 tm (s1 u)<|wSkip<|pSeq<|wSeq<|wSeq<|rx (c4<|.nil)<|pSeq ?_
  obtain⟨o,h,i⟩:=bd h
  refine wK0 (.inr ()=o) ([]) ([]) ?_ ?_
  ·refine wBlock (wLoop ?_)
   refine lW (pc1 o (fun j=>[(11,.d ((kL (kR aU)).sig e.Rows)),(12,.d (ki.sig (e.Rows.length:Int))),(13,.d (ki.sig j))]) (fun j=>[]) (cH.l0.partial_correctness e) ?_ _ h) ⟨u,u,u,tv⟩ u
   clear h
   intro f' ih j h
   refine wSeq<|rx (c1<|.nil)<|pSeq<|wSeq ?_
   obtain⟨a,h⟩|⟨a,h⟩:=ik h
   ·refine wCT a.1 tm (s1 u)<|wSkip<|pSeq<|wSeq<|wBlock<|wSeq ?_
    obtain⟨y16,k,h⟩:=bd h
    refine rx (c1<|cp (oIdx u26 z58 k tm tm) (s2 u u)<|c1<|cw (oAlloc (id:=5) (ls:=Z58) ze58 zl58) tv<|c1<|cwn (oStA (n:=0) (fs:=aU) u u z58 tm tm) (s2 u u)<|.nil)<|pSeq<|wBlock<|wSeq ?_
    obtain⟨p,l,h⟩:=bd h
    refine rx (cr (oLdA (n:=0) (fs:=aU) (u:=⟨y16.May,y16.Res,y16.Pc⟩) u ⟨u,u,u,tv⟩ t58 tm) (s1 u)<|cC (dQ.ok l)<|c2<|.nil)<|pSeq ?_
    obtain⟨b,h⟩|⟨b,h⟩:=ik h
    ·refine wBT b.1 tm (s1 u)<|wSeq<|rx (c3<|.nil)<|pSeq<|wRet<|pBlkR<|pBlkR<|pThenR<|pThenR<|pBlkR<|pThenR ?_
     obtain rfl:=so h
     replace h:=i
     refine pThenR ?_
     obtain rfl:=so h
     exact pRn (.inl u) u u (.tmp u<|.tmp u<|.nil)
    ·refine wBF b.1 tm (s1 u)<|wSeq ?_
     obtain⟨q,m,h⟩:=bd h
     refine rx (c1<|cr (oLdA (n:=0) (fs:=aU) (u:=⟨y16.May,y16.Res,y16.Pc⟩) u ⟨u,u,u,tv⟩ t58 tm) (s1 u)<|cC (dJ.ok m)<|c2<|.nil)<|pSeq ?_
     obtain⟨c,h⟩|⟨c,h⟩:=ik h
     ·refine wBT c.1 tm (s1 u)<|wSeq<|rx (c3<|.nil)<|pSeq<|wRet<|pBlkR<|pBlkR<|pThenR<|pThenR<|pBlkR<|pThenR ?_
      obtain rfl:=so h
      replace h:=i
      refine pThenR ?_
      obtain rfl:=so h
      exact pRn (.inl u) u u (.tmp u<|.tmp u<|.nil)
     ·exact wBF c.1 tm (s1 u)<|wSkip<|pBlkN<|pBlkN<|pSeq<|rx (c2<|.nil)<|pDrop (.cons _ .slnil)<|pLoop (lW (ih _ h) ⟨u,u,u,tv⟩ u)
   ·exact wCF a.1 tm (s1 u)<|wExit<|pThenX<|pThenX<|pBlkX<|pJ0 (so h) tv u
  ·rintro rfl
   replace h:=i
   refine pSeq<|wSeq<|rx (c2<|.nil)<|pSeq<|wRet ?_
   obtain rfl:=so h
   exact pRn (.inl u) u u (.tmp u<|.tmp u<|.nil)
 ·refine wNF g.1 tm (s1 u)<|wSeq<|rx (c2<|.nil)<|pSeq<|wRet<|pThenR ?_
  obtain rfl:=so h
  exact pRn (.inl u) u u (.tmp u<|.tmp u<|.nil)
theorem dK.ok{b:Int} {r:Bool}(h:dK.f b=some r):FnA PP 148 [ki.sig b] (kB.sig r):=by
 refine fnIntro Tryz.func148 u (by kernel_rfl) fun H0 w0=>?_
 unfold dK.f at h
 refine wSeq<|rx (c1<|.nil)<|pSeq ?_
 obtain⟨g,h,c⟩:=bd h
 refine wJ1 (fun a=>a=g) (fun a=>[(2,.d (kB.sig a))]) (fun a=>[]) ?_ ?_
 ·obtain⟨e,h⟩|⟨e,h⟩:=ik h
  ·exact rx (c6<|c1<|.nil)<|pJ1 _ (so h) (sb u) u
  ·exact rx (c6<|c1<|.nil)<|pJ1 _ (so h) (sb u) u
 ·rintro a rfl
  replace h:=c
  refine wRet ?_
  obtain rfl:=so h
  exact pR1 (.inl u) u (.tmp u<|.nil)
theorem dh.ok{b:Int} {r:Bool}(h:dh.f b=some r):FnA PP 150 [ki.sig b] (kB.sig r):=by
 refine fnIntro Tryz.func150 u (by kernel_rfl) fun H0 w0=>?_
 unfold dh.f at h
 refine wSeq<|rx (c1<|.nil)<|pSeq ?_
 obtain⟨g,h,c⟩:=bd h
 refine wJ1 (fun a=>a=g) (fun a=>[(2,.d (kB.sig a))]) (fun a=>[]) ?_ ?_
 ·obtain⟨e,h⟩|⟨e,h⟩:=ik h
  ·exact rx (c6<|c1<|.nil)<|pJ1 _ (so h) (sb u) u
  ·exact rx (c6<|c1<|.nil)<|pJ1 _ (so h) (sb u) u
 ·rintro a rfl
  replace h:=c
  refine wRet ?_
  obtain rfl:=so h
  exact pR1 (.inl u) u (.tmp u<|.nil)
theorem dj.ok{b:Int} {a1:Int} {a2:Int} {r:Bool}(h:dj.f b a1 a2=some r):FnA PP 201 [ki.sig b,sP ki a1,sP ki a2] (kB.sig r):=by
 refine fnIntro Tryz.func201 u (by kernel_rfl) fun H0 w0=>?_
 unfold dj.f at h
 refine wSeq<|rx (c1<|.nil)<|pSeq ?_
 obtain⟨g,h,c⟩:=bd h
 refine wJ1 (fun a=>a=g) (fun a=>[(4,.d (kB.sig a))]) (fun a=>[]) ?_ ?_
 ·obtain⟨e,h⟩|⟨e,h⟩:=ik h
  ·exact rx (c8<|c1<|.nil)<|pJ1 _ (so h) (sb u) u
  ·exact rx (c8<|c1<|.nil)<|pJ1 _ (so h) (sb u) u
 ·rintro a rfl
  replace h:=c
  refine wRet ?_
  obtain rfl:=so h
  exact pR1 (.inl u) u (.tmp u<|.nil)
theorem dD.ok{a:Int} {a1:Int} {r:Int->Option Bool}(h:dD.f a a1=some r):FnA PP 200 [ki.sig a,ki.sig a1] ((sFun PP (rl1 ki kB r))):=by
 refine fnIntro Tryz.func200 u (by kernel_rfl) fun H0 w0=>?_
 unfold dD.f at h
 refine wSeq<|rx (c2<|cp (oAs cV) tv<|.nil)<|pSeq<|wSeq<|rx (cp (oMkF (Rl:=rl1 ki kB (fun b=>dj.f b a a1)) u b201 (rl1e dj.ok) (oc tm (oc tm o0))) (s2 u u)<|c1<|.nil)<|pSeq<|wRet ?_
 obtain rfl:=so h
 exact pR1 (.inl u) u (.tmp u<|.nil)
theorem fk.ok{r:List (Int×(Option (Int->Option Bool)))}(h:fk.f=some r):FnA PP 190 [] ((sMap ki (kFn PP (rl1 ki kB)) r)):=by
 refine fnIntro Tryz.func190 u (by kernel_rfl) fun H0 w0=>?_
 unfold fk.f at h
 refine wSeq<|rx (cp (oAs cV) tv<|.nil)<|pSeq<|wSeq<|rx (cp (oAs (oFn b200 (rl2sn (o:=(fun r=>(sFun PP (rl1 ki kB r)))) dD.ok))) tv<|.nil)<|pSeq<|wSeq ?_
 obtain⟨e,a,h⟩:=bd h
 obtain⟨g,b,h⟩:=bd h
 obtain⟨i,c,h⟩:=bd h
 obtain⟨j,d,h⟩:=bd h
 refine rx (cw (oMkMap (id:=2) (dk:=ki) (dv:=(kFn PP (rl1 ki kB)))) tv<|c1<|cp (oCallV u (rl2si (o:=(fun r=>(sFun PP (rl1 ki kB r)))) (f:=dD.f) a) tm (oc (cI (by decide)) (oc (cI (by decide)) o0))) (s1 u)<|cwn (oInsert (n:=0) (dk:=ki) (dv:=(kFn PP (rl1 ki kB))) u u239 mk3 u u tm (cI (by decide)) (oSome tm)) (s2 u u)<|c1<|cp (oCallV u (rl2si (o:=(fun r=>(sFun PP (rl1 ki kB r)))) (f:=dD.f) b) tm (oc (cI (by decide)) (oc (cI (by decide)) o0))) (s1 u)<|cwn (oInsert (n:=0) (dk:=ki) (dv:=(kFn PP (rl1 ki kB))) u u239 mk3 u u tm (cI (by decide)) (oSome tm)) (s2 u u)<|c1<|cp (oCallV u (rl2si (o:=(fun r=>(sFun PP (rl1 ki kB r)))) (f:=dD.f) c) tm (oc (cI (by decide)) (oc (cI (by decide)) o0))) (s1 u)<|cwn (oInsert (n:=0) (dk:=ki) (dv:=(kFn PP (rl1 ki kB))) u u239 mk3 u u tm (cI (by decide)) (oSome tm)) (s2 u u)<|c1<|cp (oCallV u (rl2si (o:=(fun r=>(sFun PP (rl1 ki kB r)))) (f:=dD.f) d) tm (oc (cI (by decide)) (oc (cI (by decide)) o0))) (s1 u)<|cwn (oInsert (n:=0) (dk:=ki) (dv:=(kFn PP (rl1 ki kB))) u u239 mk3 u u tm (cI (by decide)) (oSome tm)) (s2 u u)<|c2<|.nil)<|pSeq<|wFrzM (n:=0) (id:=2) 0 u u<|wRet ?_
 obtain rfl:=so h
 exact pR1 (.inl u) u (.tmp u<|.nil)
theorem eX.ok{o:Int} {a1:aE} {r:Bool}(h:eX.f o a1=some r):FnA PP 169 [ki.sig o,(kR aw).sig a1] (kB.sig r):=by
 refine fnIntro Tryz.func169 u (by kernel_rfl) fun H0 w0=>?_
 unfold eX.f at h
 refine wSeq<|rx (c2<|.nil)<|pSeq<|wSeq ?_
 obtain⟨l,h,b⟩:=bd h
 refine wJ1 (fun m=>m=l) (fun m=>[(0,.d (ki.sig o)),(3,.d (sP (kR aw) a1)),(14,.d (kB.sig m))]) (fun m=>[]) ?_ ?_
 ·obtain⟨v,h⟩|⟨v,h⟩:=ik h
  ·exact rx (c8<|.nil)<|pJ1 _ (so h) (sb u) u
  ·exact rx (c8<|.nil)<|pJ1 _ (so h) (sb u) u
 ·rintro m rfl
  replace h:=b
  obtain⟨n,h⟩|⟨n,h⟩:=ik h
  ·refine wBT n.1 tm (s1 u)<|wSeq<|rx (c1<|.nil)<|pSeq<|wRet<|pThenR ?_
   obtain rfl:=so h
   exact pR1 (.inl u) u (.tmp u<|.nil)
  ·refine wBF n.1 tm (s1 u)<|wSkip<|pSeq<|wSeq<|wSeq ?_
   obtain⟨x,w,h⟩:=bd h
   refine rdx hm (cC (fk.ok w)<|c2<|cp (oLookup u239 mk3 zv117 zFn u tm tm) (s2 u u)<|c4<|c1<|.nil)<|pSeq ?_
   obtain⟨l,h,b⟩:=bd h
   refine wJ1 (fun c=>c=l) (fun c=>[(0,.d (ki.sig o)),(3,.d (sP (kR aw) a1)),(38,.d (kB.sig c))]) (fun c=>[]) ?_ ?_
   ·obtain⟨a,h⟩|⟨a,h⟩:=ik h
    ·obtain⟨y14,g,h⟩:=bd h
     obtain⟨y15,i,h⟩:=bd h
     obtain⟨p,h⟩|⟨p,h⟩:=ik h
     ·exact rx (c4<|c1<|cgB a.1 u u (oCallV u (rl1i (f:=y14) i) (oGot g tm) (oc tm o0)) (s2 u u)<|c6<|csU u u<|csU u u<|csU u u<|c2<|.nil)<|pJ1 _ (so h) (sb u) u
     ·obtain⟨q,h⟩|⟨q,h⟩:=ik h
      ·exact rx (c4<|c1<|cgB a.1 u u (oCallV u (rl1i (f:=y14) i) (oGot g tm) (oc tm o0)) (s2 u u)<|c8<|c3<|.nil)<|pJ1 _ (so h) (sb u) u
      ·exact rx (c4<|c1<|cgB a.1 u u (oCallV u (rl1i (f:=y14) i) (oGot g tm) (oc tm o0)) (s2 u u)<|c8<|c3<|.nil)<|pJ1 _ (so h) (sb u) u
    ·obtain⟨s,h⟩|⟨s,h⟩:=ik h
     ·exact rx (c12<|c4<|c1<|.nil)<|pJ1 _ (so h) (sb u) u
     ·exact rx (c12<|c4<|c1<|.nil)<|pJ1 _ (so h) (sb u) u
   ·rintro c rfl
    replace h:=b
    obtain⟨j,h⟩|⟨j,h⟩:=ik h
    ·refine wBT j.1 tm (s1 u)<|wSeq<|rx (c1<|.nil)<|pSeq<|wRet<|pThenR ?_
     obtain rfl:=so h
     exact pR1 (.inl u) u (.tmp u<|.nil)
    ·refine wBF j.1 tm (s1 u)<|wSkip<|pSeq<|wSeq<|wSeq<|rx (c3<|.nil)<|pSeq ?_
     obtain⟨k,h⟩|⟨k,h⟩:=ik h
     ·refine wCT k.1 tm (s1 u) ?_
      obtain⟨l,h,b⟩:=bd h
      refine wJ1 (fun e=>e=l) (fun e=>[(4,.d (kB.sig e))]) (fun e=>[]) ?_ ?_
      ·obtain⟨t,h⟩|⟨t,h⟩:=ik h
       ·exact rx (c8<|c2<|.nil)<|pJ1 _ (so h) (sb u) u
       ·exact rx (c8<|c2<|.nil)<|pJ1 _ (so h) (sb u) u
      ·rintro e rfl
       replace h:=b
       refine wRet<|pThenR ?_
       obtain rfl:=so h
       exact pR1 (.inl u) u (.tmp u<|.nil)
     ·refine wCF k.1 tm (s1 u)<|wSkip<|pSeq<|wSeq<|rx (c4<|.nil)<|pSeq<|wRet ?_
      obtain rfl:=so h
      exact pR1 (.inl u) u (.tmp u<|.nil)
theorem aN.ok{c:List aE} {a1:aE->Option Bool} {r:Int}(h:aN.f c a1=some r):FnA PP 191 [(kL (kR aw)).sig c,(sFun PP (rl1 (kR aw) kB a1))] (ki.sig r):=by
 refine fnIntro Tryz.func191 u (by kernel_rfl) fun H0 w0=>?_
 unfold aN.f at h
 refine wSeq<|rx (c1<|.nil)<|pSeq<|wSeq<|wSeq<|rx (c3<|.nil)<|pSeq ?_
 obtain⟨k,h,e⟩:=bd h
 refine wK0 (.inr ()=k) ([]) ([]) ?_ ?_
 ·refine wBlock (wLoop ?_)
  refine lW (pc1 k (fun g=>[(0,.d ((kL (kR aw)).sig c)),(1,.d ((sFun PP (rl1 (kR aw) kB a1)))),(7,.d (ki.sig (c.length:Int))),(8,.d (ki.sig g))]) (fun g=>[]) (aN.l0.partial_correctness c a1) ?_ _ h) ⟨u,u,u,u,tv⟩ u
  clear h
  intro f' ih g h
  refine wSeq<|rx (c1<|.nil)<|pSeq<|wSeq ?_
  obtain⟨a,h⟩|⟨a,h⟩:=ik h
  ·refine wCT a.1 tm (s1 u)<|wSkip<|pSeq<|wSeq<|wBlock<|wSeq<|rx (c2<|.nil)<|pSeq<|wSeq ?_
   obtain⟨l,i,h⟩:=bd h
   obtain⟨m,j,h⟩:=bd h
   refine rx (c3<|cp (oIdx u31 z73 i tm tm) (s2 u u)<|c1<|cp (oCallV u (rl1i (f:=a1) j) tm (oc tm o0)) (s2 u u)<|.nil)<|pSeq ?_
   obtain⟨b,h⟩|⟨b,h⟩:=ik h
   ·refine wBT b.1 tm (s1 u)<|wSeq<|rx (c2<|.nil)<|pSeq<|wRet<|pBlkR<|pThenR<|pThenR<|pBlkR<|pThenR ?_
    obtain rfl:=so h
    replace h:=e
    refine pThenR ?_
    obtain rfl:=so h
    exact pR1 (.inl u) u (.tmp u<|.nil)
   ·exact wBF b.1 tm (s1 u)<|wSkip<|pBlkN<|pSeq<|rx (c2<|.nil)<|pLoop (lW (ih _ h) ⟨u,u,u,u,tv⟩ u)
  ·exact wCF a.1 tm (s1 u)<|wExit<|pThenX<|pThenX<|pBlkX<|pJ0 (so h) tv u
 ·rintro rfl
  replace h:=e
  refine pSeq<|wSeq<|rx (c1<|.nil)<|pSeq<|wRet ?_
  obtain rfl:=so h
  exact pR1 (.inl u) u (.tmp u<|.nil)
theorem bF.ok{a:List aE} {a1:aE->Option Bool} {r:Bool}(h:bF.f a a1=some r):FnA PP 170 [(kL (kR aw)).sig a,(sFun PP (rl1 (kR aw) kB a1))] (kB.sig r):=by
 refine fnIntro Tryz.func170 u (by kernel_rfl) fun H0 w0=>?_
 unfold bF.f at h
 refine wSeq<|rx (c1<|.nil)<|pSeq<|wSeq ?_
 obtain⟨c,b,h⟩:=bd h
 refine rx (c2<|cC (aN.ok b)<|c2<|.nil)<|pSeq<|wRet ?_
 obtain rfl:=so h
 exact pR1 (.inl u) u (.tmp u<|.nil)
theorem dR.ok{a:aE} {a1:aq} {r:Bool}(h:dR.f a a1=some r):FnA PP 168 [(kR aw).sig a,sP (kR aA) a1] (kB.sig r):=by
 refine fnIntro Tryz.func168 u (by kernel_rfl) fun H0 w0=>?_
 unfold dR.f at h
 refine wSeq<|rx (c2<|.nil)<|pSeq<|wSeq ?_
 obtain⟨c,b,h⟩:=bd h
 refine rx (c4<|cC (eX.ok b)<|c2<|.nil)<|pSeq<|wRet ?_
 obtain rfl:=so h
 exact pR1 (.inl u) u (.tmp u<|.nil)
theorem dq.ok{e:aq} {a1:List aE} {r:Bool}(h:dq.f e a1=some r):FnA PP 151 [(kR aA).sig e,(kL (kR aw)).sig a1] (kB.sig r):=by
 refine fnIntro Tryz.func151 u (by kernel_rfl) fun H0 w0=>?_
 unfold dq.f at h
 refine wSeq<|rx (c2<|.nil)<|pSeq<|wSeq<|rx (cp (oMkF (Rl:=rl1 (kR aw) kB (fun k=>dR.f k e)) u b168 (rl1e dR.ok) (oc tm o0)) (s1 u)<|c1<|.nil)<|pSeq ?_
 obtain⟨l,h,g⟩:=bd h
 refine wJ1 (fun a=>a=l) (fun a=>[(4,.d (kB.sig a))]) (fun a=>[]) ?_ ?_
 ·obtain⟨m,b,h⟩:=bd h
  obtain⟨i,h⟩|⟨i,h⟩:=ik h
  ·obtain⟨c,h⟩|⟨c,h⟩:=ik h
   ·obtain⟨n,j,h⟩:=bd h
    exact rx (c1<|cC (bE.ok b)<|c8<|c1<|cgB (dT c.1) u u (oCall u (bF.ok j) b170 (oc tm (oc tm o0))) (s2 u u)<|c3<|.nil)<|pJ1 _ (so h) (sb u) u
   ·exact rx (c1<|cC (bE.ok b)<|c12<|c1<|.nil)<|pJ1 _ (so h) (sb u) u
  ·exact rx (c1<|cC (bE.ok b)<|c12<|c1<|.nil)<|pJ1 _ (so h) (sb u) u
 ·rintro a rfl
  replace h:=g
  refine wRet ?_
  obtain rfl:=so h
  exact pR1 (.inl u) u (.tmp u<|.nil)
theorem aK.ok{c:List az} {a1:az->Option Bool} {r:Int}(h:aK.f c a1=some r):FnA PP 126 [(kL (kR am)).sig c,(sFun PP (rl1 (kR am) kB a1))] (ki.sig r):=by
 refine fnIntro Tryz.func126 u (by kernel_rfl) fun H0 w0=>?_
 unfold aK.f at h
 refine wSeq<|rx (c1<|.nil)<|pSeq<|wSeq<|wSeq<|rx (c3<|.nil)<|pSeq ?_
 obtain⟨k,h,e⟩:=bd h
 refine wK0 (.inr ()=k) ([]) ([]) ?_ ?_
 ·refine wBlock (wLoop ?_)
  refine lW (pc1 k (fun g=>[(0,.d ((kL (kR am)).sig c)),(1,.d ((sFun PP (rl1 (kR am) kB a1)))),(7,.d (ki.sig (c.length:Int))),(8,.d (ki.sig g))]) (fun g=>[]) (aK.l0.partial_correctness c a1) ?_ _ h) ⟨u,u,u,u,tv⟩ u
  clear h
  intro f' ih g h
  refine wSeq<|rx (c1<|.nil)<|pSeq<|wSeq ?_
  obtain⟨a,h⟩|⟨a,h⟩:=ik h
  ·refine wCT a.1 tm (s1 u)<|wSkip<|pSeq<|wSeq<|wBlock<|wSeq<|rx (c2<|.nil)<|pSeq<|wSeq ?_
   obtain⟨l,i,h⟩:=bd h
   obtain⟨m,j,h⟩:=bd h
   refine rx (c3<|cp (oIdx u32 z30 i tm tm) (s2 u u)<|c1<|cp (oCallV u (rl1i (f:=a1) j) tm (oc tm o0)) (s2 u u)<|.nil)<|pSeq ?_
   obtain⟨b,h⟩|⟨b,h⟩:=ik h
   ·refine wBT b.1 tm (s1 u)<|wSeq<|rx (c2<|.nil)<|pSeq<|wRet<|pBlkR<|pThenR<|pThenR<|pBlkR<|pThenR ?_
    obtain rfl:=so h
    replace h:=e
    refine pThenR ?_
    obtain rfl:=so h
    exact pR1 (.inl u) u (.tmp u<|.nil)
   ·exact wBF b.1 tm (s1 u)<|wSkip<|pBlkN<|pSeq<|rx (c2<|.nil)<|pLoop (lW (ih _ h) ⟨u,u,u,u,tv⟩ u)
  ·exact wCF a.1 tm (s1 u)<|wExit<|pThenX<|pThenX<|pBlkX<|pJ0 (so h) tv u
 ·rintro rfl
  replace h:=e
  refine pSeq<|wSeq<|rx (c1<|.nil)<|pSeq<|wRet ?_
  obtain rfl:=so h
  exact pR1 (.inl u) u (.tmp u<|.nil)
theorem bo.ok{a:List az} {a1:az->Option Bool} {r:Bool}(h:bo.f a a1=some r):FnA PP 152 [(kL (kR am)).sig a,(sFun PP (rl1 (kR am) kB a1))] (kB.sig r):=by
 refine fnIntro Tryz.func152 u (by kernel_rfl) fun H0 w0=>?_
 unfold bo.f at h
 refine wSeq<|rx (c1<|.nil)<|pSeq<|wSeq ?_
 obtain⟨c,b,h⟩:=bd h
 refine rx (c2<|cC (aK.ok b)<|c2<|.nil)<|pSeq<|wRet ?_
 obtain rfl:=so h
 exact pR1 (.inl u) u (.tmp u<|.nil)
theorem aR.ok{c:List av} {a1:av->Option Bool} {r:Int}(h:aR.f c a1=some r):FnA PP 171 [(kL (kR au)).sig c,(sFun PP (rl1 (kR au) kB a1))] (ki.sig r):=by
 refine fnIntro Tryz.func171 u (by kernel_rfl) fun H0 w0=>?_
 unfold aR.f at h
 refine wSeq<|rx (c1<|.nil)<|pSeq<|wSeq<|wSeq<|rx (c3<|.nil)<|pSeq ?_
 obtain⟨k,h,e⟩:=bd h
 refine wK0 (.inr ()=k) ([]) ([]) ?_ ?_
 ·refine wBlock (wLoop ?_)
  refine lW (pc1 k (fun g=>[(0,.d ((kL (kR au)).sig c)),(1,.d ((sFun PP (rl1 (kR au) kB a1)))),(7,.d (ki.sig (c.length:Int))),(8,.d (ki.sig g))]) (fun g=>[]) (aR.l0.partial_correctness c a1) ?_ _ h) ⟨u,u,u,u,tv⟩ u
  clear h
  intro f' ih g h
  refine wSeq<|rx (c1<|.nil)<|pSeq<|wSeq ?_
  obtain⟨a,h⟩|⟨a,h⟩:=ik h
  ·refine wCT a.1 tm (s1 u)<|wSkip<|pSeq<|wSeq<|wBlock<|wSeq<|rx (c2<|.nil)<|pSeq<|wSeq ?_
   obtain⟨l,i,h⟩:=bd h
   obtain⟨m,j,h⟩:=bd h
   refine rx (c3<|cp (oIdx u33 z88 i tm tm) (s2 u u)<|c1<|cp (oCallV u (rl1i (f:=a1) j) tm (oc tm o0)) (s2 u u)<|.nil)<|pSeq ?_
   obtain⟨b,h⟩|⟨b,h⟩:=ik h
   ·refine wBT b.1 tm (s1 u)<|wSeq<|rx (c2<|.nil)<|pSeq<|wRet<|pBlkR<|pThenR<|pThenR<|pBlkR<|pThenR ?_
    obtain rfl:=so h
    replace h:=e
    refine pThenR ?_
    obtain rfl:=so h
    exact pR1 (.inl u) u (.tmp u<|.nil)
   ·exact wBF b.1 tm (s1 u)<|wSkip<|pBlkN<|pSeq<|rx (c2<|.nil)<|pLoop (lW (ih _ h) ⟨u,u,u,u,tv⟩ u)
  ·exact wCF a.1 tm (s1 u)<|wExit<|pThenX<|pThenX<|pBlkX<|pJ0 (so h) tv u
 ·rintro rfl
  replace h:=e
  refine pSeq<|wSeq<|rx (c1<|.nil)<|pSeq<|wRet ?_
  obtain rfl:=so h
  exact pR1 (.inl u) u (.tmp u<|.nil)
theorem bt.ok{a:List av} {a1:av->Option Bool} {r:Bool}(h:bt.f a a1=some r):FnA PP 153 [(kL (kR au)).sig a,(sFun PP (rl1 (kR au) kB a1))] (kB.sig r):=by
 refine fnIntro Tryz.func153 u (by kernel_rfl) fun H0 w0=>?_
 unfold bt.f at h
 refine wSeq<|rx (c1<|.nil)<|pSeq<|wSeq ?_
 obtain⟨c,b,h⟩:=bd h
 refine rx (c2<|cC (aR.ok b)<|c2<|.nil)<|pSeq<|wRet ?_
 obtain rfl:=so h
 exact pR1 (.inl u) u (.tmp u<|.nil)
theorem bT.ok{b:Int} {a1:aq} {r:Bool}(h:bT.f b a1=some r):FnA PP 146 [ki.sig b,sP (kR aA) a1] (kB.sig r):=by
 refine fnIntro Tryz.func146 u (by kernel_rfl) fun H0 w0=>?_
 unfold bT.f at h
 refine wSeq<|rx (c1<|.nil)<|pSeq ?_
 obtain⟨g,h,c⟩:=bd h
 refine wJ1 (fun a=>a=g) (fun a=>[(3,.d (kB.sig a))]) (fun a=>[]) ?_ ?_
 ·obtain⟨e,h⟩|⟨e,h⟩:=ik h
  ·exact rx (c8<|c2<|.nil)<|pJ1 _ (so h) (sb u) u
  ·exact rx (c8<|c2<|.nil)<|pJ1 _ (so h) (sb u) u
 ·rintro a rfl
  replace h:=c
  refine wRet ?_
  obtain rfl:=so h
  exact pR1 (.inl u) u (.tmp u<|.nil)
theorem dL.ok{e:az} {a1:Option (Int->Option Bool)} {r:Bool}(h:dL.f e a1=some r):FnA PP 147 [(kR am).sig e,sP (kFn PP (rl1 ki kB)) a1] (kB.sig r):=by
 refine fnIntro Tryz.func147 u (by kernel_rfl) fun H0 w0=>?_
 unfold dL.f at h
 refine wSeq<|rx (c2<|.nil)<|pSeq ?_
 obtain⟨k,h,g⟩:=bd h
 refine wJ1 (fun a=>a=k) (fun a=>[(3,.d (kB.sig a))]) (fun a=>[]) ?_ ?_
 ·obtain⟨m,b,h⟩:=bd h
  obtain⟨c,h⟩|⟨c,h⟩:=ik h
  ·exact rx (c2<|cC (dK.ok b)<|c8<|c1<|.nil)<|pJ1 _ (so h) (sb u) u
  ·obtain⟨l,i,h⟩:=bd h
   obtain⟨n,j,h⟩:=bd h
   exact rx (c2<|cC (dK.ok b)<|c4<|c1<|cgB (nb c.1) u u (oCallV u (rl1i (f:=l) j) (oGot i tm) (oc tm o0)) (s2 u u)<|c3<|.nil)<|pJ1 _ (so h) (sb u) u
 ·rintro a rfl
  replace h:=g
  refine wRet ?_
  obtain rfl:=so h
  exact pR1 (.inl u) u (.tmp u<|.nil)
theorem dW.ok{p:av} {a1:Option (Int->Option Bool)} {r:Bool}(h:dW.f p a1=some r):FnA PP 149 [(kR au).sig p,sP (kFn PP (rl1 ki kB)) a1] (kB.sig r):=by
 refine fnIntro Tryz.func149 u (by kernel_rfl) fun H0 w0=>?_
 unfold dW.f at h
 refine wSeq<|rx (c2<|.nil)<|pSeq ?_
 obtain⟨s,h,q⟩:=bd h
 refine wJ1 (fun g=>g=s) (fun g=>[(3,.d (kB.sig g))]) (fun g=>[]) ?_ ?_
 ·obtain⟨c,a,h⟩:=bd h
  obtain⟨t,b,h⟩:=bd h
  obtain⟨l,h⟩|⟨l,h⟩:=ik h
  ·exact rx (c3<|cp (oCallV u (rl1i (f:=c) b) (oGot a tm) (oc tm o0)) (s2 u u)<|c6<|csU u u<|csU u u<|csU u u<|csU u u<|c6<|csU u u<|csU u u<|csU u u<|csU u u<|c3<|.nil)<|pJ1 _ (so h) (sb u) u
  ·obtain⟨e,h⟩|⟨e,h⟩:=ik h
   ·obtain⟨y16,i,h⟩:=bd h
    obtain⟨m,h⟩|⟨m,h⟩:=ik h
    ·exact rx (c3<|cp (oCallV u (rl1i (f:=c) b) (oGot a tm) (oc tm o0)) (s2 u u)<|c8<|cgB e.1 u u (oCall u (dK.ok i) b148 (oc tm o0)) (s1 u)<|c6<|c1<|csU u u<|csU u u<|csU u u<|csU u u<|c3<|.nil)<|pJ1 _ (so h) (sb u) u
    ·obtain⟨j,h⟩|⟨j,h⟩:=ik h
     ·obtain⟨v,n,h⟩:=bd h
      exact rx (c3<|cp (oCallV u (rl1i (f:=c) b) (oGot a tm) (oc tm o0)) (s2 u u)<|c8<|cgB e.1 u u (oCall u (dK.ok i) b148 (oc tm o0)) (s1 u)<|c8<|c1<|cgB j.1 u u (oCall u (dh.ok n) b150 (oc tm o0)) (s1 u)<|c4<|.nil)<|pJ1 _ (so h) (sb u) u
     ·exact rx (c3<|cp (oCallV u (rl1i (f:=c) b) (oGot a tm) (oc tm o0)) (s2 u u)<|c8<|cgB e.1 u u (oCall u (dK.ok i) b148 (oc tm o0)) (s1 u)<|c12<|c2<|.nil)<|pJ1 _ (so h) (sb u) u
   ·obtain⟨k,h⟩|⟨k,h⟩:=ik h
    ·obtain⟨w,o,h⟩:=bd h
     exact rx (c3<|cp (oCallV u (rl1i (f:=c) b) (oGot a tm) (oc tm o0)) (s2 u u)<|c12<|c6<|cgB k.1 u u (oCall u (dh.ok o) b150 (oc tm o0)) (s1 u)<|c4<|.nil)<|pJ1 _ (so h) (sb u) u
    ·exact rx (c3<|cp (oCallV u (rl1i (f:=c) b) (oGot a tm) (oc tm o0)) (s2 u u)<|c12<|c8<|c3<|.nil)<|pJ1 _ (so h) (sb u) u
 ·rintro g rfl
  replace h:=q
  refine wRet ?_
  obtain rfl:=so h
  exact pR1 (.inl u) u (.tmp u<|.nil)
theorem dw.ok{m:aq} {a1:ah} {r:Bool}(h:dw.f m a1=some r):FnA PP 124 [(kR aA).sig m,(kR ap).sig a1] (kB.sig r):=by
 refine fnIntro Tryz.func124 u (by kernel_rfl) fun H0 w0=>?_
 unfold dw.f at h
 refine wSeq<|rx (c3<|.nil)<|pSeq<|wSeq<|rx (cp (oMkF (Rl:=rl1 ki kB (fun a=>bT.f a m)) u b146 (rl1e bT.ok) (oc tm o0)) (s1 u)<|cw (oAlloc (id:=5) (ls:=[.d (kFn PP (rl1 ki kB)) none]) ze117 (fun g=>⟨[.nilFunc],_,u,zFn g.H,u⟩)) tv<|cwn (oSt (n:=0) (k:=0) u u u u z117 tm (oSome tm)) (s2 u u)<|.nil)<|pSeq<|wSeq<|wFrzV 5 (n:=0) (id:=5) u u u<|rx (cp (oMkF (Rl:=rl1 (kR am) kB (fun a=>dL.f a (some (fun a=>bT.f a m)))) u b147 (rl1e dL.ok) (oc tm o0)) (s1 u)<|c1<|.nil)<|pSeq<|wSeq<|rx (cp (oMkF (Rl:=rl1 (kR au) kB (fun a=>dW.f a (some (fun a=>bT.f a m)))) u b149 (rl1e dW.ok) (oc tm o0)) (s1 u)<|c1<|.nil)<|pSeq ?_
 obtain⟨z,h,v⟩:=bd h
 refine wJ1 (fun w=>w=z) (fun w=>[(2,.d (sP (kR aA) m)),(3,.d (sP (kR ap) a1)),(5,.d (sP (kFn PP (rl1 ki kB)) (some (fun a=>bT.f a m)))),(6,.d ((sFun PP (rl1 (kR am) kB (fun a=>dL.f a (some (fun a=>bT.f a m))))))),(7,.d ((sFun PP (rl1 (kR au) kB (fun a=>dW.f a (some (fun a=>bT.f a m))))))),(8,.d (kB.sig w))]) (fun w=>[]) ?_ ?_
 ·obtain⟨C,h⟩|⟨C,h⟩:=ik h
  ·obtain⟨D,h⟩|⟨D,h⟩:=ik h
   ·exact rx (c12<|c4<|c1<|.nil)<|pJ1 _ (so h) (sb u) u
   ·exact rx (c12<|c4<|c1<|.nil)<|pJ1 _ (so h) (sb u) u
  ·exact rx (c12<|c4<|c1<|.nil)<|pJ1 _ (so h) (sb u) u
 ·rintro w rfl
  replace h:=v
  obtain⟨z,h,v⟩:=bd h
  refine wJ1 (fun p=>p=z) (fun p=>[(4,.d (kB.sig p))]) (fun p=>[]) ?_ ?_
  ·obtain⟨E,b,h⟩:=bd h
   obtain⟨c,h⟩|⟨c,h⟩:=ik h
   ·obtain⟨F,e,h⟩:=bd h
    obtain⟨i,h⟩|⟨i,h⟩:=ik h
    ·obtain⟨q,j,h⟩:=bd h
     obtain⟨G,l,h⟩:=bd h
     obtain⟨A,h⟩|⟨A,h⟩:=ik h
     ·obtain⟨o,h⟩|⟨o,h⟩:=ik h
      ·obtain⟨I,s,h⟩:=bd h
       obtain⟨t,h⟩|⟨t,h⟩:=ik h
       ·obtain⟨J,x,h⟩:=bd h
        obtain⟨y,h⟩|⟨y,h⟩:=ik h
        ·obtain⟨K,B,h⟩:=bd h
         exact rx (c3<|cC (dq.ok b)<|c4<|cgB c.1 u u (oCall u (dh.ok e) b150 (oc tm o0)) (s1 u)<|c6<|cgB i.1 u u (oCallV u (rl1i (f:=q) l) (oGot j tm) (oc tm o0)) (s2 u u)<|c8<|cgB o.1 u u (oCall u (bo.ok s) b152 (oc tm (oc tm o0))) (s2 u u)<|c6<|cgB t.1 u u (oCall u (bt.ok x) b153 (oc tm (oc tm o0))) (s2 u u)<|c6<|cgB y.1 u u (oCall u (bo.ok B) b152 (oc tm (oc tm o0))) (s2 u u)<|c3<|.nil)<|pJ1 _ (so h) (sb u) u
        ·exact rx (c3<|cC (dq.ok b)<|c4<|cgB c.1 u u (oCall u (dh.ok e) b150 (oc tm o0)) (s1 u)<|c6<|cgB i.1 u u (oCallV u (rl1i (f:=q) l) (oGot j tm) (oc tm o0)) (s2 u u)<|c8<|cgB o.1 u u (oCall u (bo.ok s) b152 (oc tm (oc tm o0))) (s2 u u)<|c6<|cgB t.1 u u (oCall u (bt.ok x) b153 (oc tm (oc tm o0))) (s2 u u)<|c8<|c2<|.nil)<|pJ1 _ (so h) (sb u) u
       ·exact rx (c3<|cC (dq.ok b)<|c4<|cgB c.1 u u (oCall u (dh.ok e) b150 (oc tm o0)) (s1 u)<|c6<|cgB i.1 u u (oCallV u (rl1i (f:=q) l) (oGot j tm) (oc tm o0)) (s2 u u)<|c8<|cgB o.1 u u (oCall u (bo.ok s) b152 (oc tm (oc tm o0))) (s2 u u)<|c12<|c4<|c1<|.nil)<|pJ1 _ (so h) (sb u) u
      ·exact rx (c3<|cC (dq.ok b)<|c4<|cgB c.1 u u (oCall u (dh.ok e) b150 (oc tm o0)) (s1 u)<|c6<|cgB i.1 u u (oCallV u (rl1i (f:=q) l) (oGot j tm) (oc tm o0)) (s2 u u)<|c12<|c12<|c2<|.nil)<|pJ1 _ (so h) (sb u) u
     ·exact rx (c3<|cC (dq.ok b)<|c4<|cgB c.1 u u (oCall u (dh.ok e) b150 (oc tm o0)) (s1 u)<|c6<|cgB i.1 u u (oCallV u (rl1i (f:=q) l) (oGot j tm) (oc tm o0)) (s2 u u)<|c12<|c12<|c2<|.nil)<|pJ1 _ (so h) (sb u) u
    ·exact rx (c3<|cC (dq.ok b)<|c4<|cgB c.1 u u (oCall u (dh.ok e) b150 (oc tm o0)) (s1 u)<|c12<|c12<|c8<|c1<|.nil)<|pJ1 _ (so h) (sb u) u
   ·exact rx (c3<|cC (dq.ok b)<|c12<|c12<|c12<|c2<|.nil)<|pJ1 _ (so h) (sb u) u
  ·rintro p rfl
   replace h:=v
   refine wRet ?_
   obtain rfl:=so h
   exact pR1 (.inl u) u (.tmp u<|.nil)
theorem bA.ok{b:Bool} {z:Pn⊕Unit}(h:bA.f b=some z):FnZ PP 155 [.d (kB.sig b)] [] [] 199 (fun(r:Unit)=>.d (tup [])) (fun(r:Unit)=>[]) z:=by
 refine fnIntroZ Tryz.func155 u (by kernel_rfl) fun X H0 w0 pv=>?_
 unfold bA.f at h
 refine wSeq<|rx (c2<|.nil)<|pSeq ?_
 obtain⟨a,h⟩|⟨a,h⟩:=ik h
 ·refine wBT a.1 tm (s1 u)<|wT0<|wTk 0 1 (cp (oMkX 3 cb199 (cI (by decide))) tv<|.nil) (by kernel_rfl) u<|wTx (Γp:=[]) 1 u (oPanic tm) u u (s1 u) tv ?_
  obtain rfl:=so h
  exact pX
 ·refine wBF a.1 tm (s1 u)<|wSkip ?_
  obtain rfl:=so h
  exact pZ<|pSn [] u u (.inr u) u u (.nil)
theorem bA.okR{a:Bool} {r:Unit}(h:bA.f a=some (.inr r)):FnS PP 155 [.d (kB.sig a)] [] [] (.d (tup [])) []:=bA.ok h
theorem bA.okP{a:Bool} {n:Pn}(h:bA.f a=some (.inl n)):FnX PP 155 [.d (kB.sig a)] [] (pvv 199 n):=bA.ok h
theorem bb.ok{b:List Int} {a1:Int} {r:Int}(h:bb.f b a1=some r):FnA PP 172 [(kL (kI .u32)).sig b,(kI .u32).sig a1] (ki.sig r):=by
 refine fnIntro Tryz.func172 u (by kernel_rfl) fun H0 w0=>?_
 unfold bb.f at h
 refine wSeq<|rx (c1<|.nil)<|pSeq<|wSeq<|wSeq<|rx (c3<|.nil)<|pSeq ?_
 obtain⟨i,h,e⟩:=bd h
 refine wK0 (.inr ()=i) ([]) ([]) ?_ ?_
 ·refine wBlock (wLoop ?_)
  refine lW (pc1 i (fun g=>[(0,.d ((kL (kI .u32)).sig b)),(1,.d ((kI .u32).sig a1)),(7,.d (ki.sig (b.length:Int))),(8,.d (ki.sig g))]) (fun g=>[]) (bb.l0.partial_correctness b a1) ?_ _ h) ⟨u,u,u,u,tv⟩ u
  clear h
  intro f' ih g h
  refine wSeq<|rx (c1<|.nil)<|pSeq<|wSeq ?_
  obtain⟨c,h⟩|⟨c,h⟩:=ik h
  ·refine wCT c.1 tm (s1 u)<|wSkip<|pSeq<|wSeq<|wBlock<|wSeq<|rx (c2<|.nil)<|pSeq<|wSeq ?_
   obtain⟨k,j,h⟩:=bd h
   refine rx (c3<|cp (oIdx u23 z70 j tm tm) (s2 u u)<|c2<|.nil)<|pSeq ?_
   obtain⟨a,h⟩|⟨a,h⟩:=ik h
   ·refine wCT a.1 tm (s1 u)<|wSeq<|rx (c2<|.nil)<|pSeq<|wRet<|pBlkR<|pThenR<|pThenR<|pBlkR<|pThenR ?_
    obtain rfl:=so h
    replace h:=e
    refine pThenR ?_
    obtain rfl:=so h
    exact pR1 (.inl u) u (.tmp u<|.nil)
   ·exact wCF a.1 tm (s1 u)<|wSkip<|pBlkN<|pSeq<|rx (c2<|.nil)<|pLoop (lW (ih _ h) ⟨u,u,u,u,tv⟩ u)
  ·exact wCF c.1 tm (s1 u)<|wExit<|pThenX<|pThenX<|pBlkX<|pJ0 (so h) tv u
 ·rintro rfl
  replace h:=e
  refine pSeq<|wSeq<|rx (c1<|.nil)<|pSeq<|wRet ?_
  obtain rfl:=so h
  exact pR1 (.inl u) u (.tmp u<|.nil)
theorem cx.ok{b:aq} {r:Int×Int}(h:cx.f b=some r):FnA PP 156 [(kR aA).sig b] (tup [ki.sig r.1,ki.sig r.2]):=by
 refine fnIntro Tryz.func156 u (by kernel_rfl) fun H0 w0=>?_
 unfold cx.f at h
 refine wSeq<|rx (c3<|.nil)<|pSeq<|wSeq<|wSeq ?_
 obtain⟨i,c,h⟩:=bd h
 refine rx (c1<|cp (oCall u (cE.ok c) b26 (oc tm (oc (cN (d:=ki)) o0))) (s1 u)<|c1<|.nil)<|pSeq<|wSeq<|rx (c2<|.nil)<|pSeq ?_
 obtain⟨a,h⟩|⟨a,h⟩:=ik h
 ·refine wNT a.1 tm (s1 u)<|wSkip<|pSeq<|wSeq ?_
  obtain⟨e,h⟩:=ib h
  refine rx (c3<|cp (oShl e (cI (by decide)) tm) (s1 u)<|c2<|.nil)<|pSeq<|wSeq ?_
  obtain⟨j,g,h⟩:=bd h
  refine rx (c3<|cC (bb.ok g)<|c2<|.nil)<|pSeq<|wRet ?_
  obtain rfl:=so h
  exact pRn (.inl u) u u (.tmp u<|.tmp u<|.nil)
 ·refine wNF a.1 tm (s1 u)<|wSeq<|rx (c3<|.nil)<|pSeq<|wRet<|pThenR ?_
  obtain rfl:=so h
  exact pRn (.inl u) u u (.tmp u<|.tmp u<|.nil)
theorem dy.ok{a:al} {r:al}(h:dy.f a=some r):FnS PP 173 [.p 70000 0] [.box 70000 204 (L204 a)] [70000] (.d (tup [])) [.box 70000 204 (L204 r)]:=by
 refine fnIntroS Tryz.func173 u (by kernel_rfl) fun X H0 w0 pv=>?_
 unfold dy.f at h
 refine wSkip ?_
 obtain rfl:=so h
 exact pSn [0] u u (.inr u) u u (.nil)
theorem ew.ok{a:al} {r:al}(h:ew.f a=some r):FnS PP 174 [.p 70000 0] [.box 70000 204 (L204 a)] [70000] (.d (tup [])) [.box 70000 204 (L204 r)]:=by
 refine fnIntroS Tryz.func174 u (by kernel_rfl) fun X H0 w0 pv=>?_
 unfold ew.f at h
 refine rdx hm (c4<|c1<|cr (oLdK (n:=0) (k:=10) u u (by kernel_rfl) t3 tm) (s1 u)<|c2<|cp (oIdxA 0 0 u u202 z3 u tm (cI (by decide))) (s1 u)<|cwn (oStK (n:=0) (k:=21) u u u (by kernel_rfl) z3 tm tm) (s2 u u)<|.nil) ?_
 obtain rfl:=so h
 exact pSn [0] u u (.inr u) u u (.nil)
theorem bG.ok{a:al} {a1:Int} {z:Pn⊕(al×av)}(h:bG.f a a1=some z):FnZ PP 192 [.p 70000 0,.d (ki.sig a1)] [.box 70000 204 (L204 a)] [70000] 199 (fun(r:al×av)=>.d ((kR au).sig r.2)) (fun(r:al×av)=>[.box 70000 204 (L204 r.1)]) z:=by
 refine fnIntroZ Tryz.func192 u (by kernel_rfl) fun X H0 w0 pv=>?_
 unfold bG.f at h
 refine wSeq<|rx (cw (oAlloc (id:=4) (ls:=Z88) ze88 zl88) tv<|.nil)<|pSeq<|wSeq<|rx (c4<|cr (oLdK (n:=1) (k:=6) u u (by kernel_rfl) t33 tm) (s1 u)<|c4<|c1<|.nil)<|pSeq ?_
 obtain⟨q,h,b⟩:=bd h
 refine wJ0 (.inr ()=q) ([(0,.p 70000 0),(4,.p 4 0),(5,.d (ki.sig (IntKind.i64.wrap ((IntKind.i64.wrap ((a.s_.Stack.length:Int)-1))-a1))))]) ([.box 4 88 [.d kB false,.d ki 0,.d ki 0],.box 70000 204 (L204 a)]) ?_ ?_
 ·obtain⟨c,h⟩|⟨c,h⟩:=ik h
  ·obtain⟨s,j,h⟩:=bd h
   refine wT0<|wTk 0 14 (c6<|c1<|crgB (dT c.1) u u (oLdK (n:=1) (k:=6) u u (by kernel_rfl) t33 tm) (s1 u)<|c1<|cgB (dT c.1) u u (oIdx u33 z88 j tm tm) (s2 u u)<|c4<|.nil) (by kernel_rfl) u ?_
   obtain⟨m,e,h⟩:=bd h
   rcases m with t|v
   ·refine wTx (Γp:=[]) 14 u (oCallX (rest:=[.box 4 88 [.d kB false,.d ki 0,.d ki 0],.box 70000 204 (L204 a)]) [] [] [0,1] u (bA.okP e) b155 (oE1 tm oE0) u u) u u (s1 u) tv<|pThenP ?_
    obtain rfl:=so h
    replace h:=b
    obtain rfl:=so h
    exact pX
   ·exact wTe 14 (cm (oCallS (rest:=[.box 4 88 [.d kB false,.d ki 0,.d ki 0],.box 70000 204 (L204 a)]) (R':=[.box 4 88 [.d kB false,.d ki 0,.d ki 0],.box 70000 204 (L204 a)]) (out':=.d (tup [])) [] [] [] [0,1] [0,1] u (bA.okR e) b155 (oE1 tm oE0) u u u u u u u u) (s1 u)<|.nil) (by kernel_rfl)<|pJ0 (so h) (sb u) u
  ·refine wT0<|wTk 0 14 (c12<|c2<|.nil) (by kernel_rfl) u ?_
   obtain⟨o,g,h⟩:=bd h
   rcases o with w|y16
   ·refine wTx (Γp:=[]) 14 u (oCallX (rest:=[.box 4 88 [.d kB false,.d ki 0,.d ki 0],.box 70000 204 (L204 a)]) [] [] [0,1] u (bA.okP g) b155 (oE1 tm oE0) u u) u u (s1 u) tv<|pThenP ?_
    obtain rfl:=so h
    replace h:=b
    obtain rfl:=so h
    exact pX
   ·exact wTe 14 (cm (oCallS (rest:=[.box 4 88 [.d kB false,.d ki 0,.d ki 0],.box 70000 204 (L204 a)]) (R':=[.box 4 88 [.d kB false,.d ki 0,.d ki 0],.box 70000 204 (L204 a)]) (out':=.d (tup [])) [] [] [] [0,1] [0,1] u (bA.okR g) b155 (oE1 tm oE0) u u u u u u u u) (s1 u)<|.nil) (by kernel_rfl)<|pJ0 (so h) (sb u) u
 ·rintro rfl
  replace h:=b
  refine wSeq ?_
  obtain⟨i,l,h⟩:=bd h
  refine rx (c4<|cr (oLdK (n:=1) (k:=6) u u (by kernel_rfl) t33 tm) (s1 u)<|c1<|cp (oIdx u33 z88 l tm tm) (s2 u u)<|c1<|cwn (oStA (n:=0) (fs:=au) u u z88 tm tm) (s2 u u)<|.nil)<|pSeq<|wRet ?_
  obtain rfl:=so h
  exact pZ<|pS1 [1] u u (.inl u) u (.box (n:=0) (fs:=au) (u:=⟨i.Ret,i.V,i.L⟩) u u ⟨u,u,u,tv⟩ t88<|.nil)
theorem bG.okR{a:al} {a1:Int} {r:al×av}(h:bG.f a a1=some (.inr r)):FnS PP 192 [.p 70000 0,.d (ki.sig a1)] [.box 70000 204 (L204 a)] [70000] (.d ((kR au).sig r.2)) [.box 70000 204 (L204 r.1)]:=bG.ok h
theorem bG.okP{a:al} {a1:Int} {n:Pn}(h:bG.f a a1=some (.inl n)):FnX PP 192 [.p 70000 0,.d (ki.sig a1)] [.box 70000 204 (L204 a)] (pvv 199 n):=bG.ok h
theorem bh.ok{c:al} {z:Pn⊕al}(h:bh.f c=some z):FnZ PP 175 [.p 70000 0] [.box 70000 204 (L204 c)] [70000] 199 (fun(r:al)=>.d (tup [])) (fun(r:al)=>[.box 70000 204 (L204 r)]) z:=by
 refine fnIntroZ Tryz.func175 u (by kernel_rfl) fun X H0 w0 pv=>?_
 unfold bh.f at h
 refine wSeq<|wT0<|wTk 0 2 (c2<|.nil) (by kernel_rfl) u ?_
 obtain⟨e,a,h⟩:=bd h
 rcases e with g|b
 ·refine wTx (Γp:=[]) 2 u (oCallX (rest:=[]) [(70000,70000)] [0] [] u (bG.okP a) b192 (oE1 tm (oE1 (cI (by decide)) oE0)) u u) u u (s1 u) tv<|pThenP ?_
  obtain rfl:=so h
  exact pX
 ·refine wTe 2 (cm (oCallS (rest:=[]) (R':=[.box 70000 204 (L204 b.1)]) (out':=.d ((kR au).sig b.2)) [(70000,70000)] [] [0] [] [0] u (bG.okR a) b192 (oE1 tm (oE1 (cI (by decide)) oE0)) u u u u u u u u) (s1 u)<|c2<|cwn (oStPK (n:=0) (k:=11) (m:=3) (d:=(kR au)) (u:=b.2) pt88 u u (by kernel_rfl) z88 tm tm) (s2 u u)<|.nil) (by kernel_rfl)<|pSeq<|wSeq<|rx (c4<|c1<|cr (oLdK (n:=0) (k:=6) u u (by kernel_rfl) t33 tm) (s1 u)<|c4<|cwn (oStK (n:=0) (k:=20) u u u (by kernel_rfl) z3 tm tm) (s2 u u)<|.nil)<|pSeq<|rdx hm (c4<|c1<|cr (oLdK (n:=0) (k:=13) u u (by kernel_rfl) t3 tm) (s1 u)<|c2<|cp (oIdxA 0 0 u u202 z3 u tm (cI (by decide))) (s1 u)<|cwn (oStK (n:=0) (k:=21) u u u (by kernel_rfl) z3 tm tm) (s2 u u)<|.nil) ?_
  obtain rfl:=so h
  exact pZ<|pSn [0] u u (.inr u) u u (.nil)
theorem bh.okR{a:al} {r:al}(h:bh.f a=some (.inr r)):FnS PP 175 [.p 70000 0] [.box 70000 204 (L204 a)] [70000] (.d (tup [])) [.box 70000 204 (L204 r)]:=bh.ok h
theorem bh.okP{a:al} {n:Pn}(h:bh.f a=some (.inl n)):FnX PP 175 [.p 70000 0] [.box 70000 204 (L204 a)] (pvv 199 n):=bh.ok h
theorem bH.ok{e:al} {z:Pn⊕al}(h:bH.f e=some z):FnZ PP 176 [.p 70000 0] [.box 70000 204 (L204 e)] [70000] 199 (fun(r:al)=>.d (tup [])) (fun(r:al)=>[.box 70000 204 (L204 r)]) z:=by
 refine fnIntroZ Tryz.func176 u (by kernel_rfl) fun X H0 w0 pv=>?_
 unfold bH.f at h
 refine wSeq<|wT0<|wTk 0 1 (c1<|.nil) (by kernel_rfl) u ?_
 obtain⟨g,a,h⟩:=bd h
 rcases g with j|i
 ·refine wTx (Γp:=[]) 1 u (oCallX (rest:=[]) [(70000,70000)] [0] [] u (bh.okP a) b175 (oE1 tm oE0) u u) u u (s1 u) tv<|pThenP ?_
  obtain rfl:=so h
  exact pX
 ·refine wTe 1 (cm (oCallS (rest:=[]) (R':=[.box 70000 204 (L204 i)]) (out':=.d (tup [])) [(70000,70000)] [] [0] [] [0] u (bh.okR a) b175 (oE1 tm oE0) u u u u u u u u) (s1 u)<|.nil) (by kernel_rfl)<|pSeq<|wSeq<|wT0<|wTk 0 2 (c2<|.nil) (by kernel_rfl) u ?_
  obtain⟨z4,b,h⟩:=bd h
  rcases z4 with l|c
  ·refine wTx (Γp:=[]) 2 u (oCallX (rest:=[]) [(70000,70000)] [0] [] u (bG.okP b) b192 (oE1 tm (oE1 (cI (by decide)) oE0)) u u) u u (s1 u) tv<|pThenP ?_
   obtain rfl:=so h
   exact pX
  ·refine wTe 2 (cm (oCallS (rest:=[]) (R':=[.box 70000 204 (L204 c.1)]) (out':=.d ((kR au).sig c.2)) [(70000,70000)] [] [0] [] [0] u (bG.okR b) b192 (oE1 tm (oE1 (cI (by decide)) oE0)) u u u u u u u u) (s1 u)<|c2<|cwn (oStPK (n:=0) (k:=14) (m:=3) (d:=(kR au)) (u:=c.2) pt88 u u (by kernel_rfl) z88 tm tm) (s2 u u)<|.nil) (by kernel_rfl)<|pSeq<|wSeq<|rx (c3<|cr (oLdK (n:=0) (k:=20) u u (by kernel_rfl) t3 tm) (s1 u)<|c3<|cwn (oStK (n:=0) (k:=20) u u u (by kernel_rfl) z3 tm tm) (s2 u u)<|.nil)<|pSeq<|rdx hm (c4<|c1<|cr (oLdK (n:=0) (k:=16) u u (by kernel_rfl) t3 tm) (s1 u)<|c2<|cp (oIdxA 1 1 u u202 z3 u tm (cI (by decide))) (s1 u)<|cwn (oStK (n:=0) (k:=22) u u u (by kernel_rfl) z3 tm tm) (s2 u u)<|.nil) ?_
   obtain rfl:=so h
   exact pZ<|pSn [0] u u (.inr u) u u (.nil)
theorem bH.okR{a:al} {r:al}(h:bH.f a=some (.inr r)):FnS PP 176 [.p 70000 0] [.box 70000 204 (L204 a)] [70000] (.d (tup [])) [.box 70000 204 (L204 r)]:=bH.ok h
theorem bH.okP{a:al} {n:Pn}(h:bH.f a=some (.inl n)):FnX PP 176 [.p 70000 0] [.box 70000 204 (L204 a)] (pvv 199 n):=bH.ok h
theorem bK.ok{a:al} {z:Pn⊕(al×Int)}(h:bK.f a=some z):FnZ PP 193 [.p 70000 0] [.box 70000 204 (L204 a)] [70000] 199 (fun(r:al×Int)=>.d (ki.sig r.2)) (fun(r:al×Int)=>[.box 70000 204 (L204 r.1)]) z:=by
 refine fnIntroZ Tryz.func193 u (by kernel_rfl) fun X H0 w0 pv=>?_
 unfold bK.f at h
 refine wSeq<|rx (c1<|.nil)<|pSeq ?_
 obtain⟨j,h,c⟩:=bd h
 refine wJ0 (.inr ()=j) ([(0,.p 70000 0)]) ([.box 70000 204 (L204 a)]) ?_ ?_
 ·obtain⟨b,h⟩|⟨b,h⟩:=ik h
  ·obtain⟨z9,g,h⟩:=bd h
   rcases z9 with l|m
   ·refine rgXD (Γp:=[]) hm (c4<|cr (oLdK (n:=0) (k:=12) u u (by kernel_rfl) t3 tm) (s1 u)<|c6<|crgB (dT b.1) u u (oLdK (n:=0) (k:=12) u u (by kernel_rfl) t3 tm) (s1 u)<|c4<|crgB (dT b.1) u u (oLdK (n:=0) (k:=5) u u (by kernel_rfl) t32 tm) (s1 u)<|c3<|cb (oCallX (rest:=[.box 70000 204 (L204 a)]) [] [] [0] u (bA.okP g) b155 (oE1 tm oE0) u u) (s1 u)<|.nil) (by kernel_rfl) (by kernel_rfl) tv<|pThenP ?_
    obtain rfl:=so h
    replace h:=c
    obtain rfl:=so h
    exact pX
   ·exact rdx hm (c4<|cr (oLdK (n:=0) (k:=12) u u (by kernel_rfl) t3 tm) (s1 u)<|c6<|crgB (dT b.1) u u (oLdK (n:=0) (k:=12) u u (by kernel_rfl) t3 tm) (s1 u)<|c4<|crgB (dT b.1) u u (oLdK (n:=0) (k:=5) u u (by kernel_rfl) t32 tm) (s1 u)<|c3<|cm (oCallS (rest:=[.box 70000 204 (L204 a)]) (R':=[.box 70000 204 (L204 a)]) (out':=.d (tup [])) [] [] [] [0] [0] u (bA.okR g) b155 (oE1 tm oE0) u u u u u u u u) (s1 u)<|.nil)<|pJ0 (so h) (sb u) u
  ·obtain⟨i,e,h⟩:=bd h
   rcases i with o|y14
   ·refine rgXD (Γp:=[]) hm (c4<|cr (oLdK (n:=0) (k:=12) u u (by kernel_rfl) t3 tm) (s1 u)<|c12<|c3<|cb (oCallX (rest:=[.box 70000 204 (L204 a)]) [] [] [0] u (bA.okP e) b155 (oE1 tm oE0) u u) (s1 u)<|.nil) (by kernel_rfl) (by kernel_rfl) tv<|pThenP ?_
    obtain rfl:=so h
    replace h:=c
    obtain rfl:=so h
    exact pX
   ·exact rdx hm (c4<|cr (oLdK (n:=0) (k:=12) u u (by kernel_rfl) t3 tm) (s1 u)<|c12<|c3<|cm (oCallS (rest:=[.box 70000 204 (L204 a)]) (R':=[.box 70000 204 (L204 a)]) (out':=.d (tup [])) [] [] [] [0] [0] u (bA.okR e) b155 (oE1 tm oE0) u u u u u u u u) (s1 u)<|.nil)<|pJ0 (so h) (sb u) u
 ·rintro rfl
  replace h:=c
  refine wSeq<|rx (c4<|cr (oLdK (n:=0) (k:=12) u u (by kernel_rfl) t3 tm) (s1 u)<|c1<|.nil)<|pSeq<|wRet ?_
  obtain rfl:=so h
  exact pZ<|pS1 [0] u u (.inl u) u (.tmp u<|.nil)
theorem bK.okR{a:al} {r:al×Int}(h:bK.f a=some (.inr r)):FnS PP 193 [.p 70000 0] [.box 70000 204 (L204 a)] [70000] (.d (ki.sig r.2)) [.box 70000 204 (L204 r.1)]:=bK.ok h
theorem bK.okP{a:al} {n:Pn}(h:bK.f a=some (.inl n)):FnX PP 193 [.p 70000 0] [.box 70000 204 (L204 a)] (pvv 199 n):=bK.ok h
theorem cc.ok{c:al} {z:Pn⊕al}(h:cc.f c=some z):FnZ PP 177 [.p 70000 0] [.box 70000 204 (L204 c)] [70000] 199 (fun(r:al)=>.d (tup [])) (fun(r:al)=>[.box 70000 204 (L204 r)]) z:=by
 refine fnIntroZ Tryz.func177 u (by kernel_rfl) fun X H0 w0 pv=>?_
 unfold cc.f at h
 refine wSeq<|wT0<|wTk 0 1 (c1<|.nil) (by kernel_rfl) u ?_
 obtain⟨i,a,h⟩:=bd h
 rcases i with l|j
 ·refine wTx (Γp:=[]) 1 u (oCallX (rest:=[]) [(70000,70000)] [0] [] u (bh.okP a) b175 (oE1 tm oE0) u u) u u (s1 u) tv<|pThenP ?_
  obtain rfl:=so h
  exact pX
 ·refine wTe 1 (cm (oCallS (rest:=[]) (R':=[.box 70000 204 (L204 j)]) (out':=.d (tup [])) [(70000,70000)] [] [0] [] [0] u (bh.okR a) b175 (oE1 tm oE0) u u u u u u u u) (s1 u)<|.nil) (by kernel_rfl)<|pSeq<|wSeq<|wT0<|wTk 0 1 (c1<|.nil) (by kernel_rfl) u ?_
  obtain⟨z4,b,h⟩:=bd h
  rcases z4 with m|e
  ·refine wTx (Γp:=[]) 1 u (oCallX (rest:=[]) [(70000,70000)] [0] [] u (bK.okP b) b193 (oE1 tm oE0) u u) u u (s1 u) tv<|pThenP ?_
   obtain rfl:=so h
   exact pX
  ·refine wTe 1 (cm (oCallS (rest:=[]) (R':=[.box 70000 204 (L204 e.1)]) (out':=.d (ki.sig e.2)) [(70000,70000)] [] [0] [] [0] u (bK.okR b) b193 (oE1 tm oE0) u u u u u u u u) (s1 u)<|c1<|.nil) (by kernel_rfl)<|pSeq ?_
   obtain⟨o,g,h⟩:=bd h
   refine rdx hm (c4<|c1<|cr (oLdK (n:=0) (k:=5) u u (by kernel_rfl) t32 tm) (s1 u)<|c1<|cp (oIdx u32 z30 g tm tm) (s2 u u)<|c4<|cp (oIdxA 1 1 u u202 z3 u tm (cI (by decide))) (s1 u)<|cwn (oStK (n:=0) (k:=22) u u u (by kernel_rfl) z3 tm tm) (s2 u u)<|.nil) ?_
   obtain rfl:=so h
   exact pZ<|pSn [0] u u (.inr u) u u (.nil)
theorem cc.okR{a:al} {r:al}(h:cc.f a=some (.inr r)):FnS PP 177 [.p 70000 0] [.box 70000 204 (L204 a)] [70000] (.d (tup [])) [.box 70000 204 (L204 r)]:=cc.ok h
theorem cc.okP{a:al} {n:Pn}(h:cc.f a=some (.inl n)):FnX PP 177 [.p 70000 0] [.box 70000 204 (L204 a)] (pvv 199 n):=cc.ok h
theorem bU.ok{c:al} {z:Pn⊕al}(h:bU.f c=some z):FnZ PP 178 [.p 70000 0] [.box 70000 204 (L204 c)] [70000] 199 (fun(r:al)=>.d (tup [])) (fun(r:al)=>[.box 70000 204 (L204 r)]) z:=by
 refine fnIntroZ Tryz.func178 u (by kernel_rfl) fun X H0 w0 pv=>?_
 unfold bU.f at h
 refine wSeq<|wT0<|wTk 0 1 (c1<|.nil) (by kernel_rfl) u ?_
 obtain⟨i,a,h⟩:=bd h
 rcases i with l|j
 ·refine wTx (Γp:=[]) 1 u (oCallX (rest:=[]) [(70000,70000)] [0] [] u (bH.okP a) b176 (oE1 tm oE0) u u) u u (s1 u) tv<|pThenP ?_
  obtain rfl:=so h
  exact pX
 ·refine wTe 1 (cm (oCallS (rest:=[]) (R':=[.box 70000 204 (L204 j)]) (out':=.d (tup [])) [(70000,70000)] [] [0] [] [0] u (bH.okR a) b176 (oE1 tm oE0) u u u u u u u u) (s1 u)<|.nil) (by kernel_rfl)<|pSeq<|wSeq<|wT0<|wTk 0 1 (c1<|.nil) (by kernel_rfl) u ?_
  obtain⟨z4,b,h⟩:=bd h
  rcases z4 with m|e
  ·refine wTx (Γp:=[]) 1 u (oCallX (rest:=[]) [(70000,70000)] [0] [] u (bK.okP b) b193 (oE1 tm oE0) u u) u u (s1 u) tv<|pThenP ?_
   obtain rfl:=so h
   exact pX
  ·refine wTe 1 (cm (oCallS (rest:=[]) (R':=[.box 70000 204 (L204 e.1)]) (out':=.d (ki.sig e.2)) [(70000,70000)] [] [0] [] [0] u (bK.okR b) b193 (oE1 tm oE0) u u u u u u u u) (s1 u)<|c1<|.nil) (by kernel_rfl)<|pSeq ?_
   obtain⟨o,g,h⟩:=bd h
   refine rdx hm (c4<|c1<|cr (oLdK (n:=0) (k:=5) u u (by kernel_rfl) t32 tm) (s1 u)<|c1<|cp (oIdx u32 z30 g tm tm) (s2 u u)<|c4<|cp (oIdxA 2 2 u u202 z3 u tm (cI (by decide))) (s1 u)<|cwn (oStK (n:=0) (k:=23) u u u (by kernel_rfl) z3 tm tm) (s2 u u)<|.nil) ?_
   obtain rfl:=so h
   exact pZ<|pSn [0] u u (.inr u) u u (.nil)
theorem bU.okR{a:al} {r:al}(h:bU.f a=some (.inr r)):FnS PP 178 [.p 70000 0] [.box 70000 204 (L204 a)] [70000] (.d (tup [])) [.box 70000 204 (L204 r)]:=bU.ok h
theorem bU.okP{a:al} {n:Pn}(h:bU.f a=some (.inl n)):FnX PP 178 [.p 70000 0] [.box 70000 204 (L204 a)] (pvv 199 n):=bU.ok h
theorem bS.ok{j:al} {z:Pn⊕al}(h:bS.f j=some z):FnZ PP 179 [.p 70000 0] [.box 70000 204 (L204 j)] [70000] 199 (fun(r:al)=>.d (tup [])) (fun(r:al)=>[.box 70000 204 (L204 r)]) z:=by
 refine fnIntroZ Tryz.func179 u (by kernel_rfl) fun X H0 w0 pv=>?_
 unfold bS.f at h
 refine wSeq<|wT0<|wTk 0 1 (c1<|.nil) (by kernel_rfl) u ?_
 obtain⟨o,i,h⟩:=bd h
 rcases o with w|a
 ·refine wTx (Γp:=[]) 1 u (oCallX (rest:=[]) [(70000,70000)] [0] [] u (bh.okP i) b175 (oE1 tm oE0) u u) u u (s1 u) tv<|pThenP ?_
  obtain rfl:=so h
  exact pX
 ·refine wTe 1 (cm (oCallS (rest:=[]) (R':=[.box 70000 204 (L204 a)]) (out':=.d (tup [])) [(70000,70000)] [] [0] [] [0] u (bh.okR i) b175 (oE1 tm oE0) u u u u u u u u) (s1 u)<|.nil) (by kernel_rfl)<|pSeq ?_
  obtain⟨q,h,b⟩:=bd h
  refine wK0 (.inr ()=q) ([]) ([.box 70000 204 (L204 a)]) ?_ ?_
  ·obtain⟨c,h⟩|⟨c,h⟩:=ik h
   ·refine wT0<|wTk 0 14 (c4<|cr (oLdK (n:=0) (k:=12) u u (by kernel_rfl) t3 tm) (s1 u)<|c6<|crgB (dT c.1) u u (oLdK (n:=0) (k:=12) u u (by kernel_rfl) t3 tm) (s1 u)<|c2<|.nil) (by kernel_rfl) u ?_
    obtain⟨l,e,h⟩:=bd h
    rcases l with s|y14
    ·refine wTx (Γp:=[]) 14 u (oCallX (rest:=[.box 70000 204 (L204 a)]) [] [] [0] u (bA.okP e) b155 (oE1 tm oE0) u u) u u (s1 u) tv<|pThenP ?_
     obtain rfl:=so h
     replace h:=b
     obtain rfl:=so h
     exact pX
    ·exact wTe 14 (cm (oCallS (rest:=[.box 70000 204 (L204 a)]) (R':=[.box 70000 204 (L204 a)]) (out':=.d (tup [])) [] [] [] [0] [0] u (bA.okR e) b155 (oE1 tm oE0) u u u u u u u u) (s1 u)<|.nil) (by kernel_rfl)<|pJ0 (so h) tv u
   ·refine wT0<|wTk 0 14 (c4<|cr (oLdK (n:=0) (k:=12) u u (by kernel_rfl) t3 tm) (s1 u)<|c8<|c1<|.nil) (by kernel_rfl) u ?_
    obtain⟨m,g,h⟩:=bd h
    rcases m with t|v
    ·refine wTx (Γp:=[]) 14 u (oCallX (rest:=[.box 70000 204 (L204 a)]) [] [] [0] u (bA.okP g) b155 (oE1 tm oE0) u u) u u (s1 u) tv<|pThenP ?_
     obtain rfl:=so h
     replace h:=b
     obtain rfl:=so h
     exact pX
    ·exact wTe 14 (cm (oCallS (rest:=[.box 70000 204 (L204 a)]) (R':=[.box 70000 204 (L204 a)]) (out':=.d (tup [])) [] [] [] [0] [0] u (bA.okR g) b155 (oE1 tm oE0) u u u u u u u u) (s1 u)<|.nil) (by kernel_rfl)<|pJ0 (so h) tv u
  ·rintro rfl
   replace h:=b
   obtain rfl:=so h
   exact pZ<|pSn [0] u u (.inr u) u u (.nil)
theorem bS.okR{a:al} {r:al}(h:bS.f a=some (.inr r)):FnS PP 179 [.p 70000 0] [.box 70000 204 (L204 a)] [70000] (.d (tup [])) [.box 70000 204 (L204 r)]:=bS.ok h
theorem bS.okP{a:al} {n:Pn}(h:bS.f a=some (.inl n)):FnX PP 179 [.p 70000 0] [.box 70000 204 (L204 a)] (pvv 199 n):=bS.ok h
theorem bn.ok{o:al} {z:Pn⊕al}(h:bn.f o=some z):FnZ PP 180 [.p 70000 0] [.box 70000 204 (L204 o)] [70000] 199 (fun(r:al)=>.d (tup [])) (fun(r:al)=>[.box 70000 204 (L204 r)]) z:=by
 refine fnIntroZ Tryz.func180 u (by kernel_rfl) fun X H0 w0 pv=>?_
 unfold bn.f at h
 refine wSeq<|wT0<|wTk 0 1 (c1<|.nil) (by kernel_rfl) u ?_
 obtain⟨t,i,h⟩:=bd h
 rcases t with w|m
 ·refine wTx (Γp:=[]) 1 u (oCallX (rest:=[]) [(70000,70000)] [0] [] u (bS.okP i) b179 (oE1 tm oE0) u u) u u (s1 u) tv<|pThenP ?_
  obtain rfl:=so h
  exact pX
 ·refine wTe 1 (cm (oCallS (rest:=[]) (R':=[.box 70000 204 (L204 m)]) (out':=.d (tup [])) [(70000,70000)] [] [0] [] [0] u (bS.okR i) b179 (oE1 tm oE0) u u u u u u u u) (s1 u)<|.nil) (by kernel_rfl)<|pSeq<|wSeq<|rx (c4<|cr (oLdK (n:=0) (k:=9) u u (by kernel_rfl) t3 tm) (s1 u)<|c1<|.nil)<|pSeq ?_
  obtain⟨q,h,j⟩:=bd h
  refine wK1 (fun a=>.inr a=q) (fun a=>[]) (fun a=>[.box 70000 204 (L204 a)]) ?_ ?_
  ·refine wBlock (wLoop ?_)
   refine lW (pc2 q (fun c e=>[(0,.p 70000 0),(9,.d (ki.sig m.x_.N)),(10,.d (ki.sig e))]) (fun c e=>[.box 70000 204 (L204 c)]) (bn.l0.partial_correctness m) ?_ _ _ h) ⟨u,u,u,tv⟩ u
   clear h
   intro f' ih c e h
   refine wSeq<|rx (c1<|.nil)<|pSeq<|wSeq ?_
   obtain⟨b,h⟩|⟨b,h⟩:=ik h
   ·refine wCT b.1 tm (s1 u)<|wSkip<|pSeq<|wSeq<|wBlock<|wSeq<|rx (c2<|.nil)<|pSeq<|wT0<|wTk 0 3 (c3<|.nil) (by kernel_rfl) u ?_
    obtain⟨s,g,h⟩:=bd h
    rcases s with v|l
    ·refine wTx (Γp:=[]) 3 u (oCallX (rest:=[]) [(70000,70000)] [0] [] u (bG.okP g) b192 (oE1 tm (oE1 tm oE0)) u u) u u (s2 u u) tv<|pBlkP<|pThenP<|pThenP<|pBlkP<|pThenP ?_
     obtain rfl:=so h
     replace h:=j
     obtain rfl:=so h
     exact pX
    ·exact wTe 3 (cm (oCallS (rest:=[]) (R':=[.box 70000 204 (L204 l.1)]) (out':=.d ((kR au).sig l.2)) [(70000,70000)] [] [0] [] [0] u (bG.okR g) b192 (oE1 tm (oE1 tm oE0)) u u u u u u u u) (s2 u u)<|.nil) (by kernel_rfl)<|pBlkN<|pSeq<|rx (c2<|.nil)<|pLoop (lW (ih _ _ h) ⟨u,u,u,tv⟩ u)
   ·exact wCF b.1 tm (s1 u)<|wExit<|pThenX<|pThenX<|pBlkX<|pJ1 _ (so h) tv u
  ·rintro a rfl
   replace h:=j
   obtain rfl:=so h
   exact pZ<|pSn [0] u u (.inr u) u u (.nil)
theorem bn.okR{a:al} {r:al}(h:bn.f a=some (.inr r)):FnS PP 180 [.p 70000 0] [.box 70000 204 (L204 a)] [70000] (.d (tup [])) [.box 70000 204 (L204 r)]:=bn.ok h
theorem bn.okP{a:al} {n:Pn}(h:bn.f a=some (.inl n)):FnX PP 180 [.p 70000 0] [.box 70000 204 (L204 a)] (pvv 199 n):=bn.ok h
theorem aP.ok{a:al} {z:Pn⊕al}(h:aP.f a=some z):FnZ PP 181 [.p 70000 0] [.box 70000 204 (L204 a)] [70000] 199 (fun(r:al)=>.d (tup [])) (fun(r:al)=>[.box 70000 204 (L204 r)]) z:=by
 refine fnIntroZ Tryz.func181 u (by kernel_rfl) fun X H0 w0 pv=>?_
 unfold aP.f at h
 refine wSeq<|rx (c4<|c1<|cr (oLdK (n:=0) (k:=6) u u (by kernel_rfl) t33 tm) (s1 u)<|c3<|cwn (oStK (n:=0) (k:=20) u u u (by kernel_rfl) z3 tm tm) (s2 u u)<|.nil)<|pSeq<|wSeq<|wSeq<|rx (c4<|cr (oLdK (n:=0) (k:=9) u u (by kernel_rfl) t3 tm) (s1 u)<|c1<|.nil)<|pSeq ?_
 obtain⟨v,h⟩|⟨v,h⟩:=ik h
 ·refine wCT v.1 tm (s1 u)<|wT0<|wTk 0 1 (c1<|.nil) (by kernel_rfl) u ?_
  obtain⟨K,C,h⟩:=bd h
  rcases K with T|b
  ·refine wTx (Γp:=[]) 1 u (oCallX (rest:=[]) [(70000,70000)] [0] [] u (bh.okP C) b175 (oE1 tm oE0) u u) u u (s1 u) tv<|pThenP ?_
   obtain rfl:=so h
   exact pX
  ·refine wTe 1 (cm (oCallS (rest:=[]) (R':=[.box 70000 204 (L204 b)]) (out':=.d (tup [])) [(70000,70000)] [] [0] [] [0] u (bh.okR C) b175 (oE1 tm oE0) u u u u u u u u) (s1 u)<|.nil) (by kernel_rfl)<|pSeq ?_
   obtain⟨w,h,x⟩:=bd h
   refine wJ1 (fun c=>c=w) (fun c=>[(0,.p 70000 0)]) (fun c=>[.box 70000 204 [.d (kL kS) b.l_.Names,.d (kL (kI .u32)) b.l_.Up,.d ki b.s_.Pc.V,.d ki b.s_.Pc.L,.d (kL (kR aw)) b.s_.Code,.d (kL (kR am)) b.s_.Mem,.d (kL (kR au)) b.s_.Stack,.d (kL (kR am)) b.s_.Out,.d ki b.x_.Op,.d ki b.x_.N,.d ki b.x_.L,.d kB b.a_.Ret,.d ki b.a_.V,.d ki b.a_.L,.d kB b.b_.Ret,.d ki b.b_.V,.d ki b.b_.L,.d kB b.r_.Ret,.d ki b.r_.V,.d ki b.r_.L,.d ki c,.d ki b.one_.x0_,.d ki b.one_.x1_,.d ki b.one_.x2_]]) ?_ ?_
   ·refine wBlock (wLoop ?_)
    refine lW (pc1 w (fun s=>[(0,.p 70000 0)]) (fun s=>[.box 70000 204 [.d (kL kS) b.l_.Names,.d (kL (kI .u32)) b.l_.Up,.d ki b.s_.Pc.V,.d ki b.s_.Pc.L,.d (kL (kR aw)) b.s_.Code,.d (kL (kR am)) b.s_.Mem,.d (kL (kR au)) b.s_.Stack,.d (kL (kR am)) b.s_.Out,.d ki b.x_.Op,.d ki b.x_.N,.d ki b.x_.L,.d kB b.a_.Ret,.d ki b.a_.V,.d ki b.a_.L,.d kB b.b_.Ret,.d ki b.b_.V,.d ki b.b_.L,.d kB b.r_.Ret,.d ki b.r_.V,.d ki b.r_.L,.d ki s,.d ki b.one_.x0_,.d ki b.one_.x1_,.d ki b.one_.x2_]]) (aP.l0.partial_correctness b) ?_ _ h) ⟨u,tv⟩ u
    clear h
    intro f' ih s h
    refine wSeq ?_
    obtain⟨D,h,y⟩:=bd h
    refine wJ1 (fun j=>j=D) (fun j=>[(0,.p 70000 0),(39,.d (kB.sig j))]) (fun j=>[.box 70000 204 [.d (kL kS) b.l_.Names,.d (kL (kI .u32)) b.l_.Up,.d ki b.s_.Pc.V,.d ki b.s_.Pc.L,.d (kL (kR aw)) b.s_.Code,.d (kL (kR am)) b.s_.Mem,.d (kL (kR au)) b.s_.Stack,.d (kL (kR am)) b.s_.Out,.d ki b.x_.Op,.d ki b.x_.N,.d ki b.x_.L,.d kB b.a_.Ret,.d ki b.a_.V,.d ki b.a_.L,.d kB b.b_.Ret,.d ki b.b_.V,.d ki b.b_.L,.d kB b.r_.Ret,.d ki b.r_.V,.d ki b.r_.L,.d ki s,.d ki b.one_.x0_,.d ki b.one_.x1_,.d ki b.one_.x2_]]) ?_ ?_
    ·obtain⟨g,h⟩|⟨g,h⟩:=ik h
     ·obtain⟨M,E,h⟩:=bd h
      exact rdx hm (c3<|cr (oLdK (n:=0) (k:=20) u u (by kernel_rfl) t3 tm) (s1 u)<|c6<|crgB (dT g.1) u u (oLdK (n:=0) (k:=6) u u (by kernel_rfl) t33 tm) (s1 u)<|c3<|crgB (dT g.1) u u (oLdK (n:=0) (k:=20) u u (by kernel_rfl) t3 tm) (s1 u)<|c1<|cgB (dT g.1) u u (oIdx u33 z88 E tm tm) (s2 u u)<|c4<|.nil)<|pJ1 _ (so h) (sb u) u
     ·exact rdx hm (c3<|cr (oLdK (n:=0) (k:=20) u u (by kernel_rfl) t3 tm) (s1 u)<|c12<|c4<|c1<|.nil)<|pJ1 _ (so h) (sb u) u
    ·rintro j rfl
     replace h:=y
     obtain⟨o,h⟩|⟨o,h⟩:=ik h
     ·exact wBT o.1 tm (s1 u)<|wSkip<|pSeq<|wBlock<|rx (c3<|cr (oLdK (n:=0) (k:=20) u u (by kernel_rfl) t3 tm) (s1 u)<|c3<|cwn (oStK (n:=0) (k:=20) u u u (by kernel_rfl) z3 tm tm) (s2 u u)<|.nil)<|pBlkN<|pLoop (lW (ih _ h) ⟨u,tv⟩ u)
     ·exact wBF o.1 tm (s1 u)<|wExit<|pThenX<|pThenX<|pBlkX<|pJ1 _ (so h) (sb u) u
   ·rintro c rfl
    replace h:=x
    refine wSeq<|wT0<|wTk 0 5 (c3<|cr (oLdK (n:=0) (k:=20) u u (by kernel_rfl) t3 tm) (s1 u)<|c1<|.nil) (by kernel_rfl) u ?_
    obtain⟨z25,A,h⟩:=bd h
    rcases z25 with O|P
    ·refine wTx (Γp:=[]) 5 u (oCallX (rest:=[.box 70000 204 [.d (kL kS) b.l_.Names,.d (kL (kI .u32)) b.l_.Up,.d ki b.s_.Pc.V,.d ki b.s_.Pc.L,.d (kL (kR aw)) b.s_.Code,.d (kL (kR am)) b.s_.Mem,.d (kL (kR au)) b.s_.Stack,.d (kL (kR am)) b.s_.Out,.d ki b.x_.Op,.d ki b.x_.N,.d ki b.x_.L,.d kB b.a_.Ret,.d ki b.a_.V,.d ki b.a_.L,.d kB b.b_.Ret,.d ki b.b_.V,.d ki b.b_.L,.d kB b.r_.Ret,.d ki b.r_.V,.d ki b.r_.L,.d ki c,.d ki b.one_.x0_,.d ki b.one_.x1_,.d ki b.one_.x2_]]) [] [] [0] u (bA.okP A) b155 (oE1 tm oE0) u u) u u (s1 u) tv<|pThenP ?_
     obtain rfl:=so h
     exact pX
    ·refine wTe 5 (cm (oCallS (rest:=[.box 70000 204 [.d (kL kS) b.l_.Names,.d (kL (kI .u32)) b.l_.Up,.d ki b.s_.Pc.V,.d ki b.s_.Pc.L,.d (kL (kR aw)) b.s_.Code,.d (kL (kR am)) b.s_.Mem,.d (kL (kR au)) b.s_.Stack,.d (kL (kR am)) b.s_.Out,.d ki b.x_.Op,.d ki b.x_.N,.d ki b.x_.L,.d kB b.a_.Ret,.d ki b.a_.V,.d ki b.a_.L,.d kB b.b_.Ret,.d ki b.b_.V,.d ki b.b_.L,.d kB b.r_.Ret,.d ki b.r_.V,.d ki b.r_.L,.d ki c,.d ki b.one_.x0_,.d ki b.one_.x1_,.d ki b.one_.x2_]]) (R':=[.box 70000 204 [.d (kL kS) b.l_.Names,.d (kL (kI .u32)) b.l_.Up,.d ki b.s_.Pc.V,.d ki b.s_.Pc.L,.d (kL (kR aw)) b.s_.Code,.d (kL (kR am)) b.s_.Mem,.d (kL (kR au)) b.s_.Stack,.d (kL (kR am)) b.s_.Out,.d ki b.x_.Op,.d ki b.x_.N,.d ki b.x_.L,.d kB b.a_.Ret,.d ki b.a_.V,.d ki b.a_.L,.d kB b.b_.Ret,.d ki b.b_.V,.d ki b.b_.L,.d kB b.r_.Ret,.d ki b.r_.V,.d ki b.r_.L,.d ki c,.d ki b.one_.x0_,.d ki b.one_.x1_,.d ki b.one_.x2_]]) (out':=.d (tup [])) [] [] [] [0] [0] u (bA.okR A) b155 (oE1 tm oE0) u u u u u u u u) (s1 u)<|.nil) (by kernel_rfl)<|pSeq<|wSeq<|rx (c3<|cr (oLdK (n:=0) (k:=20) u u (by kernel_rfl) t3 tm) (s1 u)<|c3<|cwn (oStK (n:=0) (k:=20) u u u (by kernel_rfl) z3 tm tm) (s2 u u)<|.nil)<|pSeq<|wSeq ?_
     obtain⟨I,F,h⟩:=bd h
     refine rdx hm (c4<|c1<|cr (oLdK (n:=0) (k:=6) u u (by kernel_rfl) t33 tm) (s1 u)<|c3<|cr (oLdK (n:=0) (k:=20) u u (by kernel_rfl) t3 tm) (s1 u)<|cp (oIdx u33 z88 F tm tm) (s2 u u)<|c3<|cwn (oStPK (n:=0) (k:=17) (m:=3) (d:=(kR au)) (u:=I) pt88 u u (by kernel_rfl) z88 tm tm) (s2 u u)<|.nil)<|pSeq<|rdx hm (c4<|c1<|cr (oLdK (n:=0) (k:=19) u u (by kernel_rfl) t3 tm) (s1 u)<|c2<|cp (oIdxA 1 1 u u202 z3 u tm (cI (by decide))) (s1 u)<|cwn (oStK (n:=0) (k:=22) u u u (by kernel_rfl) z3 tm tm) (s2 u u)<|.nil) ?_
     obtain rfl:=so h
     exact pZ<|pSn [0] u u (.inr u) u u (.nil)
 ·refine wCF v.1 tm (s1 u)<|wSkip<|pSeq ?_
  obtain⟨w,h,x⟩:=bd h
  refine wJ1 (fun e=>e=w) (fun e=>[(0,.p 70000 0)]) (fun e=>[.box 70000 204 [.d (kL kS) a.l_.Names,.d (kL (kI .u32)) a.l_.Up,.d ki a.s_.Pc.V,.d ki a.s_.Pc.L,.d (kL (kR aw)) a.s_.Code,.d (kL (kR am)) a.s_.Mem,.d (kL (kR au)) a.s_.Stack,.d (kL (kR am)) a.s_.Out,.d ki a.x_.Op,.d ki a.x_.N,.d ki a.x_.L,.d kB a.a_.Ret,.d ki a.a_.V,.d ki a.a_.L,.d kB a.b_.Ret,.d ki a.b_.V,.d ki a.b_.L,.d kB a.r_.Ret,.d ki a.r_.V,.d ki a.r_.L,.d ki e,.d ki a.one_.x0_,.d ki a.one_.x1_,.d ki a.one_.x2_]]) ?_ ?_
  ·refine wBlock (wLoop ?_)
   refine lW (pc1 w (fun t=>[(0,.p 70000 0)]) (fun t=>[.box 70000 204 [.d (kL kS) a.l_.Names,.d (kL (kI .u32)) a.l_.Up,.d ki a.s_.Pc.V,.d ki a.s_.Pc.L,.d (kL (kR aw)) a.s_.Code,.d (kL (kR am)) a.s_.Mem,.d (kL (kR au)) a.s_.Stack,.d (kL (kR am)) a.s_.Out,.d ki a.x_.Op,.d ki a.x_.N,.d ki a.x_.L,.d kB a.a_.Ret,.d ki a.a_.V,.d ki a.a_.L,.d kB a.b_.Ret,.d ki a.b_.V,.d ki a.b_.L,.d kB a.r_.Ret,.d ki a.r_.V,.d ki a.r_.L,.d ki t,.d ki a.one_.x0_,.d ki a.one_.x1_,.d ki a.one_.x2_]]) (aP.l1.partial_correctness a) ?_ _ h) ⟨u,tv⟩ u
   clear h
   intro f' ih t h
   refine wSeq ?_
   obtain⟨D,h,y⟩:=bd h
   refine wJ1 (fun l=>l=D) (fun l=>[(0,.p 70000 0),(39,.d (kB.sig l))]) (fun l=>[.box 70000 204 [.d (kL kS) a.l_.Names,.d (kL (kI .u32)) a.l_.Up,.d ki a.s_.Pc.V,.d ki a.s_.Pc.L,.d (kL (kR aw)) a.s_.Code,.d (kL (kR am)) a.s_.Mem,.d (kL (kR au)) a.s_.Stack,.d (kL (kR am)) a.s_.Out,.d ki a.x_.Op,.d ki a.x_.N,.d ki a.x_.L,.d kB a.a_.Ret,.d ki a.a_.V,.d ki a.a_.L,.d kB a.b_.Ret,.d ki a.b_.V,.d ki a.b_.L,.d kB a.r_.Ret,.d ki a.r_.V,.d ki a.r_.L,.d ki t,.d ki a.one_.x0_,.d ki a.one_.x1_,.d ki a.one_.x2_]]) ?_ ?_
   ·obtain⟨i,h⟩|⟨i,h⟩:=ik h
    ·obtain⟨Q,G,h⟩:=bd h
     exact rdx hm (c3<|cr (oLdK (n:=0) (k:=20) u u (by kernel_rfl) t3 tm) (s1 u)<|c6<|crgB (dT i.1) u u (oLdK (n:=0) (k:=6) u u (by kernel_rfl) t33 tm) (s1 u)<|c3<|crgB (dT i.1) u u (oLdK (n:=0) (k:=20) u u (by kernel_rfl) t3 tm) (s1 u)<|c1<|cgB (dT i.1) u u (oIdx u33 z88 G tm tm) (s2 u u)<|c4<|.nil)<|pJ1 _ (so h) (sb u) u
    ·exact rdx hm (c3<|cr (oLdK (n:=0) (k:=20) u u (by kernel_rfl) t3 tm) (s1 u)<|c12<|c4<|c1<|.nil)<|pJ1 _ (so h) (sb u) u
   ·rintro l rfl
    replace h:=y
    obtain⟨q,h⟩|⟨q,h⟩:=ik h
    ·exact wBT q.1 tm (s1 u)<|wSkip<|pSeq<|wBlock<|rx (c3<|cr (oLdK (n:=0) (k:=20) u u (by kernel_rfl) t3 tm) (s1 u)<|c3<|cwn (oStK (n:=0) (k:=20) u u u (by kernel_rfl) z3 tm tm) (s2 u u)<|.nil)<|pBlkN<|pLoop (lW (ih _ h) ⟨u,tv⟩ u)
    ·exact wBF q.1 tm (s1 u)<|wExit<|pThenX<|pThenX<|pBlkX<|pJ1 _ (so h) (sb u) u
  ·rintro e rfl
   replace h:=x
   refine wSeq<|wT0<|wTk 0 5 (c3<|cr (oLdK (n:=0) (k:=20) u u (by kernel_rfl) t3 tm) (s1 u)<|c1<|.nil) (by kernel_rfl) u ?_
   obtain⟨z49,B,h⟩:=bd h
   rcases z49 with R|S
   ·refine wTx (Γp:=[]) 5 u (oCallX (rest:=[.box 70000 204 [.d (kL kS) a.l_.Names,.d (kL (kI .u32)) a.l_.Up,.d ki a.s_.Pc.V,.d ki a.s_.Pc.L,.d (kL (kR aw)) a.s_.Code,.d (kL (kR am)) a.s_.Mem,.d (kL (kR au)) a.s_.Stack,.d (kL (kR am)) a.s_.Out,.d ki a.x_.Op,.d ki a.x_.N,.d ki a.x_.L,.d kB a.a_.Ret,.d ki a.a_.V,.d ki a.a_.L,.d kB a.b_.Ret,.d ki a.b_.V,.d ki a.b_.L,.d kB a.r_.Ret,.d ki a.r_.V,.d ki a.r_.L,.d ki e,.d ki a.one_.x0_,.d ki a.one_.x1_,.d ki a.one_.x2_]]) [] [] [0] u (bA.okP B) b155 (oE1 tm oE0) u u) u u (s1 u) tv<|pThenP ?_
    obtain rfl:=so h
    exact pX
   ·refine wTe 5 (cm (oCallS (rest:=[.box 70000 204 [.d (kL kS) a.l_.Names,.d (kL (kI .u32)) a.l_.Up,.d ki a.s_.Pc.V,.d ki a.s_.Pc.L,.d (kL (kR aw)) a.s_.Code,.d (kL (kR am)) a.s_.Mem,.d (kL (kR au)) a.s_.Stack,.d (kL (kR am)) a.s_.Out,.d ki a.x_.Op,.d ki a.x_.N,.d ki a.x_.L,.d kB a.a_.Ret,.d ki a.a_.V,.d ki a.a_.L,.d kB a.b_.Ret,.d ki a.b_.V,.d ki a.b_.L,.d kB a.r_.Ret,.d ki a.r_.V,.d ki a.r_.L,.d ki e,.d ki a.one_.x0_,.d ki a.one_.x1_,.d ki a.one_.x2_]]) (R':=[.box 70000 204 [.d (kL kS) a.l_.Names,.d (kL (kI .u32)) a.l_.Up,.d ki a.s_.Pc.V,.d ki a.s_.Pc.L,.d (kL (kR aw)) a.s_.Code,.d (kL (kR am)) a.s_.Mem,.d (kL (kR au)) a.s_.Stack,.d (kL (kR am)) a.s_.Out,.d ki a.x_.Op,.d ki a.x_.N,.d ki a.x_.L,.d kB a.a_.Ret,.d ki a.a_.V,.d ki a.a_.L,.d kB a.b_.Ret,.d ki a.b_.V,.d ki a.b_.L,.d kB a.r_.Ret,.d ki a.r_.V,.d ki a.r_.L,.d ki e,.d ki a.one_.x0_,.d ki a.one_.x1_,.d ki a.one_.x2_]]) (out':=.d (tup [])) [] [] [] [0] [0] u (bA.okR B) b155 (oE1 tm oE0) u u u u u u u u) (s1 u)<|.nil) (by kernel_rfl)<|pSeq<|wSeq<|rx (c3<|cr (oLdK (n:=0) (k:=20) u u (by kernel_rfl) t3 tm) (s1 u)<|c3<|cwn (oStK (n:=0) (k:=20) u u u (by kernel_rfl) z3 tm tm) (s2 u u)<|.nil)<|pSeq<|wSeq ?_
    obtain⟨J,H,h⟩:=bd h
    refine rdx hm (c4<|c1<|cr (oLdK (n:=0) (k:=6) u u (by kernel_rfl) t33 tm) (s1 u)<|c3<|cr (oLdK (n:=0) (k:=20) u u (by kernel_rfl) t3 tm) (s1 u)<|cp (oIdx u33 z88 H tm tm) (s2 u u)<|c3<|cwn (oStPK (n:=0) (k:=17) (m:=3) (d:=(kR au)) (u:=J) pt88 u u (by kernel_rfl) z88 tm tm) (s2 u u)<|.nil)<|pSeq<|rdx hm (c4<|c1<|cr (oLdK (n:=0) (k:=19) u u (by kernel_rfl) t3 tm) (s1 u)<|c2<|cp (oIdxA 1 1 u u202 z3 u tm (cI (by decide))) (s1 u)<|cwn (oStK (n:=0) (k:=22) u u u (by kernel_rfl) z3 tm tm) (s2 u u)<|.nil) ?_
    obtain rfl:=so h
    exact pZ<|pSn [0] u u (.inr u) u u (.nil)
theorem aP.okR{a:al} {r:al}(h:aP.f a=some (.inr r)):FnS PP 181 [.p 70000 0] [.box 70000 204 (L204 a)] [70000] (.d (tup [])) [.box 70000 204 (L204 r)]:=aP.ok h
theorem aP.okP{a:al} {n:Pn}(h:aP.f a=some (.inl n)):FnX PP 181 [.p 70000 0] [.box 70000 204 (L204 a)] (pvv 199 n):=aP.ok h
end Go.Proofs.YtmjcpkmongafnaaGreatDoor.TT
