import Derived.Test.YtmjcpkmongafnaaGreatDoorCln
import Derived.Test.YtmjcpkmongafnaaGreatDoorDTT
import Derived.Test.YtmjcpkmongafnaaGreatDoorProg
set_option linter.unusedVariables false
set_option autoImplicit true
set_option maxRecDepth 10000
set_option maxHeartbeats 2000000
set_option synthInstance.maxHeartbeats 200000
set_option synthInstance.maxSize 2000
namespace Go.Proofs.YtmjcpkmongafnaaGreatDoor.TT
open Go Go.Proofs.YtmjcpkmongafnaaGreatDoor.Ab
noncomputable abbrev PP:Program:=Tryz.prog
theorem hm:PP.follows .mixedOrders=true:=by kernel_rfl
theorem zL:∀{α:Type} {d:Kd α} (H:FH),(kL d).reps H [.slice none 0 0] []:=fun _=>⟨none,0,rfl,Nat.le_refl _,by omega,by simp[big],.inl rfl⟩
theorem ze25:zeroIs PP 25 [(.slice none 0 0),(.slice none 0 0)]:=by unfold zeroIs;kernel_rfl
theorem o25_1:fofs PP 25 1=some 1:=by kernel_rfl
instance pu:FlI PP 25 1 aC (kL (kI .u32)) az.Up:=⟨o25_1,rfl⟩
theorem t23:tinf PP 23=some (false,1):=by kernel_rfl
instance jt23:TinI PP 23 (kL (kI .u32)):=⟨t23⟩
theorem u23:PP.underlying 23=some (.slice 70):=by kernel_rfl
instance ju23:UndI PP 23 70:=⟨u23⟩
theorem z70:sizeIs PP 70 1:=by unfold sizeIs;kernel_rfl
theorem pl25:places PP 25=some [(0,1),(1,1)]:=by kernel_rfl
theorem po25_0:∀q f,gG[q]?=some f->([(0,1),(1,1)]:List (Nat×Nat))[q]?=some (offF gG q,f.d.sz):=fun q f h=>by
 unfold gG at h
 match q,h with
 |0,h=>cases h;rfl
 |1,h=>cases h;rfl
 |n+2,h=>simp at h
theorem z25:sizeIs PP 25 2:=by unfold sizeIs;kernel_rfl
theorem o25_0:fofs PP 25 0=some 0:=by kernel_rfl
instance pw:FlI PP 25 0 aC (kL kS) az.Names:=⟨o25_0,rfl⟩
theorem t22:tinf PP 22=some (false,1):=by kernel_rfl
instance jt22:TinI PP 22 (kL kS):=⟨t22⟩
theorem u22:PP.underlying 22=some (.slice 9):=by kernel_rfl
instance ju22:UndI PP 22 9:=⟨u22⟩
theorem z9:sizeIs PP 9 1:=by unfold sizeIs;kernel_rfl
instance ji_i64_0:IntI .i64 0:=⟨by decide⟩
theorem t9:tinf PP 9=some (false,1):=by kernel_rfl
instance jt9:TinI PP 9 kS:=⟨t9⟩
instance jo25_0:FofI PP 25 0 0:=⟨o25_0⟩
theorem u9:PP.underlying 9=some (.string):=by kernel_rfl
theorem el22:ElTy PP 22 9 1 16:=⟨by kernel_rfl,by kernel_rfl⟩
theorem z22:sizeIs PP 22 1:=by unfold sizeIs;kernel_rfl
instance ji_i64_1:IntI .i64 1:=⟨by decide⟩
theorem t25:tinf PP 25=some (true,2):=by kernel_rfl
theorem ze28:zeroIs PP 28 [(.slice none 0 0)]:=by unfold zeroIs;kernel_rfl
theorem o28_0:fofs PP 28 0=some 0:=by kernel_rfl
instance pA:FlI PP 28 0 bn (kL (kR bj)) ct.Rows:=⟨o28_0,rfl⟩
theorem t26:tinf PP 26=some (false,1):=by kernel_rfl
instance jt26:TinI PP 26 (kL (kR bj)):=⟨t26⟩
theorem u26:PP.underlying 26=some (.slice 58):=by kernel_rfl
instance ju26:UndI PP 26 58:=⟨u26⟩
theorem z58:sizeIs PP 58 3:=by unfold sizeIs;kernel_rfl
theorem t58:tinf PP 58=some (true,3):=by kernel_rfl
instance jt58:TinI PP 58 (kR bj):=⟨t58⟩
theorem ze58:zeroIs PP 58 [(.slice none 0 0),(.slice none 0 0),(.slice none 0 0)]:=by unfold zeroIs;kernel_rfl
abbrev Z58:List Leaf:=[.d (kL (kI .i64)) [],.d (kL (kI .i64)) [],.d (kL (kI .i64)) []]
theorem zl58:∀g:G,leafs Z58 g [(.slice none 0 0),(.slice none 0 0),(.slice none 0 0)]:=fun g=>⟨[(.slice none 0 0)],_,rfl,zL g.H,⟨[(.slice none 0 0)],_,rfl,zL g.H,⟨[(.slice none 0 0)],_,rfl,zL g.H,rfl⟩⟩⟩
instance jo28_0:FofI PP 28 0 0:=⟨o28_0⟩
theorem o58_0:fofs PP 58 0=some 0:=by kernel_rfl
instance jo58_0:FofI PP 58 0 0:=⟨o58_0⟩
theorem t56:tinf PP 56=some (false,1):=by kernel_rfl
theorem u56:PP.underlying 56=some (.slice 3):=by kernel_rfl
instance ju56:UndI PP 56 3:=⟨u56⟩
theorem z3:sizeIs PP 3 1:=by unfold sizeIs;kernel_rfl
theorem o58_1:fofs PP 58 1=some 1:=by kernel_rfl
instance jo58_1:FofI PP 58 1 1:=⟨o58_1⟩
theorem o58_2:fofs PP 58 2=some 2:=by kernel_rfl
instance jo58_2:FofI PP 58 2 2:=⟨o58_2⟩
theorem pl58:places PP 58=some [(0,1),(1,1),(2,1)]:=by kernel_rfl
theorem po58:∀q f,bj[q]?=some f->([(0,1),(1,1),(2,1)]:List (Nat×Nat))[q]?=some (offF bj q,f.d.sz):=fun q f h=>by
 unfold bj at h
 match q,h with
 |0,h=>cases h;rfl
 |1,h=>cases h;rfl
 |2,h=>cases h;rfl
 |n+3,h=>simp at h
theorem el26:ElTy PP 26 58 3 72:=⟨by kernel_rfl,by kernel_rfl⟩
theorem z26:sizeIs PP 26 1:=by unfold sizeIs;kernel_rfl
theorem t28:tinf PP 28=some (true,1):=by kernel_rfl
theorem z28:sizeIs PP 28 1:=by unfold sizeIs;kernel_rfl
abbrev L35(x:al):List Leaf:=[.d (kI .i64) x.Pc.V,.d (kI .i64) x.Pc.L,.d (kL (kR aH)) x.Code,.d (kL (kR aB)) x.Mem,.d (kL (kR aD)) x.Stack,.d (kL (kR aB)) x.Out]
theorem pt35{x:al}:Part (L35 x) (kR av) x:=by
 have h:Part _ (kR av) x:=(lfS (lfC (lfS (lfC lf1 (lfC lf1 lfN))) (lfC lf1 (lfC lf1 (lfC lf1 (lfC lf1 lfN))))))
 exact h
theorem zI_i64:∀H,(kI .i64).reps H [.int .i64 0] 0:=fun _=>⟨rfl,by decide⟩
theorem ze35:zeroIs PP 35 [(.int .i64 0),(.int .i64 0),(.slice none 0 0),(.slice none 0 0),(.slice none 0 0),(.slice none 0 0)]:=by unfold zeroIs;kernel_rfl
abbrev Z35:List Leaf:=[.d (kI .i64) 0,.d (kI .i64) 0,.d (kL (kR aH)) [],.d (kL (kR aB)) [],.d (kL (kR aD)) [],.d (kL (kR aB)) []]
theorem zl35:∀g:G,leafs Z35 g [(.int .i64 0),(.int .i64 0),(.slice none 0 0),(.slice none 0 0),(.slice none 0 0),(.slice none 0 0)]:=fun g=>⟨[(.int .i64 0)],_,rfl,zI_i64 g.H,⟨[(.int .i64 0)],_,rfl,zI_i64 g.H,⟨[(.slice none 0 0)],_,rfl,zL g.H,⟨[(.slice none 0 0)],_,rfl,zL g.H,⟨[(.slice none 0 0)],_,rfl,zL g.H,⟨[(.slice none 0 0)],_,rfl,zL g.H,rfl⟩⟩⟩⟩⟩⟩
theorem o35_1:fofs PP 35 1=some 2:=by kernel_rfl
instance jo35_1:FofI PP 35 1 2:=⟨o35_1⟩
theorem t31:tinf PP 31=some (false,1):=by kernel_rfl
theorem u31:PP.underlying 31=some (.slice 73):=by kernel_rfl
instance ju31:UndI PP 31 73:=⟨u31⟩
theorem z73:sizeIs PP 73 3:=by unfold sizeIs;kernel_rfl
theorem o35_2:fofs PP 35 2=some 3:=by kernel_rfl
instance jo35_2:FofI PP 35 2 3:=⟨o35_2⟩
theorem t32:tinf PP 32=some (false,1):=by kernel_rfl
theorem u32:PP.underlying 32=some (.slice 30):=by kernel_rfl
instance ju32:UndI PP 32 30:=⟨u32⟩
theorem z30:sizeIs PP 30 2:=by unfold sizeIs;kernel_rfl
theorem o35_3:fofs PP 35 3=some 4:=by kernel_rfl
instance jo35_3:FofI PP 35 3 4:=⟨o35_3⟩
theorem t33:tinf PP 33=some (false,1):=by kernel_rfl
theorem u33:PP.underlying 33=some (.slice 88):=by kernel_rfl
instance ju33:UndI PP 33 88:=⟨u33⟩
theorem z88:sizeIs PP 88 3:=by unfold sizeIs;kernel_rfl
theorem o35_4:fofs PP 35 4=some 5:=by kernel_rfl
instance jo35_4:FofI PP 35 4 5:=⟨o35_4⟩
theorem z31:sizeIs PP 31 1:=by unfold sizeIs;kernel_rfl
theorem z32:sizeIs PP 32 1:=by unfold sizeIs;kernel_rfl
theorem z33:sizeIs PP 33 1:=by unfold sizeIs;kernel_rfl
theorem t35:tinf PP 35=some (true,6):=by kernel_rfl
theorem z35:sizeIs PP 35 6:=by unfold sizeIs;kernel_rfl
instance ji_u8_97:IntI .u8 97:=⟨by decide⟩
instance ji_u8_122:IntI .u8 122:=⟨by decide⟩
instance ji_i64_12:IntI .i64 12:=⟨by decide⟩
instance ji_i64_m1:IntI .i64 (-1):=⟨by decide⟩
instance ji_i64_8:IntI .i64 8:=⟨by decide⟩
theorem b135:bodied PP 135:=by unfold bodied;kernel_rfl
theorem t70:tinf PP 70=some (false,1):=by kernel_rfl
instance jt70:TinI PP 70 (kI .u32):=⟨t70⟩
instance ji_u32_0:IntI .u32 0:=⟨by decide⟩
theorem t3:tinf PP 3=some (false,1):=by kernel_rfl
instance jt3:TinI PP 3 (kI .i64):=⟨t3⟩
instance ji_u32_1:IntI .u32 1:=⟨by decide⟩
theorem zB:∀H,kB.reps H [.bool false] false:=fun _=>rfl
theorem ze4:zeroIs PP 4 [(.bool false)]:=by unfold zeroIs;kernel_rfl
instance jt25:TinI PP 25 (kR aC):=⟨t25⟩
theorem b127:bodied PP 127:=by unfold bodied;kernel_rfl
theorem z4:sizeIs PP 4 1:=by unfold sizeIs;kernel_rfl
theorem t4:tinf PP 4=some (false,1):=by kernel_rfl
theorem b136:bodied PP 136:=by unfold bodied;kernel_rfl
theorem zI_u32:∀H,(kI .u32).reps H [.int .u32 0] 0:=fun _=>⟨rfl,by decide⟩
theorem ze70:zeroIs PP 70 [(.int .u32 0)]:=by unfold zeroIs;kernel_rfl
theorem b137:bodied PP 137:=by unfold bodied;kernel_rfl
theorem b27:bodied PP 27:=by unfold bodied;kernel_rfl
theorem ze39:zeroIs PP 39 [(.int .i64 0)]:=by unfold zeroIs;kernel_rfl
theorem z39:sizeIs PP 39 1:=by unfold sizeIs;kernel_rfl
theorem t39:tinf PP 39=some (false,1):=by kernel_rfl
theorem b111:bodied PP 111:=by unfold bodied;kernel_rfl
theorem ze248:zeroIs PP 248 [(.slice none 0 0)]:=by unfold zeroIs;kernel_rfl
theorem t248:tinf PP 248=some (false,1):=by kernel_rfl
theorem u248:PP.underlying 248=some (.slice 232):=by kernel_rfl
theorem z232:sizeIs PP 232 1:=by unfold sizeIs;kernel_rfl
theorem t232:tinf PP 232=some (false,1):=by kernel_rfl
theorem u232:PP.underlying 232=some (.bool):=by kernel_rfl
theorem z248:sizeIs PP 248 1:=by unfold sizeIs;kernel_rfl
theorem el248:ElTy PP 248 232 1 1:=⟨by kernel_rfl,by kernel_rfl⟩
instance ji_i64_2:IntI .i64 2:=⟨by decide⟩
instance ji_i64_6:IntI .i64 6:=⟨by decide⟩
instance ji_i64_7:IntI .i64 7:=⟨by decide⟩
instance ji_i64_9:IntI .i64 9:=⟨by decide⟩
instance ji_i64_10:IntI .i64 10:=⟨by decide⟩
instance ji_i64_11:IntI .i64 11:=⟨by decide⟩
instance ji_i64_3:IntI .i64 3:=⟨by decide⟩
theorem b199:bodied PP 199:=by unfold bodied;kernel_rfl
instance ji_i64_4:IntI .i64 4:=⟨by decide⟩
instance ji_i64_5:IntI .i64 5:=⟨by decide⟩
instance ji_i64_13:IntI .i64 13:=⟨by decide⟩
instance ji_i64_40:IntI .i64 40:=⟨by decide⟩
theorem u4:PP.underlying 4=some (.bool):=by kernel_rfl
instance jf58_0_api_Row:FlI PP 58 0 bj (kL (kI .i64)) aW.May:=⟨o58_0,rfl⟩
instance jt56:TinI PP 56 (kL (kI .i64)):=⟨t56⟩
theorem b166:bodied PP 166:=by unfold bodied;kernel_rfl
instance jf58_1_api_Row:FlI PP 58 1 bj (kL (kI .i64)) aW.Res:=⟨o58_1,rfl⟩
instance jf58_2_api_Row:FlI PP 58 2 bj (kL (kI .i64)) aW.Pc:=⟨o58_2,rfl⟩
theorem gm0:GlobIs (kI .i64) 0 gl0:=globI (.head _) (by kernel_rfl)
theorem u237:PP.underlying 237=some (.array 13 3):=by kernel_rfl
theorem b167:bodied PP 167:=by unfold bodied;kernel_rfl
instance ji_i64_m20:IntI .i64 (-20):=⟨by decide⟩
instance ji_i64_20:IntI .i64 20:=⟨by decide⟩
theorem b201:bodied PP 201:=by unfold bodied;kernel_rfl
theorem b200:bodied PP 200:=by unfold bodied;kernel_rfl
theorem u239:PP.underlying 239=some (.map 3 117):=by kernel_rfl
theorem u3:PP.underlying 3=some (.int .i64):=by kernel_rfl
theorem mk3:MKey PP 3 (.int .i64) (kI .i64):=keyI u3
theorem o73_0:fofs PP 73 0=some 0:=by kernel_rfl
instance pB:FlI PP 73 0 aH (kI .i64) aI.Op:=⟨o73_0,rfl⟩
theorem zv117:zeroV PP 117 .nilFunc:=by unfold zeroV;kernel_rfl
theorem o73_1:fofs PP 73 1=some 1:=by kernel_rfl
instance pC:FlI PP 73 1 aH (kI .i64) aI.N:=⟨o73_1,rfl⟩
theorem o73_2:fofs PP 73 2=some 2:=by kernel_rfl
instance pD:FlI PP 73 2 aH (kI .i64) aI.L:=⟨o73_2,rfl⟩
theorem t73:tinf PP 73=some (true,3):=by kernel_rfl
instance jt73:TinI PP 73 (kR aH):=⟨t73⟩
theorem b168:bodied PP 168:=by unfold bodied;kernel_rfl
theorem b170:bodied PP 170:=by unfold bodied;kernel_rfl
theorem t30:tinf PP 30=some (true,2):=by kernel_rfl
instance jt30:TinI PP 30 (kR aB):=⟨t30⟩
theorem b126:bodied PP 126:=by unfold bodied;kernel_rfl
theorem t88:tinf PP 88=some (true,3):=by kernel_rfl
instance jt88:TinI PP 88 (kR aD):=⟨t88⟩
theorem b146:bodied PP 146:=by unfold bodied;kernel_rfl
theorem ze117:zeroIs PP 117 [.nilFunc]:=by unfold zeroIs;kernel_rfl
theorem z117:sizeIs PP 117 1:=by unfold sizeIs;kernel_rfl
theorem o30_0:fofs PP 30 0=some 0:=by kernel_rfl
instance jf30_0_api_Atom:FlI PP 30 0 aB (kI .i64) aG.V:=⟨o30_0,rfl⟩
theorem b148:bodied PP 148:=by unfold bodied;kernel_rfl
theorem t117:tinf PP 117=some (false,1):=by kernel_rfl
instance jt117:TinI PP 117 (kFn PP (rl1 (kI .i64) kB)):=⟨t117⟩
theorem o30_1:fofs PP 30 1=some 1:=by kernel_rfl
instance jf30_1_api_Atom:FlI PP 30 1 aB (kI .i64) aG.L:=⟨o30_1,rfl⟩
theorem b147:bodied PP 147:=by unfold bodied;kernel_rfl
theorem o88_2:fofs PP 88 2=some 2:=by kernel_rfl
instance jf88_2_api_Slot:FlI PP 88 2 aD (kI .i64) aF.L:=⟨o88_2,rfl⟩
theorem o88_0:fofs PP 88 0=some 0:=by kernel_rfl
instance jf88_0_api_Slot:FlI PP 88 0 aD kB aF.Ret:=⟨o88_0,rfl⟩
instance jt4:TinI PP 4 kB:=⟨t4⟩
theorem o88_1:fofs PP 88 1=some 1:=by kernel_rfl
instance jf88_1_api_Slot:FlI PP 88 1 aD (kI .i64) aF.V:=⟨o88_1,rfl⟩
theorem b150:bodied PP 150:=by unfold bodied;kernel_rfl
theorem b149:bodied PP 149:=by unfold bodied;kernel_rfl
instance pE:FlI PP 35 2 av (kL (kR aB)) al.Mem:=⟨o35_2,rfl⟩
instance jt32:TinI PP 32 (kL (kR aB)):=⟨t32⟩
instance pF:FlI PP 35 3 av (kL (kR aD)) al.Stack:=⟨o35_3,rfl⟩
instance jt33:TinI PP 33 (kL (kR aD)):=⟨t33⟩
instance pG:FlI PP 35 4 av (kL (kR aB)) al.Out:=⟨o35_4,rfl⟩
instance pH:FlI PP 35 1 av (kL (kR aH)) al.Code:=⟨o35_1,rfl⟩
instance jt31:TinI PP 31 (kL (kR aH)):=⟨t31⟩
theorem o35_0:fofs PP 35 0=some 0:=by kernel_rfl
instance pI:FlI PP 35 0 av (kR aB) al.Pc:=⟨o35_0,rfl⟩
theorem b152:bodied PP 152:=by unfold bodied;kernel_rfl
theorem b153:bodied PP 153:=by unfold bodied;kernel_rfl
theorem cb199:conB PP 199=true:=by kernel_rfl
theorem b66:bodied PP 66:=by unfold bodied;kernel_rfl
theorem b65:bodied PP 65:=by unfold bodied;kernel_rfl
theorem b26:bodied PP 26:=by unfold bodied;kernel_rfl
abbrev L204(x:aE):List Leaf:=[.d (kL kS) x.l_.Names,.d (kL (kI .u32)) x.l_.Up,.d (kI .i64) x.s_.Pc.V,.d (kI .i64) x.s_.Pc.L,.d (kL (kR aH)) x.s_.Code,.d (kL (kR aB)) x.s_.Mem,.d (kL (kR aD)) x.s_.Stack,.d (kL (kR aB)) x.s_.Out,.d (kI .i64) x.x_.Op,.d (kI .i64) x.x_.N,.d (kI .i64) x.x_.L,.d kB x.a_.Ret,.d (kI .i64) x.a_.V,.d (kI .i64) x.a_.L,.d kB x.b_.Ret,.d (kI .i64) x.b_.V,.d (kI .i64) x.b_.L,.d kB x.r_.Ret,.d (kI .i64) x.r_.V,.d (kI .i64) x.r_.L,.d (kI .i64) x.below_,.d (kI .i64) x.one_.x0_,.d (kI .i64) x.one_.x1_,.d (kI .i64) x.one_.x2_]
theorem o204_2:fofs PP 204 2=some 8:=by kernel_rfl
instance jo204_2:FofI PP 204 2 8:=⟨o204_2⟩
instance jo73_2:FofI PP 73 2 2:=⟨o73_2⟩
theorem o204_7:fofs PP 204 7=some 21:=by kernel_rfl
instance jo204_7:FofI PP 204 7 21:=⟨o204_7⟩
theorem u202:PP.underlying 202=some (.array 3 3):=by kernel_rfl
theorem ze88:zeroIs PP 88 [(.bool false),(.int .i64 0),(.int .i64 0)]:=by unfold zeroIs;kernel_rfl
abbrev Z88:List Leaf:=[.d kB false,.d (kI .i64) 0,.d (kI .i64) 0]
theorem zl88:∀g:G,leafs Z88 g [(.bool false),(.int .i64 0),(.int .i64 0)]:=fun g=>⟨[(.bool false)],_,rfl,zB g.H,⟨[(.int .i64 0)],_,rfl,zI_i64 g.H,⟨[(.int .i64 0)],_,rfl,zI_i64 g.H,rfl⟩⟩⟩
theorem o204_1:fofs PP 204 1=some 2:=by kernel_rfl
instance jo204_1:FofI PP 204 1 2:=⟨o204_1⟩
theorem b155:bodied PP 155:=by unfold bodied;kernel_rfl
theorem b192:bodied PP 192:=by unfold bodied;kernel_rfl
theorem o204_3:fofs PP 204 3=some 11:=by kernel_rfl
instance jo204_3:FofI PP 204 3 11:=⟨o204_3⟩
abbrev L88(x:aF):List Leaf:=[.d kB x.Ret,.d (kI .i64) x.V,.d (kI .i64) x.L]
theorem pt88{x:aF}:Part (L88 x) (kR aD) x:=by
 have h:Part _ (kR aD) x:=(lfS (lfC lf1 (lfC lf1 (lfC lf1 lfN))))
 exact h
theorem o204_6:fofs PP 204 6=some 20:=by kernel_rfl
instance jo204_6:FofI PP 204 6 20:=⟨o204_6⟩
instance jo88_2:FofI PP 88 2 2:=⟨o88_2⟩
theorem b175:bodied PP 175:=by unfold bodied;kernel_rfl
theorem o204_4:fofs PP 204 4=some 14:=by kernel_rfl
instance jo204_4:FofI PP 204 4 14:=⟨o204_4⟩
instance jo88_1:FofI PP 88 1 1:=⟨o88_1⟩
theorem b193:bodied PP 193:=by unfold bodied;kernel_rfl
theorem b176:bodied PP 176:=by unfold bodied;kernel_rfl
theorem b179:bodied PP 179:=by unfold bodied;kernel_rfl
instance jo73_1:FofI PP 73 1 1:=⟨o73_1⟩
theorem o204_5:fofs PP 204 5=some 17:=by kernel_rfl
instance jo204_5:FofI PP 204 5 17:=⟨o204_5⟩
theorem u216:PP.underlying 216=some (.map 3 1):=by kernel_rfl
instance jo73_0:FofI PP 73 0 0:=⟨o73_0⟩
theorem zv1:zeroV PP 1 .nilFunc:=by unfold zeroV;kernel_rfl
theorem b173:bodied PP 173:=by unfold bodied;kernel_rfl
theorem b174:bodied PP 174:=by unfold bodied;kernel_rfl
theorem b177:bodied PP 177:=by unfold bodied;kernel_rfl
theorem b178:bodied PP 178:=by unfold bodied;kernel_rfl
theorem b180:bodied PP 180:=by unfold bodied;kernel_rfl
theorem b181:bodied PP 181:=by unfold bodied;kernel_rfl
theorem b194:bodied PP 194:=by unfold bodied;kernel_rfl
theorem o225_2:fofs PP 225 2=some 3:=by kernel_rfl
instance jo225_2:FofI PP 225 2 3:=⟨o225_2⟩
theorem t223:tinf PP 223=some (false,1):=by kernel_rfl
theorem el223:ElTy PP 223 221 1 16:=⟨by kernel_rfl,by kernel_rfl⟩
theorem z223:sizeIs PP 223 1:=by unfold sizeIs;kernel_rfl
theorem u5:PP.underlying 5=some (.int .u8):=by kernel_rfl
theorem b28:bodied PP 28:=by unfold bodied;kernel_rfl
theorem u223:PP.underlying 223=some (.slice 221):=by kernel_rfl
theorem z221:sizeIs PP 221 1:=by unfold sizeIs;kernel_rfl
theorem t221:tinf PP 221=some (false,1):=by kernel_rfl
theorem el56:ElTy PP 56 3 1 8:=⟨by kernel_rfl,by kernel_rfl⟩
theorem cb218:conB PP 218=true:=by kernel_rfl
theorem zv218:zeroV PP 218 (.bool false):=by unfold zeroV;kernel_rfl
theorem cb227:conB PP 227=true:=by kernel_rfl
theorem zv227:zeroV PP 227 (.int .i64 0):=by unfold zeroV;kernel_rfl
theorem o225_0:fofs PP 225 0=some 0:=by kernel_rfl
instance jo225_0:FofI PP 225 0 0:=⟨o225_0⟩
abbrev L25(x:az):List Leaf:=[.d (kL kS) x.Names,.d (kL (kI .u32)) x.Up]
theorem pt25{x:az}:Part (L25 x) (kR aC) x:=by
 have h:Part _ (kR aC) x:=(lfS (lfC lf1 (lfC lf1 lfN)))
 exact h
theorem b195:bodied PP 195:=by unfold bodied;kernel_rfl
theorem o225_1:fofs PP 225 1=some 2:=by kernel_rfl
instance jo225_1:FofI PP 225 1 2:=⟨o225_1⟩
theorem b196:bodied PP 196:=by unfold bodied;kernel_rfl
theorem b197:bodied PP 197:=by unfold bodied;kernel_rfl
theorem pl225:places PP 225=some [(0,2),(2,1),(3,1)]:=by kernel_rfl
theorem po225_2:∀q f,gf[q]?=some f->([(0,2),(2,1),(3,1)]:List (Nat×Nat))[q]?=some (offF gf q,f.d.sz):=fun q f h=>by
 unfold gf at h
 match q,h with
 |0,h=>cases h;rfl
 |1,h=>cases h;rfl
 |2,h=>cases h;rfl
 |n+3,h=>simp at h
theorem ze225:zeroIs PP 225 [(.slice none 0 0),(.slice none 0 0),(.slice none 0 0),(.slice none 0 0)]:=by unfold zeroIs;kernel_rfl
theorem b183:bodied PP 183:=by unfold bodied;kernel_rfl
theorem pl88:places PP 88=some [(0,1),(1,1),(2,1)]:=by kernel_rfl
theorem po88:∀q f,aD[q]?=some f->([(0,1),(1,1),(2,1)]:List (Nat×Nat))[q]?=some (offF aD q,f.d.sz):=fun q f h=>by
 unfold aD at h
 match q,h with
 |0,h=>cases h;rfl
 |1,h=>cases h;rfl
 |2,h=>cases h;rfl
 |n+3,h=>simp at h
theorem el33:ElTy PP 33 88 3 24:=⟨by kernel_rfl,by kernel_rfl⟩
theorem u147:PP.underlying 147=some (.slice 33):=by kernel_rfl
instance ju147:UndI PP 147 33:=⟨u147⟩
theorem dV:∀H,(kR aD).reps H [(.bool false),(.int .i64 0),(.int .i64 0)] (⟨false,0,0⟩:aF):=fun H=>⟨[(.bool false)],_,rfl,zB H,⟨[(.int .i64 0)],_,rfl,zI_i64 H,⟨[(.int .i64 0)],_,rfl,zI_i64 H,rfl⟩⟩⟩
theorem b198:bodied PP 198:=by unfold bodied;kernel_rfl
theorem b184:bodied PP 184:=by unfold bodied;kernel_rfl
instance jo35_0:FofI PP 35 0 0:=⟨o35_0⟩
instance jo30_0:FofI PP 30 0 0:=⟨o30_0⟩
theorem b185:bodied PP 185:=by unfold bodied;kernel_rfl
theorem el32:ElTy PP 32 30 2 16:=⟨by kernel_rfl,by kernel_rfl⟩
theorem b95:bodied PP 95:=by unfold bodied;kernel_rfl
theorem pl30:places PP 30=some [(0,1),(1,1)]:=by kernel_rfl
theorem po30:∀q f,aB[q]?=some f->([(0,1),(1,1)]:List (Nat×Nat))[q]?=some (offF aB q,f.d.sz):=fun q f h=>by
 unfold aB at h
 match q,h with
 |0,h=>cases h;rfl
 |1,h=>cases h;rfl
 |n+2,h=>simp at h
theorem ze30:zeroIs PP 30 [(.int .i64 0),(.int .i64 0)]:=by unfold zeroIs;kernel_rfl
instance jo30_1:FofI PP 30 1 1:=⟨o30_1⟩
theorem el147:ElTy PP 147 33 1 24:=⟨by kernel_rfl,by kernel_rfl⟩
theorem ze3:zeroIs PP 3 [(.int .i64 0)]:=by unfold zeroIs;kernel_rfl
instance jt35:TinI PP 35 (kR av):=⟨t35⟩
theorem po202:∀q f,kD[q]?=some f->(q*1,1)=(offF kD q,f.d.sz):=fun q f h=>by
 unfold kD at h
 match q,h with
 |0,h=>cases h;rfl
 |1,h=>cases h;rfl
 |2,h=>cases h;rfl
 |n+3,h=>simp at h
theorem ze202:zeroIs PP 202 [(.int .i64 0),(.int .i64 0),(.int .i64 0)]:=by unfold zeroIs;kernel_rfl
theorem pl204:places PP 204=some [(0,2),(2,6),(8,3),(11,3),(14,3),(17,3),(20,1),(21,3)]:=by kernel_rfl
theorem po204:∀q f,gv[q]?=some f->([(0,2),(2,6),(8,3),(11,3),(14,3),(17,3),(20,1),(21,3)]:List (Nat×Nat))[q]?=some (offF gv q,f.d.sz):=fun q f h=>by
 unfold gv at h
 match q,h with
 |0,h=>cases h;rfl
 |1,h=>cases h;rfl
 |2,h=>cases h;rfl
 |3,h=>cases h;rfl
 |4,h=>cases h;rfl
 |5,h=>cases h;rfl
 |6,h=>cases h;rfl
 |7,h=>cases h;rfl
 |n+8,h=>simp at h
theorem ze204:zeroIs PP 204 [(.slice none 0 0),(.slice none 0 0),(.int .i64 0),(.int .i64 0),(.slice none 0 0),(.slice none 0 0),(.slice none 0 0),(.slice none 0 0),(.int .i64 0),(.int .i64 0),(.int .i64 0),(.bool false),(.int .i64 0),(.int .i64 0),(.bool false),(.int .i64 0),(.int .i64 0),(.bool false),(.int .i64 0),(.int .i64 0),(.int .i64 0),(.int .i64 0),(.int .i64 0),(.int .i64 0)]:=by unfold zeroIs;kernel_rfl
theorem pt204{x:aE}:Part (L204 x) (kR gv) x:=by
 have h:Part _ (kR gv) x:=(lfS (lfC (lfS (lfC lf1 (lfC lf1 lfN))) (lfC (lfS (lfC (lfS (lfC lf1 (lfC lf1 lfN))) (lfC lf1 (lfC lf1 (lfC lf1 (lfC lf1 lfN)))))) (lfC (lfS (lfC lf1 (lfC lf1 (lfC lf1 lfN)))) (lfC (lfS (lfC lf1 (lfC lf1 (lfC lf1 lfN)))) (lfC (lfS (lfC lf1 (lfC lf1 (lfC lf1 lfN)))) (lfC (lfS (lfC lf1 (lfC lf1 (lfC lf1 lfN)))) (lfC lf1 (lfC (lfS (lfC lf1 (lfC lf1 (lfC lf1 lfN)))) lfN)))))))))
 exact h
theorem b157:bodied PP 157:=by unfold bodied;kernel_rfl
abbrev L58(x:aW):List Leaf:=[.d (kL (kI .i64)) x.May,.d (kL (kI .i64)) x.Res,.d (kL (kI .i64)) x.Pc]
theorem b160:bodied PP 160:=by unfold bodied;kernel_rfl
theorem u20:PP.underlying 20=some (.interface #[]):=by kernel_rfl
theorem b154:bodied PP 154:=by unfold bodied;kernel_rfl
instance jt28:TinI PP 28 (kR bn):=⟨t28⟩
theorem gx:∀H,(kR aB).reps H [(.int .i64 0),(.int .i64 0)] (⟨0,0⟩:aG):=fun H=>⟨[(.int .i64 0)],_,rfl,zI_i64 H,⟨[(.int .i64 0)],_,rfl,zI_i64 H,rfl⟩⟩
theorem pl35:places PP 35=some [(0,2),(2,1),(3,1),(4,1),(5,1)]:=by kernel_rfl
theorem po35:∀q f,av[q]?=some f->([(0,2),(2,1),(3,1),(4,1),(5,1)]:List (Nat×Nat))[q]?=some (offF av q,f.d.sz):=fun q f h=>by
 unfold av at h
 match q,h with
 |0,h=>cases h;rfl
 |1,h=>cases h;rfl
 |2,h=>cases h;rfl
 |3,h=>cases h;rfl
 |4,h=>cases h;rfl
 |n+5,h=>simp at h
theorem b37:bodied PP 37:=by unfold bodied;kernel_rfl
theorem b75:bodied PP 75:=by unfold bodied;kernel_rfl
theorem o68_0:fofs PP 68 0=some 0:=by kernel_rfl
instance pJ:FlI PP 68 0 cR (kR aC) ed.l_:=⟨o68_0,rfl⟩
theorem o68_2:fofs PP 68 2=some 3:=by kernel_rfl
instance pK:FlI PP 68 2 cR (kI .i64) ed.o_:=⟨o68_2,rfl⟩
theorem ze98:zeroIs PP 98 [.nilFunc,.nilFunc,.nilFunc]:=by unfold zeroIs;kernel_rfl
noncomputable abbrev Z98:List Leaf:=[.d (kFn PP (rl2 (kR aH) (kR aH) kB)) none,.d (kFn PP (rl1 (kR aH) (kI .i64))) none,.d (kFn PP (rl2 (kR aH) (kR aH) kB)) none]
theorem zl98:∀g:G,leafs Z98 g [.nilFunc,.nilFunc,.nilFunc]:=fun g=>⟨[.nilFunc],_,rfl,zFn g.H,⟨[.nilFunc],_,rfl,zFn g.H,⟨[.nilFunc],_,rfl,zFn g.H,rfl⟩⟩⟩
theorem b78:bodied PP 78:=by unfold bodied;kernel_rfl
theorem b79:bodied PP 79:=by unfold bodied;kernel_rfl
theorem b80:bodied PP 80:=by unfold bodied;kernel_rfl
theorem pl98:places PP 98=some [(0,1),(1,1),(2,1)]:=by kernel_rfl
theorem po98:∀q f,dX[q]?=some f->([(0,1),(1,1),(2,1)]:List (Nat×Nat))[q]?=some (offF dX q,f.d.sz):=fun q f h=>by
 unfold dX at h
 match q,h with
 |0,h=>cases h;rfl
 |1,h=>cases h;rfl
 |2,h=>cases h;rfl
 |n+3,h=>simp at h
theorem z98:sizeIs PP 98 3:=by unfold sizeIs;kernel_rfl
theorem t98:tinf PP 98=some (true,3):=by kernel_rfl
theorem u145:PP.underlying 145=some (.slice 31):=by kernel_rfl
instance ju145:UndI PP 145 31:=⟨u145⟩
theorem ze73:zeroIs PP 73 [(.int .i64 0),(.int .i64 0),(.int .i64 0)]:=by unfold zeroIs;kernel_rfl
abbrev Z73:List Leaf:=[.d (kI .i64) 0,.d (kI .i64) 0,.d (kI .i64) 0]
theorem zl73:∀g:G,leafs Z73 g [(.int .i64 0),(.int .i64 0),(.int .i64 0)]:=fun g=>⟨[(.int .i64 0)],_,rfl,zI_i64 g.H,⟨[(.int .i64 0)],_,rfl,zI_i64 g.H,⟨[(.int .i64 0)],_,rfl,zI_i64 g.H,rfl⟩⟩⟩
theorem o98_1:fofs PP 98 1=some 1:=by kernel_rfl
instance pp:FlI PP 98 1 dX (kFn PP (rl1 (kR aH) (kI .i64))) eK.label_:=⟨o98_1,rfl⟩
theorem t96:tinf PP 96=some (false,1):=by kernel_rfl
instance jt96:TinI PP 96 (kFn PP (rl1 (kR aH) (kI .i64))):=⟨t96⟩
theorem ze104:zeroIs PP 104 [.nilFunc,.nilFunc,.nilFunc]:=by unfold zeroIs;kernel_rfl
noncomputable abbrev Z104:List Leaf:=[.d (kFn PP (rl2 (kR aB) (kR aB) kB)) none,.d (kFn PP (rl1 (kR aB) (kI .i64))) none,.d (kFn PP (rl2 (kR aB) (kR aB) kB)) none]
theorem zl104:∀g:G,leafs Z104 g [.nilFunc,.nilFunc,.nilFunc]:=fun g=>⟨[.nilFunc],_,rfl,zFn g.H,⟨[.nilFunc],_,rfl,zFn g.H,⟨[.nilFunc],_,rfl,zFn g.H,rfl⟩⟩⟩
theorem b81:bodied PP 81:=by unfold bodied;kernel_rfl
theorem b82:bodied PP 82:=by unfold bodied;kernel_rfl
theorem b83:bodied PP 83:=by unfold bodied;kernel_rfl
theorem pl104:places PP 104=some [(0,1),(1,1),(2,1)]:=by kernel_rfl
theorem po104:∀q f,dY[q]?=some f->([(0,1),(1,1),(2,1)]:List (Nat×Nat))[q]?=some (offF dY q,f.d.sz):=fun q f h=>by
 unfold dY at h
 match q,h with
 |0,h=>cases h;rfl
 |1,h=>cases h;rfl
 |2,h=>cases h;rfl
 |n+3,h=>simp at h
theorem z104:sizeIs PP 104 3:=by unfold sizeIs;kernel_rfl
theorem t104:tinf PP 104=some (true,3):=by kernel_rfl
theorem u146:PP.underlying 146=some (.slice 32):=by kernel_rfl
instance ju146:UndI PP 146 32:=⟨u146⟩
abbrev Z30:List Leaf:=[.d (kI .i64) 0,.d (kI .i64) 0]
theorem zl30:∀g:G,leafs Z30 g [(.int .i64 0),(.int .i64 0)]:=fun g=>⟨[(.int .i64 0)],_,rfl,zI_i64 g.H,⟨[(.int .i64 0)],_,rfl,zI_i64 g.H,rfl⟩⟩
theorem o104_1:fofs PP 104 1=some 1:=by kernel_rfl
instance oQ:FlI PP 104 1 dY (kFn PP (rl1 (kR aB) (kI .i64))) eL.label_:=⟨o104_1,rfl⟩
theorem t102:tinf PP 102=some (false,1):=by kernel_rfl
instance jt102:TinI PP 102 (kFn PP (rl1 (kR aB) (kI .i64))):=⟨t102⟩
theorem ze110:zeroIs PP 110 [.nilFunc,.nilFunc,.nilFunc]:=by unfold zeroIs;kernel_rfl
noncomputable abbrev Z110:List Leaf:=[.d (kFn PP (rl2 (kR aD) (kR aD) kB)) none,.d (kFn PP (rl1 (kR aD) (kI .i64))) none,.d (kFn PP (rl2 (kR aD) (kR aD) kB)) none]
theorem zl110:∀g:G,leafs Z110 g [.nilFunc,.nilFunc,.nilFunc]:=fun g=>⟨[.nilFunc],_,rfl,zFn g.H,⟨[.nilFunc],_,rfl,zFn g.H,⟨[.nilFunc],_,rfl,zFn g.H,rfl⟩⟩⟩
theorem b84:bodied PP 84:=by unfold bodied;kernel_rfl
theorem b85:bodied PP 85:=by unfold bodied;kernel_rfl
theorem b86:bodied PP 86:=by unfold bodied;kernel_rfl
theorem pl110:places PP 110=some [(0,1),(1,1),(2,1)]:=by kernel_rfl
theorem po110:∀q f,dZ[q]?=some f->([(0,1),(1,1),(2,1)]:List (Nat×Nat))[q]?=some (offF dZ q,f.d.sz):=fun q f h=>by
 unfold dZ at h
 match q,h with
 |0,h=>cases h;rfl
 |1,h=>cases h;rfl
 |2,h=>cases h;rfl
 |n+3,h=>simp at h
theorem z110:sizeIs PP 110 3:=by unfold sizeIs;kernel_rfl
theorem t110:tinf PP 110=some (true,3):=by kernel_rfl
theorem o110_1:fofs PP 110 1=some 1:=by kernel_rfl
instance oR:FlI PP 110 1 dZ (kFn PP (rl1 (kR aD) (kI .i64))) eM.label_:=⟨o110_1,rfl⟩
theorem t108:tinf PP 108=some (false,1):=by kernel_rfl
instance jt108:TinI PP 108 (kFn PP (rl1 (kR aD) (kI .i64))):=⟨t108⟩
theorem u143:PP.underlying 143=some (.slice 56):=by kernel_rfl
instance ju143:UndI PP 143 56:=⟨u143⟩
theorem z56:sizeIs PP 56 1:=by unfold sizeIs;kernel_rfl
theorem b77:bodied PP 77:=by unfold bodied;kernel_rfl
theorem b87:bodied PP 87:=by unfold bodied;kernel_rfl
theorem o113_0:fofs PP 113 0=some 0:=by kernel_rfl
instance py:FlI PP 113 0 bX (kR aC) bY.l_:=⟨o113_0,rfl⟩
theorem o113_1:fofs PP 113 1=some 2:=by kernel_rfl
instance pz:FlI PP 113 1 bX (kI .i64) bY.o_:=⟨o113_1,rfl⟩
theorem o98_0:fofs PP 98 0=some 0:=by kernel_rfl
instance pq:FlI PP 98 0 dX (kFn PP (rl2 (kR aH) (kR aH) kB)) eK.same_:=⟨o98_0,rfl⟩
theorem t95:tinf PP 95=some (false,1):=by kernel_rfl
instance jt95:TinI PP 95 (kFn PP (rl2 (kR aH) (kR aH) kB)):=⟨t95⟩
theorem t113:tinf PP 113=some (true,3):=by kernel_rfl
instance jt113:TinI PP 113 (kR bX):=⟨t113⟩
theorem b52:bodied PP 52:=by unfold bodied;kernel_rfl
theorem o98_2:fofs PP 98 2=some 2:=by kernel_rfl
instance pr:FlI PP 98 2 dX (kFn PP (rl2 (kR aH) (kR aH) kB)) eK.seen_:=⟨o98_2,rfl⟩
theorem b89:bodied PP 89:=by unfold bodied;kernel_rfl
theorem o104_0:fofs PP 104 0=some 0:=by kernel_rfl
instance oS:FlI PP 104 0 dY (kFn PP (rl2 (kR aB) (kR aB) kB)) eL.same_:=⟨o104_0,rfl⟩
theorem t101:tinf PP 101=some (false,1):=by kernel_rfl
instance jt101:TinI PP 101 (kFn PP (rl2 (kR aB) (kR aB) kB)):=⟨t101⟩
theorem o104_2:fofs PP 104 2=some 2:=by kernel_rfl
instance oT:FlI PP 104 2 dY (kFn PP (rl2 (kR aB) (kR aB) kB)) eL.seen_:=⟨o104_2,rfl⟩
theorem b91:bodied PP 91:=by unfold bodied;kernel_rfl
theorem eqk30:EqK PP (kR aB) 30 2:=eqKR (fs:=[(true,0,3),(true,1,3)]) (by kernel_rfl) (by kernel_rfl) (.cons rfl t3 (eqKI u3) (.cons rfl t3 (eqKI u3) .nil)) (fun x y=>by cases x;cases y;simp[aG.mk.injEq,Bool.decide_and])
theorem eg30:PP.eqGuardType PP.depth 30=false:=by kernel_rfl
theorem b92:bodied PP 92:=by unfold bodied;kernel_rfl
theorem b94:bodied PP 94:=by unfold bodied;kernel_rfl
theorem o110_0:fofs PP 110 0=some 0:=by kernel_rfl
instance oU:FlI PP 110 0 dZ (kFn PP (rl2 (kR aD) (kR aD) kB)) eM.same_:=⟨o110_0,rfl⟩
theorem t107:tinf PP 107=some (false,1):=by kernel_rfl
instance jt107:TinI PP 107 (kFn PP (rl2 (kR aD) (kR aD) kB)):=⟨t107⟩
theorem o110_2:fofs PP 110 2=some 2:=by kernel_rfl
instance oV:FlI PP 110 2 dZ (kFn PP (rl2 (kR aD) (kR aD) kB)) eM.seen_:=⟨o110_2,rfl⟩
theorem b98:bodied PP 98:=by unfold bodied;kernel_rfl
theorem el145:ElTy PP 145 31 1 24:=⟨by kernel_rfl,by kernel_rfl⟩
theorem b45:bodied PP 45:=by unfold bodied;kernel_rfl
theorem el146:ElTy PP 146 32 1 24:=⟨by kernel_rfl,by kernel_rfl⟩
theorem b47:bodied PP 47:=by unfold bodied;kernel_rfl
theorem el143:ElTy PP 143 56 1 24:=⟨by kernel_rfl,by kernel_rfl⟩
theorem pl113:places PP 113=some [(0,2),(2,1)]:=by kernel_rfl
theorem po113:∀q f,bX[q]?=some f->([(0,2),(2,1)]:List (Nat×Nat))[q]?=some (offF bX q,f.d.sz):=fun q f h=>by
 unfold bX at h
 match q,h with
 |0,h=>cases h;rfl
 |1,h=>cases h;rfl
 |n+2,h=>simp at h
theorem ze113:zeroIs PP 113 [(.slice none 0 0),(.slice none 0 0),(.int .i64 0)]:=by unfold zeroIs;kernel_rfl
abbrev Z113:List Leaf:=[.d (kL kS) [],.d (kL (kI .u32)) [],.d (kI .i64) 0]
theorem zl113:∀g:G,leafs Z113 g [(.slice none 0 0),(.slice none 0 0),(.int .i64 0)]:=fun g=>⟨[(.slice none 0 0)],_,rfl,zL g.H,⟨[(.slice none 0 0)],_,rfl,zL g.H,⟨[(.int .i64 0)],_,rfl,zI_i64 g.H,rfl⟩⟩⟩
abbrev L113(x:bY):List Leaf:=[.d (kL kS) x.l_.Names,.d (kL (kI .u32)) x.l_.Up,.d (kI .i64) x.o_]
theorem pt113{x:bY}:Part (L113 x) (kR bX) x:=by
 have h:Part _ (kR bX) x:=(lfS (lfC (lfS (lfC lf1 (lfC lf1 lfN))) (lfC lf1 lfN)))
 exact h
theorem z113:sizeIs PP 113 3:=by unfold sizeIs;kernel_rfl
theorem b50:bodied PP 50:=by unfold bodied;kernel_rfl
theorem b51:bodied PP 51:=by unfold bodied;kernel_rfl
theorem b53:bodied PP 53:=by unfold bodied;kernel_rfl
theorem o68_1:fofs PP 68 1=some 2:=by kernel_rfl
instance pL:FlI PP 68 1 cR (kR bn) ed.t_:=⟨o68_1,rfl⟩
theorem o68_4:fofs PP 68 4=some 5:=by kernel_rfl
instance pM:FlI PP 68 4 cR (kR av) ed.a_:=⟨o68_4,rfl⟩
theorem o68_3:fofs PP 68 3=some 4:=by kernel_rfl
instance pN:FlI PP 68 3 cR (kI .i64) ed.fuel_:=⟨o68_3,rfl⟩
theorem o68_5:fofs PP 68 5=some 11:=by kernel_rfl
instance pO:FlI PP 68 5 cR (kR av) ed.b_:=⟨o68_5,rfl⟩
theorem t68:tinf PP 68=some (true,17):=by kernel_rfl
instance jt68:TinI PP 68 (kR cR):=⟨t68⟩
theorem b70:bodied PP 70:=by unfold bodied;kernel_rfl
theorem b76:bodied PP 76:=by unfold bodied;kernel_rfl
theorem ze49:zeroIs PP 49 [(.slice none 0 0)]:=by unfold zeroIs;kernel_rfl
theorem t49:tinf PP 49=some (false,1):=by kernel_rfl
theorem el49:ElTy PP 49 35 6 112:=⟨by kernel_rfl,by kernel_rfl⟩
theorem z49:sizeIs PP 49 1:=by unfold sizeIs;kernel_rfl
theorem u49:PP.underlying 49=some (.slice 35):=by kernel_rfl
instance ju49:UndI PP 49 35:=⟨u49⟩
theorem b113:bodied PP 113:=by unfold bodied;kernel_rfl
theorem b67:bodied PP 67:=by unfold bodied;kernel_rfl
theorem b69:bodied PP 69:=by unfold bodied;kernel_rfl
theorem nE:∀H,(kR av).reps H [(.int .i64 0),(.int .i64 0),(.slice none 0 0),(.slice none 0 0),(.slice none 0 0),(.slice none 0 0)] (⟨(⟨0,0⟩:aG),[],[],[],[]⟩:al):=fun H=>⟨[(.int .i64 0),(.int .i64 0)],_,rfl,gx H,⟨[(.slice none 0 0)],_,rfl,zL H,⟨[(.slice none 0 0)],_,rfl,zL H,⟨[(.slice none 0 0)],_,rfl,zL H,⟨[(.slice none 0 0)],_,rfl,zL H,rfl⟩⟩⟩⟩⟩
theorem b68:bodied PP 68:=by unfold bodied;kernel_rfl
theorem b38:bodied PP 38:=by unfold bodied;kernel_rfl
theorem u63:PP.underlying 63=some (.map 3 61):=by kernel_rfl
theorem b39:bodied PP 39:=by unfold bodied;kernel_rfl
theorem b40:bodied PP 40:=by unfold bodied;kernel_rfl
theorem zv61:zeroV PP 61 .nilFunc:=by unfold zeroV;kernel_rfl
theorem pl68:places PP 68=some [(0,2),(2,1),(3,1),(4,1),(5,6),(11,6)]:=by kernel_rfl
theorem po68:∀q f,cR[q]?=some f->([(0,2),(2,1),(3,1),(4,1),(5,6),(11,6)]:List (Nat×Nat))[q]?=some (offF cR q,f.d.sz):=fun q f h=>by
 unfold cR at h
 match q,h with
 |0,h=>cases h;rfl
 |1,h=>cases h;rfl
 |2,h=>cases h;rfl
 |3,h=>cases h;rfl
 |4,h=>cases h;rfl
 |5,h=>cases h;rfl
 |n+6,h=>simp at h
theorem ze68:zeroIs PP 68 [(.slice none 0 0),(.slice none 0 0),(.slice none 0 0),(.int .i64 0),(.int .i64 0),(.int .i64 0),(.int .i64 0),(.slice none 0 0),(.slice none 0 0),(.slice none 0 0),(.slice none 0 0),(.int .i64 0),(.int .i64 0),(.slice none 0 0),(.slice none 0 0),(.slice none 0 0),(.slice none 0 0)]:=by unfold zeroIs;kernel_rfl
theorem b140:bodied PP 140:=by unfold bodied;kernel_rfl
theorem b101:bodied PP 101:=by unfold bodied;kernel_rfl
theorem b117:bodied PP 117:=by unfold bodied;kernel_rfl
theorem b187:bodied PP 187:=by unfold bodied;kernel_rfl
theorem b141:bodied PP 141:=by unfold bodied;kernel_rfl
theorem b142:bodied PP 142:=by unfold bodied;kernel_rfl
theorem ze137:zeroIs PP 137 [(.int .i64 0),(.int .i64 0)]:=by unfold zeroIs;kernel_rfl
abbrev Z137:List Leaf:=[.d (kI .i64) 0,.d (kI .i64) 0]
theorem zl137:∀g:G,leafs Z137 g [(.int .i64 0),(.int .i64 0)]:=fun g=>⟨[(.int .i64 0)],_,rfl,zI_i64 g.H,⟨[(.int .i64 0)],_,rfl,zI_i64 g.H,rfl⟩⟩
theorem pl137:places PP 137=some [(0,1),(1,1)]:=by kernel_rfl
theorem po137:∀q f,dz[q]?=some f->([(0,1),(1,1)]:List (Nat×Nat))[q]?=some (offF dz q,f.d.sz):=fun q f h=>by
 unfold dz at h
 match q,h with
 |0,h=>cases h;rfl
 |1,h=>cases h;rfl
 |n+2,h=>simp at h
theorem z137:sizeIs PP 137 2:=by unfold sizeIs;kernel_rfl
theorem t137:tinf PP 137=some (true,2):=by kernel_rfl
theorem b120:bodied PP 120:=by unfold bodied;kernel_rfl
instance jo88_0:FofI PP 88 0 0:=⟨o88_0⟩
theorem b121:bodied PP 121:=by unfold bodied;kernel_rfl
theorem b122:bodied PP 122:=by unfold bodied;kernel_rfl
theorem ff137_1:ffld PP 137 1=some (1,39):=by kernel_rfl
theorem b58:bodied PP 58:=by unfold bodied;kernel_rfl
abbrev L73(x:aI):List Leaf:=[.d (kI .i64) x.Op,.d (kI .i64) x.N,.d (kI .i64) x.L]
theorem b99:bodied PP 99:=by unfold bodied;kernel_rfl
theorem b56:bodied PP 56:=by unfold bodied;kernel_rfl
theorem b57:bodied PP 57:=by unfold bodied;kernel_rfl
theorem b59:bodied PP 59:=by unfold bodied;kernel_rfl
theorem o43_0:fofs PP 43 0=some 0:=by kernel_rfl
instance ot:FlI PP 43 0 bM (kR aC) cd.L:=⟨o43_0,rfl⟩
theorem o43_1:fofs PP 43 1=some 2:=by kernel_rfl
instance ou:FlI PP 43 1 bM (kR bn) cd.T:=⟨o43_1,rfl⟩
theorem o43_3:fofs PP 43 3=some 4:=by kernel_rfl
instance ov:FlI PP 43 3 bM (kI .i64) cd.Fuel:=⟨o43_3,rfl⟩
theorem o43_2:fofs PP 43 2=some 3:=by kernel_rfl
instance ow:FlI PP 43 2 bM (kI .i64) cd.O:=⟨o43_2,rfl⟩
theorem b21:bodied PP 21:=by unfold bodied;kernel_rfl
theorem pl28:places PP 28=some [(0,1)]:=by kernel_rfl
theorem po28:∀q f,bn[q]?=some f->([(0,1)]:List (Nat×Nat))[q]?=some (offF bn q,f.d.sz):=fun q f h=>by
 unfold bn at h
 match q,h with
 |0,h=>cases h;rfl
 |n+1,h=>simp at h
theorem el23:ElTy PP 23 70 1 4:=⟨by kernel_rfl,by kernel_rfl⟩
theorem po25:∀q f,aC[q]?=some f->([(0,1),(1,1)]:List (Nat×Nat))[q]?=some (offF aC q,f.d.sz):=fun q f h=>by
 unfold aC at h
 match q,h with
 |0,h=>cases h;rfl
 |1,h=>cases h;rfl
 |n+2,h=>simp at h
abbrev Z25:List Leaf:=[.d (kL kS) [],.d (kL (kI .u32)) []]
theorem zl25:∀g:G,leafs Z25 g [(.slice none 0 0),(.slice none 0 0)]:=fun g=>⟨[(.slice none 0 0)],_,rfl,zL g.H,⟨[(.slice none 0 0)],_,rfl,zL g.H,rfl⟩⟩
theorem b22:bodied PP 22:=by unfold bodied;kernel_rfl
theorem pl73:places PP 73=some [(0,1),(1,1),(2,1)]:=by kernel_rfl
theorem po73:∀q f,aH[q]?=some f->([(0,1),(1,1),(2,1)]:List (Nat×Nat))[q]?=some (offF aH q,f.d.sz):=fun q f h=>by
 unfold aH at h
 match q,h with
 |0,h=>cases h;rfl
 |1,h=>cases h;rfl
 |2,h=>cases h;rfl
 |n+3,h=>simp at h
theorem el31:ElTy PP 31 73 3 24:=⟨by kernel_rfl,by kernel_rfl⟩
theorem ze158:zeroIs PP 158 [(.bool false),(.bool false),(.int .i64 0),(.int .i64 0),(.bool false),(.int .i64 0),(.int .i64 0),(.bool false),(.int .i64 0),(.int .i64 0),(.int .i64 0),(.int .i64 0),(.int .i64 0),(.int .i64 0)]:=by unfold zeroIs;kernel_rfl
abbrev Z158:List Leaf:=[.d kB false,.d kB false,.d (kI .i64) 0,.d (kI .i64) 0,.d kB false,.d (kI .i64) 0,.d (kI .i64) 0,.d kB false,.d (kI .i64) 0,.d (kI .i64) 0,.d (kI .i64) 0,.d (kI .i64) 0,.d (kI .i64) 0,.d (kI .i64) 0]
theorem zl158:∀g:G,leafs Z158 g [(.bool false),(.bool false),(.int .i64 0),(.int .i64 0),(.bool false),(.int .i64 0),(.int .i64 0),(.bool false),(.int .i64 0),(.int .i64 0),(.int .i64 0),(.int .i64 0),(.int .i64 0),(.int .i64 0)]:=fun g=>⟨[(.bool false)],_,rfl,zB g.H,⟨[(.bool false)],_,rfl,zB g.H,⟨[(.int .i64 0)],_,rfl,zI_i64 g.H,⟨[(.int .i64 0)],_,rfl,zI_i64 g.H,⟨[(.bool false)],_,rfl,zB g.H,⟨[(.int .i64 0)],_,rfl,zI_i64 g.H,⟨[(.int .i64 0)],_,rfl,zI_i64 g.H,⟨[(.bool false)],_,rfl,zB g.H,⟨[(.int .i64 0)],_,rfl,zI_i64 g.H,⟨[(.int .i64 0)],_,rfl,zI_i64 g.H,⟨[(.int .i64 0)],_,rfl,zI_i64 g.H,⟨[(.int .i64 0)],_,rfl,zI_i64 g.H,⟨[(.int .i64 0)],_,rfl,zI_i64 g.H,⟨[(.int .i64 0)],_,rfl,zI_i64 g.H,rfl⟩⟩⟩⟩⟩⟩⟩⟩⟩⟩⟩⟩⟩⟩
theorem pl158:places PP 158=some [(0,1),(1,3),(4,3),(7,3),(10,1),(11,1),(12,1),(13,1)]:=by kernel_rfl
theorem po158:∀q f,bl[q]?=some f->([(0,1),(1,3),(4,3),(7,3),(10,1),(11,1),(12,1),(13,1)]:List (Nat×Nat))[q]?=some (offF bl q,f.d.sz):=fun q f h=>by
 unfold bl at h
 match q,h with
 |0,h=>cases h;rfl
 |1,h=>cases h;rfl
 |2,h=>cases h;rfl
 |3,h=>cases h;rfl
 |4,h=>cases h;rfl
 |5,h=>cases h;rfl
 |6,h=>cases h;rfl
 |7,h=>cases h;rfl
 |n+8,h=>simp at h
abbrev L158(x:aM):List Leaf:=[.d kB x.Is,.d kB x.A.Ret,.d (kI .i64) x.A.V,.d (kI .i64) x.A.L,.d kB x.B.Ret,.d (kI .i64) x.B.V,.d (kI .i64) x.B.L,.d kB x.R.Ret,.d (kI .i64) x.R.V,.d (kI .i64) x.R.L,.d (kI .i64) x.One,.d (kI .i64) x.Two,.d (kI .i64) x.Three,.d (kI .i64) x.Below]
theorem pt158{x:aM}:Part (L158 x) (kR bl) x:=by
 have h:Part _ (kR bl) x:=(lfS (lfC lf1 (lfC (lfS (lfC lf1 (lfC lf1 (lfC lf1 lfN)))) (lfC (lfS (lfC lf1 (lfC lf1 (lfC lf1 lfN)))) (lfC (lfS (lfC lf1 (lfC lf1 (lfC lf1 lfN)))) (lfC lf1 (lfC lf1 (lfC lf1 (lfC lf1 lfN)))))))))
 exact h
theorem z158:sizeIs PP 158 14:=by unfold sizeIs;kernel_rfl
theorem t158:tinf PP 158=some (true,14):=by kernel_rfl
theorem o158_1:fofs PP 158 1=some 1:=by kernel_rfl
instance jo158_1:FofI PP 158 1 1:=⟨o158_1⟩
theorem o158_4:fofs PP 158 4=some 10:=by kernel_rfl
instance jo158_4:FofI PP 158 4 10:=⟨o158_4⟩
theorem o158_2:fofs PP 158 2=some 4:=by kernel_rfl
instance jo158_2:FofI PP 158 2 4:=⟨o158_2⟩
theorem o158_5:fofs PP 158 5=some 11:=by kernel_rfl
instance jo158_5:FofI PP 158 5 11:=⟨o158_5⟩
theorem o158_0:fofs PP 158 0=some 0:=by kernel_rfl
instance jo158_0:FofI PP 158 0 0:=⟨o158_0⟩
theorem o158_6:fofs PP 158 6=some 12:=by kernel_rfl
instance jo158_6:FofI PP 158 6 12:=⟨o158_6⟩
theorem o158_7:fofs PP 158 7=some 13:=by kernel_rfl
instance jo158_7:FofI PP 158 7 13:=⟨o158_7⟩
theorem o158_3:fofs PP 158 3=some 7:=by kernel_rfl
instance jo158_3:FofI PP 158 3 7:=⟨o158_3⟩
theorem ze161:zeroIs PP 161 [(.bool false),(.int .i64 0),(.int .i64 0)]:=by unfold zeroIs;kernel_rfl
abbrev Z161:List Leaf:=[.d kB false,.d (kI .i64) 0,.d (kI .i64) 0]
theorem zl161:∀g:G,leafs Z161 g [(.bool false),(.int .i64 0),(.int .i64 0)]:=fun g=>⟨[(.bool false)],_,rfl,zB g.H,⟨[(.int .i64 0)],_,rfl,zI_i64 g.H,⟨[(.int .i64 0)],_,rfl,zI_i64 g.H,rfl⟩⟩⟩
theorem pl161:places PP 161=some [(0,1),(1,1),(2,1)]:=by kernel_rfl
theorem po161:∀q f,bI[q]?=some f->([(0,1),(1,1),(2,1)]:List (Nat×Nat))[q]?=some (offF bI q,f.d.sz):=fun q f h=>by
 unfold bI at h
 match q,h with
 |0,h=>cases h;rfl
 |1,h=>cases h;rfl
 |2,h=>cases h;rfl
 |n+3,h=>simp at h
theorem z161:sizeIs PP 161 3:=by unfold sizeIs;kernel_rfl
theorem t161:tinf PP 161=some (true,3):=by kernel_rfl
theorem o161_2:fofs PP 161 2=some 2:=by kernel_rfl
instance jo161_2:FofI PP 161 2 2:=⟨o161_2⟩
theorem o161_0:fofs PP 161 0=some 0:=by kernel_rfl
instance jo161_0:FofI PP 161 0 0:=⟨o161_0⟩
abbrev L161(x:dj):List Leaf:=[.d kB x.Is,.d (kI .i64) x.A,.d (kI .i64) x.From]
theorem o161_1:fofs PP 161 1=some 1:=by kernel_rfl
instance jo161_1:FofI PP 161 1 1:=⟨o161_1⟩
instance og:FlI PP 158 1 bl (kR aD) aM.A:=⟨o158_1,rfl⟩
instance oh:FlI PP 158 2 bl (kR aD) aM.B:=⟨o158_2,rfl⟩
instance oj:FlI PP 158 7 bl (kI .i64) aM.Below:=⟨o158_7,rfl⟩
theorem b133:bodied PP 133:=by unfold bodied;kernel_rfl
instance ol:FlI PP 158 3 bl (kR aD) aM.R:=⟨o158_3,rfl⟩
theorem ze127:zeroIs PP 127 [(.int .i64 0),(.int .i64 0),(.slice none 0 0),(.slice none 0 0),(.slice none 0 0),(.slice none 0 0),(.int .i64 0)]:=by unfold zeroIs;kernel_rfl
abbrev Z127:List Leaf:=[.d (kI .i64) 0,.d (kI .i64) 0,.d (kL (kR aH)) [],.d (kL (kR aB)) [],.d (kL (kR aD)) [],.d (kL (kR aB)) [],.d (kI .i64) 0]
theorem zl127:∀g:G,leafs Z127 g [(.int .i64 0),(.int .i64 0),(.slice none 0 0),(.slice none 0 0),(.slice none 0 0),(.slice none 0 0),(.int .i64 0)]:=fun g=>⟨[(.int .i64 0)],_,rfl,zI_i64 g.H,⟨[(.int .i64 0)],_,rfl,zI_i64 g.H,⟨[(.slice none 0 0)],_,rfl,zL g.H,⟨[(.slice none 0 0)],_,rfl,zL g.H,⟨[(.slice none 0 0)],_,rfl,zL g.H,⟨[(.slice none 0 0)],_,rfl,zL g.H,⟨[(.int .i64 0)],_,rfl,zI_i64 g.H,rfl⟩⟩⟩⟩⟩⟩⟩
theorem pl127:places PP 127=some [(0,6),(6,1)]:=by kernel_rfl
theorem po127:∀q f,bG[q]?=some f->([(0,6),(6,1)]:List (Nat×Nat))[q]?=some (offF bG q,f.d.sz):=fun q f h=>by
 unfold bG at h
 match q,h with
 |0,h=>cases h;rfl
 |1,h=>cases h;rfl
 |n+2,h=>simp at h
abbrev L127(x:bB):List Leaf:=[.d (kI .i64) x.S.Pc.V,.d (kI .i64) x.S.Pc.L,.d (kL (kR aH)) x.S.Code,.d (kL (kR aB)) x.S.Mem,.d (kL (kR aD)) x.S.Stack,.d (kL (kR aB)) x.S.Out,.d (kI .i64) x.What]
theorem pt127{x:bB}:Part (L127 x) (kR bG) x:=by
 have h:Part _ (kR bG) x:=(lfS (lfC (lfS (lfC (lfS (lfC lf1 (lfC lf1 lfN))) (lfC lf1 (lfC lf1 (lfC lf1 (lfC lf1 lfN)))))) (lfC lf1 lfN)))
 exact h
theorem z127:sizeIs PP 127 7:=by unfold sizeIs;kernel_rfl
theorem t127:tinf PP 127=some (true,7):=by kernel_rfl
theorem ff161_0:ffld PP 161 0=some (0,4):=by kernel_rfl
theorem ff161_1:ffld PP 161 1=some (1,3):=by kernel_rfl
abbrev L30(x:aG):List Leaf:=[.d (kI .i64) x.V,.d (kI .i64) x.L]
theorem pt30{x:aG}:Part (L30 x) (kR aB) x:=by
 have h:Part _ (kR aB) x:=(lfS (lfC lf1 (lfC lf1 lfN)))
 exact h
theorem ze82:zeroIs PP 82 [(.slice none 0 0),(.int .i64 0)]:=by unfold zeroIs;kernel_rfl
theorem pl82:places PP 82=some [(0,1),(1,1)]:=by kernel_rfl
theorem po82_0:∀q f,gg[q]?=some f->([(0,1),(1,1)]:List (Nat×Nat))[q]?=some (offF gg q,f.d.sz):=fun q f h=>by
 unfold gg at h
 match q,h with
 |0,h=>cases h;rfl
 |1,h=>cases h;rfl
 |n+2,h=>simp at h
theorem z82:sizeIs PP 82 2:=by unfold sizeIs;kernel_rfl
theorem o82_0:fofs PP 82 0=some 0:=by kernel_rfl
instance jo82_0:FofI PP 82 0 0:=⟨o82_0⟩
theorem o127_1:fofs PP 127 1=some 6:=by kernel_rfl
instance jo127_1:FofI PP 127 1 6:=⟨o127_1⟩
theorem o82_1:fofs PP 82 1=some 1:=by kernel_rfl
instance jo82_1:FofI PP 82 1 1:=⟨o82_1⟩
theorem o127_0:fofs PP 127 0=some 0:=by kernel_rfl
instance jo127_0:FofI PP 127 0 0:=⟨o127_0⟩
theorem t82:tinf PP 82=some (true,2):=by kernel_rfl
instance oy:FlI PP 82 0 de (kL (kR av)) dU.L:=⟨o82_0,rfl⟩
instance jt49:TinI PP 49 (kL (kR av)):=⟨t49⟩
abbrev Z82:List Leaf:=[.d (kL (kR av)) [],.d (kI .i64) 0]
theorem zl82:∀g:G,leafs Z82 g [(.slice none 0 0),(.int .i64 0)]:=fun g=>⟨[(.slice none 0 0)],_,rfl,zL g.H,⟨[(.int .i64 0)],_,rfl,zI_i64 g.H,rfl⟩⟩
theorem t43:tinf PP 43=some (true,5):=by kernel_rfl
instance jt43:TinI PP 43 (kR bM):=⟨t43⟩
theorem b61:bodied PP 61:=by unfold bodied;kernel_rfl
theorem b33:bodied PP 33:=by unfold bodied;kernel_rfl
theorem ff82_0:ffld PP 82 0=some (0,49):=by kernel_rfl
theorem pl43:places PP 43=some [(0,2),(2,1),(3,1),(4,1)]:=by kernel_rfl
theorem po43:∀q f,bM[q]?=some f->([(0,2),(2,1),(3,1),(4,1)]:List (Nat×Nat))[q]?=some (offF bM q,f.d.sz):=fun q f h=>by
 unfold bM at h
 match q,h with
 |0,h=>cases h;rfl
 |1,h=>cases h;rfl
 |2,h=>cases h;rfl
 |3,h=>cases h;rfl
 |n+4,h=>simp at h
theorem ze43:zeroIs PP 43 [(.slice none 0 0),(.slice none 0 0),(.slice none 0 0),(.int .i64 0),(.int .i64 0)]:=by unfold zeroIs;kernel_rfl
abbrev Z43:List Leaf:=[.d (kL kS) [],.d (kL (kI .u32)) [],.d (kL (kR bj)) [],.d (kI .i64) 0,.d (kI .i64) 0]
theorem zl43:∀g:G,leafs Z43 g [(.slice none 0 0),(.slice none 0 0),(.slice none 0 0),(.int .i64 0),(.int .i64 0)]:=fun g=>⟨[(.slice none 0 0)],_,rfl,zL g.H,⟨[(.slice none 0 0)],_,rfl,zL g.H,⟨[(.slice none 0 0)],_,rfl,zL g.H,⟨[(.int .i64 0)],_,rfl,zI_i64 g.H,⟨[(.int .i64 0)],_,rfl,zI_i64 g.H,rfl⟩⟩⟩⟩⟩
abbrev L43(x:cd):List Leaf:=[.d (kL kS) x.L.Names,.d (kL (kI .u32)) x.L.Up,.d (kL (kR bj)) x.T.Rows,.d (kI .i64) x.O,.d (kI .i64) x.Fuel]
theorem pt43{x:cd}:Part (L43 x) (kR bM) x:=by
 have h:Part _ (kR bM) x:=(lfS (lfC (lfS (lfC lf1 (lfC lf1 lfN))) (lfC (lfS (lfC lf1 lfN)) (lfC lf1 (lfC lf1 lfN)))))
 exact h
theorem z43:sizeIs PP 43 5:=by unfold sizeIs;kernel_rfl
theorem b12:bodied PP 12:=by unfold bodied;kernel_rfl
theorem dS.ok(h:dS.f a=some r):FnA PP 6 [(kR aC).sig a] ((kR aC).sig r):=by
 refine fJ Tryz.func6 u fun H0 w0=>?_
 unfold dS.f at h
 refine sx (c1<|cw (oAlloc (id:=2) (ls:=[.d (kN Str) [],.d (kL (kI .u32)) []]) ze25 (fun g=>⟨[(.slice none 0 0)],_,u,zN g.H,⟨[(.slice none 0 0)],_,u,zL g.H,u⟩⟩)) tv<|.nil)<|wSeq<|ix h fun l h=>rx (c4<|c1<|cp (oMin tm (cI (by decide))) (s1 u)<|cp (oCutHi u23 z70 l.1 l.2 tm tm) (s2 u u)<|cp (oBuild (fs:=gG) (u:=⟨[],lCut a.Up 0 (if 10<(a.Up.length:Int) then 10 else (a.Up.length:Int))⟩) u ze25 pl25 po25_0 (gL zN (qL tm u .nil))) (s1 u)<|cw (oAlloc (id:=3) (ls:=[.d (kN Str) [],.d (kL (kI .u32)) []]) ze25 (fun g=>⟨[(.slice none 0 0)],_,u,zN g.H,⟨[(.slice none 0 0)],_,u,zL g.H,u⟩⟩)) tv<|sA 0 gG u u z25 u u<|.nil)<|pSeq<|wSeq<|wSeq<|ix h fun o h=>rx (c4<|c1<|cp (oMin tm (cI (by decide))) (s1 u)<|cp (oCutHi u22 z9 o.1 o.2 tm tm) (s2 u u)<|c2<|.nil)<|pSeq<|wNilL kS 9 5150 (n:=0) (k:=0) u u u<|kX h (fun b=>[(2,.p 2 0),(3,.p 3 0)]) (fun b=>[.row 5150 9 kS b,.box 3 25 [.v 5150,.d (kL (kI .u32)) (lCut a.Up 0 (if 10<(a.Up.length:Int) then 10 else (a.Up.length:Int)))],.box 2 25 [.d (kN Str) [],.d (kL (kI .u32)) []]]) (fun t h=>?_) fun b h=>?_
 ·refine wBlock (wLoop ?_)
  refine lW (pc2 t (fun i e=>[(2,.p 2 0),(3,.p 3 0),(20,.d ((kL kS).sig (lCut a.Names 0 (if 10<(a.Names.length:Int) then 10 else (a.Names.length:Int))))),(21,.d (ki.sig ((lCut a.Names 0 (if 10<(a.Names.length:Int) then 10 else (a.Names.length:Int))).length:Int))),(22,.d (ki.sig e))]) (fun i e=>[.row 5150 9 kS i,.box 3 25 [.v 5150,.d (kL (kI .u32)) (lCut a.Up 0 (if 10<(a.Up.length:Int) then 10 else (a.Up.length:Int)))],.box 2 25 [.d (kN Str) [],.d (kL (kI .u32)) []]]) (dS.l0.partial_correctness a) ?_ _ _ h) ⟨u,u,u,u,u,tv⟩ u
  clear h
  intro f' ih i e h
  refine sx (c1<|.nil)<|wSeq<|jx h (fun c h=>?_) fun c h=>?_
  ·exact wd c u<|wSkip<|pSeq<|wSeq<|wBlock<|wSeq<|bx h fun w q h=>rx (iX u22 z9 q u u<|c2<|.nil)<|pSeq<|ix h fun j h=>ix h fun s h=>rdx hm (c1<|lN 1 0 u u u t22 u<|c2<|cp (oLenS u9 tm) (s1 u)<|cp (oMin tm (cI (by decide))) (s1 u)<|cp (oCutSH u9 j.1 j.2 tm tm) (s2 u u)<|cp (oLit (d:=kS) el22 (by decide) u u u (e1 tm e0)) (s1 u)<|cw (oApp (n:=0) (id':=34) el22 (by decide) u (by decide) s tm tm) (s2 u u)<|c1<|cwn (oStN (n:=1) (m:=0) (k:=0) u u u u z22 u tm tm) (s2 u u)<|.nil)<|pBlkN<|pSeq<|rx (c2<|.nil)<|pSub (Γ':=[(2,.p 2 0),(3,.p 3 0),(20,.d ((kL kS).sig (lCut a.Names 0 (if 10<(a.Names.length:Int) then 10 else (a.Names.length:Int))))),(21,.d (ki.sig ((lCut a.Names 0 (if 10<(a.Names.length:Int) then 10 else (a.Names.length:Int))).length:Int))),(22,.d (ki.sig (IntKind.i64.wrap (e+1))))]) (sb u)<|pRen 34 5150 u<|pLoop (lW (ih _ _ h) ⟨u,u,u,u,u,tv⟩ u)
  ·exact we c u<|wExit<|pThenX<|pThenX<|pBlkX<|pJ1 _ (so h) (sb u) u
 ·refine pSeq<|wSeq<|wFrzR (n:=0) (id:=5150) [] u u tv<|rx (lA 0 aC ⟨b,lCut a.Up 0 (if 10<(a.Up.length:Int) then 10 else (a.Up.length:Int))⟩ u ⟨u,u,tv⟩ t25 u<|sA 1 aC u u z25 u u<|.nil)<|pSeq<|wRet ?_
  obtain rfl:=so h
  exact pR1 (.inl u) u (.box (n:=1) (fs:=aC) (u:=⟨b,lCut a.Up 0 (if 10<(a.Up.length:Int) then 10 else (a.Up.length:Int))⟩) u u ⟨u,u,tv⟩ t25<|.nil)
theorem dE.ok(h:dE.f a=some r):FnA PP 7 [(kR bn).sig a] ((kR bn).sig r):=by
 refine fJ Tryz.func7 u fun H0 w0=>?_
 unfold dE.f at h
 refine sx (c1<|cw (oAlloc (id:=2) (ls:=[.d (kN aW) []]) ze28 (fun g=>⟨[(.slice none 0 0)],_,u,zN g.H,u⟩)) tv<|.nil)<|sx (cw (oAlloc (id:=3) (ls:=[.d (kN aW) []]) ze28 (fun g=>⟨[(.slice none 0 0)],_,u,zN g.H,u⟩)) tv<|.nil)<|wSeq<|wSeq<|ix h fun s h=>rx (c4<|c1<|cp (oMin tm (cI (by decide))) (s1 u)<|cp (oCutHi u26 z58 s.1 s.2 tm tm) (s2 u u)<|c2<|.nil)<|pSeq<|wNilL (kR bj) 58 5150 (n:=0) (k:=0) u u u<|kX h (fun c=>[(2,.p 2 0),(3,.p 3 0)]) (fun c=>[.row 5150 58 (kR bj) c,.box 3 28 [.v 5150],.box 2 28 [.d (kN aW) []]]) (fun x h=>?_) fun c h=>?_
 ·refine wBlock (wLoop ?_)
  refine lW (pc2 x (fun j i=>[(2,.p 2 0),(3,.p 3 0),(12,.d ((kL (kR bj)).sig (lCut a.Rows 0 (if 15<(a.Rows.length:Int) then 15 else (a.Rows.length:Int))))),(13,.d (ki.sig ((lCut a.Rows 0 (if 15<(a.Rows.length:Int) then 15 else (a.Rows.length:Int))).length:Int))),(14,.d (ki.sig i))]) (fun j i=>[.row 5150 58 (kR bj) j,.box 3 28 [.v 5150],.box 2 28 [.d (kN aW) []]]) (dE.l0.partial_correctness a) ?_ _ _ h) ⟨u,u,u,u,u,tv⟩ u
  clear h
  intro f' ih j i h
  refine sx (c1<|.nil)<|wSeq<|jx h (fun e h=>?_) fun e h=>?_
  ·exact wd e u<|wSkip<|pSeq<|wSeq<|wBlock<|wSeq<|bx h fun b t h=>rx (iX u26 z58 t u u<|c1<|aL 5 Z58 ze58 zl58<|sA 0 bj u u z58 u u<|.nil)<|pSeq<|ix h fun l h=>ix h fun o h=>ix h fun q h=>ix h fun w h=>rdx hm (c1<|lN 2 0 u u u t26 u<|c1<|lB 0 0 u u u t56 u<|c1<|lB 0 0 u u u t56 u<|c1<|cp (oMin tm (cI (by decide))) (s1 u)<|cp (oCutHi u56 z3 l.1 l.2 tm tm) (s2 u u)<|c1<|lB 0 1 u u u t56 u<|c1<|lB 0 1 u u u t56 u<|c1<|cp (oMin tm (cI (by decide))) (s1 u)<|cp (oCutHi u56 z3 o.1 o.2 tm tm) (s2 u u)<|c1<|lB 0 2 u u u t56 u<|c1<|lB 0 2 u u u t56 u<|c1<|cp (oMin tm (cI (by decide))) (s1 u)<|cp (oCutHi u56 z3 q.1 q.2 tm tm) (s2 u u)<|cp (oBuild (fs:=bj) (u:=⟨lCut b.May 0 (if 45<(b.May.length:Int) then 45 else (b.May.length:Int)),lCut b.Res 0 (if 45<(b.Res.length:Int) then 45 else (b.Res.length:Int)),lCut b.Pc 0 (if 45<(b.Pc.length:Int) then 45 else (b.Pc.length:Int))⟩) u ze58 pl58 po58 (qL tm u (qL tm u (qL tm u .nil)))) (s3 u u u)<|cp (oLit (d:=(kR bj)) el26 (by decide) u u u (e1 tm e0)) (s1 u)<|cw (oApp (n:=1) (id':=43) el26 (by decide) u (by decide) w tm tm) (s2 u u)<|c1<|cwn (oStN (n:=2) (m:=1) (k:=0) u u u u z26 u tm tm) (s2 u u)<|.nil)<|pBlkN<|pSeq<|rx (c2<|.nil)<|pDrop (.cons _ (.cons_cons _ (.cons_cons _ (.cons_cons _ .slnil))))<|pSub (Γ':=[(2,.p 2 0),(3,.p 3 0),(12,.d ((kL (kR bj)).sig (lCut a.Rows 0 (if 15<(a.Rows.length:Int) then 15 else (a.Rows.length:Int))))),(13,.d (ki.sig ((lCut a.Rows 0 (if 15<(a.Rows.length:Int) then 15 else (a.Rows.length:Int))).length:Int))),(14,.d (ki.sig (IntKind.i64.wrap (i+1))))]) (sb u)<|pRen 43 5150 u<|pLoop (lW (ih _ _ h) ⟨u,u,u,u,u,tv⟩ u)
  ·exact we e u<|wExit<|pThenX<|pThenX<|pBlkX<|pJ1 _ (so h) (sb u) u
 ·refine pSeq<|wSeq<|wFrzR (n:=0) (id:=5150) [] u u tv<|rx (lA 0 bn ⟨c⟩ u ⟨u,tv⟩ t28 u<|sA 1 bn u u z28 u u<|.nil)<|pSeq<|wRet ?_
  obtain rfl:=so h
  exact pR1 (.inl u) u (.box (n:=1) (fs:=bn) (u:=⟨c⟩) u u ⟨u,tv⟩ t28<|.nil)
theorem fk.ok(h:fk.f a=some r):FnA PP 8 [(kR av).sig a] ((kR av).sig r):=by
 refine fJ Tryz.func8 u fun H0 w0=>?_
 unfold fk.f at h
 refine sx (cw (oBoxP (id:=1) (d:=(kR av)) (ls:=[.d ki a.Pc.V,.d ki a.Pc.L,.d (kL (kR aH)) a.Code,.d (kL (kR aB)) a.Mem,.d (kL (kR aD)) a.Stack,.d (kL (kR aB)) a.Out]) pt35 u tm) (s1 u)<|aL 2 Z35 ze35 zl35<|.nil)<|wSeq<|ix h fun b h=>ix h fun c h=>ix h fun e h=>ix h fun g h=>rdx hm (c1<|lB 1 2 u u u t31 u<|c1<|lB 1 2 u u u t31 u<|c1<|cp (oMin tm (cI (by decide))) (s1 u)<|cp (oCutHi u31 z73 b.1 b.2 tm tm) (s2 u u)<|c1<|lB 1 3 u u u t32 u<|c1<|lB 1 3 u u u t32 u<|c1<|cp (oMin tm (cI (by decide))) (s1 u)<|cp (oCutHi u32 z30 c.1 c.2 tm tm) (s2 u u)<|c1<|lB 1 4 u u u t33 u<|c1<|lB 1 4 u u u t33 u<|c1<|cp (oMin tm (cI (by decide))) (s1 u)<|cp (oCutHi u33 z88 e.1 e.2 tm tm) (s2 u u)<|c1<|lB 1 5 u u u t32 u<|c1<|lB 1 5 u u u t32 u<|c1<|cp (oMin tm (cI (by decide))) (s1 u)<|cp (oCutHi u32 z30 g.1 g.2 tm tm) (s2 u u)<|c1<|cwn (oSt (n:=1) (k:=2) u u u u z31 tm tm) (s2 u u)<|c1<|cwn (oSt (n:=1) (k:=3) u u u u z32 tm tm) (s2 u u)<|c1<|cwn (oSt (n:=1) (k:=4) u u u u z33 tm tm) (s2 u u)<|c1<|cwn (oSt (n:=1) (k:=5) u u u u z32 tm tm) (s2 u u)<|.nil)<|pSeq<|sx (lP 1 0 6 (kR av) (⟨a.Pc,lCut a.Code 0 (if 15<(a.Code.length:Int) then 15 else (a.Code.length:Int)),lCut a.Mem 0 (if 15<(a.Mem.length:Int) then 15 else (a.Mem.length:Int)),lCut a.Stack 0 (if 15<(a.Stack.length:Int) then 15 else (a.Stack.length:Int)),lCut a.Out 0 (if 15<(a.Out.length:Int) then 15 else (a.Out.length:Int))⟩:al) pt35 u u u t35 u<|cwn (oStP (n:=0) (k:=0) (m:=6) (d:=(kR av)) (u:=(⟨a.Pc,lCut a.Code 0 (if 15<(a.Code.length:Int) then 15 else (a.Code.length:Int)),lCut a.Mem 0 (if 15<(a.Mem.length:Int) then 15 else (a.Mem.length:Int)),lCut a.Stack 0 (if 15<(a.Stack.length:Int) then 15 else (a.Stack.length:Int)),lCut a.Out 0 (if 15<(a.Out.length:Int) then 15 else (a.Out.length:Int))⟩:al)) pt35 u u u z35 tm tm) (s2 u u)<|.nil)<|wRet ?_
 obtain rfl:=so h
 exact pR1 (.inl u) u (.boxP (n:=0) (d:=(kR av)) (u:=(⟨a.Pc,lCut a.Code 0 (if 15<(a.Code.length:Int) then 15 else (a.Code.length:Int)),lCut a.Mem 0 (if 15<(a.Mem.length:Int) then 15 else (a.Mem.length:Int)),lCut a.Stack 0 (if 15<(a.Stack.length:Int) then 15 else (a.Stack.length:Int)),lCut a.Out 0 (if 15<(a.Out.length:Int) then 15 else (a.Out.length:Int))⟩:al)) u u pt35 u t35<|.nil)
theorem cU.ok(h:cU.f b=some r):FnA PP 134 [kS.sig b] (kB.sig r):=by
 refine fJ Tryz.func134 u fun H0 w0=>?_
 unfold cU.f at h
 refine sx (c1<|.nil)<|wSeq<|sx (c1<|cp (oLenS u9 tm) (s1 u)<|c1<|.nil) ?_
 obtain⟨o,h,n⟩:=bd h
 refine wK0 (.inr ()=o) ([(0,.d (kS.sig b))]) ([]) ?_ ?_
 ·refine wBlock (wLoop ?_)
  refine lW (pc1 o (fun g=>[(0,.d (kS.sig b)),(5,.d (ki.sig (b.length:Int))),(6,.d (ki.sig g))]) (fun g=>[]) (cU.l0.partial_correctness b) ?_ _ h) ⟨u,u,u,tv⟩ u
  clear h
  intro f' ih g h
  refine sx (c1<|.nil)<|wSeq<|jx h (fun c h=>?_) fun c h=>?_
  ·refine wd c u<|wSkip<|pSeq<|wSeq<|wBlock<|sx (c2<|.nil)<|wB h (fun i=>[(0,.d (kS.sig b)),(5,.d (ki.sig (b.length:Int))),(6,.d (ki.sig g)),(18,.d (kB.sig i))]) (fun i=>[]) (fun p h=>?_) fun i h=>?_
   ·refine ix h fun a h=>jx h (fun j h=>?_) fun j h=>?_
    ·exact ej (c2<|cp (oIdxS u9 a.1 a.2 tm tm) (s2 u u)<|c6<|c1<|.nil) (so h) (sb u) u
    ·exact ix h fun k h=>ej (c2<|cp (oIdxS u9 a.1 a.2 tm tm) (s2 u u)<|c4<|cgB (dF j.1) u u (oIdxS u9 k.1 k.2 tm tm) (s2 u u)<|c2<|.nil) (so h) (sb u) u
   ·refine jx h (fun e h=>?_) fun e h=>?_
    ·refine wb e u<|sx (c1<|.nil)<|wRet<|pBlkR<|pThenR<|pThenR<|pBlkR<|pThenR ?_
     obtain rfl:=so h
     replace h:=n
     refine pThenR ?_
     obtain rfl:=so h
     exact pT u u
    ·exact wc e u<|wSkip<|pBlkN<|pSeq<|rx (c2<|.nil)<|pLoop (lW (ih _ h) ⟨u,u,u,tv⟩ u)
  ·exact we c u<|wExit<|pThenX<|pThenX<|pBlkX<|pJ0 (so h) (sb u) u
 ·rintro rfl
  replace h:=n
  refine pSeq<|wB h (fun l=>[(2,.d (kB.sig l))]) (fun l=>[]) (fun o h=>?_) fun l h=>?_
  ·refine jx h (fun m h=>?_) fun m h=>?_
   ·exact ej (c1<|cp (oSNe u tm (cS (by decide))) (s1 u)<|c6<|.nil) (so h) (sb u) u
   ·exact ej (c1<|cp (oSNe u tm (cS (by decide))) (s1 u)<|c2<|cgB (nt m.1) u u (oLenS u9 tm) (s1 u)<|c3<|.nil) (so h) (sb u) u
  ·refine wRet ?_
   obtain rfl:=so h
   exact pT u u
theorem bD.ok(h:bD.f c a1=some r):FnA PP 162 [(kL kS).sig c,kS.sig a1] (ki.sig r):=by
 refine fJ Tryz.func162 u fun H0 w0=>?_
 unfold bD.f at h
 refine sx (c1<|.nil)<|wSeq<|sx (c3<|.nil) ?_
 obtain⟨i,h,e⟩:=bd h
 refine wK0 (.inr ()=i) ([]) ([]) ?_ ?_
 ·refine wBlock (wLoop ?_)
  refine lW (pc1 i (fun g=>[(0,.d ((kL kS).sig c)),(1,.d (kS.sig a1)),(7,.d (ki.sig (c.length:Int))),(8,.d (ki.sig g))]) (fun g=>[]) (bD.l0.partial_correctness c a1) ?_ _ h) ⟨u,u,u,u,tv⟩ u
  clear h
  intro f' ih g h
  refine sx (c1<|.nil)<|wSeq<|jx h (fun b h=>?_) fun b h=>?_
  ·refine wd b u<|wSkip<|pSeq<|wSeq<|wBlock<|sx (c2<|.nil)<|wSeq<|bx h fun k j h=>rx (c3<|iX u22 z9 j u u<|c1<|cp (oSEq u tm tm) (s2 u u)<|.nil)<|pSeq<|jx h (fun a h=>?_) fun a h=>?_
   ·refine wd a u<|sx (c2<|.nil)<|wRet<|pBlkR<|pThenR<|pThenR<|pBlkR<|pThenR ?_
    obtain rfl:=so h
    replace h:=e
    refine pThenR ?_
    obtain rfl:=so h
    exact pT u u
   ·exact we a u<|wSkip<|pBlkN<|pSeq<|rx (c2<|.nil)<|pLoop (lW (ih _ h) ⟨u,u,u,u,tv⟩ u)
  ·exact we b u<|wExit<|pThenX<|pThenX<|pBlkX<|pJ0 (so h) tv u
 ·rintro rfl
  replace h:=e
  refine pSeq<|sx (c1<|.nil)<|wRet ?_
  obtain rfl:=so h
  exact pT u u
theorem cG.ok(h:cG.f b a1=some r):FnA PP 135 [(kL kS).sig b,kS.sig a1] (kB.sig r):=by
 refine fJ Tryz.func135 u fun H0 w0=>?_
 unfold cG.f at h
 refine sx (c1<|.nil)<|wSeq<|bx h fun c a h=>rx (c2<|cC (bD.ok a)<|c2<|.nil)<|pSeq<|wRet ?_
 obtain rfl:=so h
 exact pT u u
theorem dx.ok(h:dx.f a=some r):FnA PP 107 [(kR aC).sig a] (kB.sig r):=by
 refine fJ Tryz.func107 u fun H0 w0=>?_
 unfold dx.f at h
 refine sx (c2<|.nil)<|sx (c4<|.nil)<|wSeq<|wB h (fun p=>[(1,.d (sP (kR aC) a)),(3,.d (ki.sig (a.Up.length:Int))),(21,.d (kB.sig p))]) (fun p=>[]) (fun q h=>?_) fun p h=>?_
 ·refine jx h (fun w h=>?_) fun w h=>?_
  ·exact ej (c12<|c1<|.nil) (so h) (sb u) u
  ·refine jx h (fun x h=>?_) fun x h=>?_
   ·exact ej (c12<|c1<|.nil) (so h) (sb u) u
   ·exact ej (c12<|c1<|.nil) (so h) (sb u) u
 ·refine jx h (fun l h=>?_) fun l h=>?_
  ·refine wb l u<|sx (c1<|.nil)<|wRet<|pThenR ?_
   obtain rfl:=so h
   exact pT u u
  ·refine wc l u<|wSkip<|pSeq<|wSeq<|sx (c4<|.nil) ?_
   obtain⟨q,h,o⟩:=bd h
   refine wK0 (.inr ()=q) ([]) ([]) ?_ ?_
   ·refine wBlock (wLoop ?_)
    refine lW (pc1 q (fun k=>[(1,.d (sP (kR aC) a)),(3,.d (ki.sig (a.Up.length:Int))),(23,.d ((kL kS).sig a.Names)),(24,.d (ki.sig (a.Names.length:Int))),(25,.d (ki.sig k))]) (fun k=>[]) (dx.l0.partial_correctness a) ?_ _ h) ⟨u,u,u,u,u,tv⟩ u
    clear h
    intro f' ih k h
    refine sx (c1<|.nil)<|wSeq<|jx h (fun e h=>?_) fun e h=>?_
    ·refine wd e u<|wSkip<|pSeq<|wSeq<|wBlock<|wSeq<|bx h fun y s h=>rx (c1<|iX u22 z9 s u u<|c3<|.nil)<|pSeq<|wB h (fun m=>[(1,.d (sP (kR aC) a)),(3,.d (ki.sig (a.Up.length:Int))),(23,.d ((kL kS).sig a.Names)),(24,.d (ki.sig (a.Names.length:Int))),(25,.d (ki.sig k)),(50,.d (kB.sig m))]) (fun m=>[]) (fun C h=>?_) fun m h=>?_
     ·refine bx h fun z g h=>jx h (fun b h=>?_) fun b h=>?_
      ·exact ej (c1<|cC (cU.ok g)<|c12<|c6<|c1<|.nil) (so h) (sb u) u
      ·refine ix h fun c h=>bx h fun A n h=>jx h (fun i h=>?_) fun i h=>?_
       ·exact ej (c1<|cC (cU.ok g)<|c4<|c1<|cgB (nb b.1) u u (oCutHi u22 z9 c.1 c.2 tm tm) (s2 u u)<|c1<|cgB (nb b.1) u u (oCall u (cG.ok n) b135 (oc tm (oc tm o0))) (s2 u u)<|c8<|c3<|.nil) (so h) (sb u) u
       ·exact bx h fun B t h=>ix h fun v h=>ej (c1<|cC (cU.ok g)<|c4<|c1<|cgB (nb b.1) u u (oCutHi u22 z9 c.1 c.2 tm tm) (s2 u u)<|c1<|cgB (nb b.1) u u (oCall u (cG.ok n) b135 (oc tm (oc tm o0))) (s2 u u)<|c4<|c1<|cgB (nb i.1) u u (oIdx u23 z70 t tm tm) (s2 u u)<|c2<|cgB (nb i.1) u u (oShr v tm tm) (s2 u u)<|c2<|.nil) (so h) (sb u) u
     ·refine jx h (fun j h=>?_) fun j h=>?_
      ·refine wb j u<|sx (c1<|.nil)<|wRet<|pBlkR<|pThenR<|pThenR<|pBlkR<|pThenR ?_
       obtain rfl:=so h
       replace h:=o
       refine pThenR ?_
       obtain rfl:=so h
       exact pT u u
      ·exact wc j u<|wSkip<|pBlkN<|pSeq<|rx (c2<|.nil)<|pLoop (lW (ih _ h) ⟨u,u,u,u,u,tv⟩ u)
    ·exact we e u<|wExit<|pThenX<|pThenX<|pBlkX<|pJ0 (so h) tv u
   ·rintro rfl
    replace h:=o
    refine pSeq<|sx (c1<|.nil)<|wRet ?_
    obtain rfl:=so h
    exact pT u u
theorem bv.ok{a1:Int}:FnY PP 136 (fun z=>ki.sig z) (fun z=>ki.sig z) [sP ki a1] (fun {σ} a_y a_s=>bv.f a_y a_s a1):=by
 refine fnIntroY 7777 Tryz.func136 u (by kernel_rfl) (fun σ A a_y a_s a_r h bs H0 w0=>?_)
 replace h:bv.f a_y a_s a1=some a_r:=h
 unfold bv.f at h
 refine sx (c2<|.nil) ?_
 obtain⟨q,h,m⟩:=bd h
 refine wK1 (fun b=>.inr b=q) (fun b=>[]) (fun b=>[.abs 7777 A b]) ?_ ?_
 ·refine wBlock (wLoop ?_)
  refine lW (pc2 q (fun k a=>[(0,.d (sYield PP A a_y (fun z=>ki.sig z) (fun z=>ki.sig z))),(1,.d (sP ki a1)),(5,.d (ki.sig a1)),(6,.d (ki.sig a))]) (fun k a=>[.abs 7777 A k]) (bv.l2.partial_correctness a_y a1) ?_ _ _ h) ⟨u,u,u,u,tv⟩ u
  clear h
  intro f' ih k a h
  refine sx (c1<|.nil)<|wSeq<|jx h (fun e h=>?_) fun e h=>?_
  ·refine wd e u<|wSkip<|pSeq<|wSeq<|wBlock<|sx (c2<|.nil)<|sx (c2<|.nil) ?_
   obtain⟨r,h,o⟩:=bd h
   refine wK1 (fun c=>.inr c=r) (fun c=>[(0,.d (sYield PP A a_y (fun z=>ki.sig z) (fun z=>ki.sig z))),(1,.d (sP ki a1)),(5,.d (ki.sig a1)),(6,.d (ki.sig a))]) (fun c=>[.abs 7777 A c]) ?_ ?_
   ·refine wBlock (wLoop ?_)
    refine lW (pc2 r (fun l j=>[(0,.d (sYield PP A a_y (fun z=>ki.sig z) (fun z=>ki.sig z))),(1,.d (sP ki a1)),(3,.d (ki.sig a)),(5,.d (ki.sig a1)),(6,.d (ki.sig a)),(9,.d (ki.sig a1)),(10,.d (ki.sig j))]) (fun l j=>[.abs 7777 A l]) (bv.l3.partial_correctness a_y a1 a) ?_ _ _ h) ⟨u,u,u,u,u,u,u,tv⟩ u
    clear h
    intro f' ih l j h
    refine sx (c1<|.nil)<|wSeq<|jx h (fun g h=>?_) fun g h=>?_
    ·refine wd g u<|wSkip<|pSeq<|wSeq<|wBlock<|sx (c2<|.nil)<|wSeq<|bx h fun s p h=>rx (c3<|cm (oYield (n:=0) (id':=16) u p tm tm tm) (s3 u u u)<|c1<|.nil)<|pSeq<|jx h (fun i h=>?_) fun i h=>?_
     ·refine wb i u<|wRet<|pBlkR<|pThenR<|pThenR<|pBlkR<|pThenR ?_
      obtain rfl:=so h
      replace h:=o
      refine pBlkR<|pThenR<|pThenR<|pBlkR<|pThenR ?_
      obtain rfl:=so h
      replace h:=m
      obtain rfl:=so h
      exact pRY (n:=0) (.inl u) u u u
     ·exact wc i u<|wSkip<|pBlkN<|pSeq<|rx (c2<|.nil)<|pSub (Γ':=[(0,.d (sYield PP A a_y (fun z=>ki.sig z) (fun z=>ki.sig z))),(1,.d (sP ki a1)),(3,.d (ki.sig a)),(5,.d (ki.sig a1)),(6,.d (ki.sig a)),(9,.d (ki.sig a1)),(10,.d (ki.sig (IntKind.i64.wrap (j+1))))]) (sb u)<|pRen 16 7777 u<|pLoop (lW (ih _ _ h) ⟨u,u,u,u,u,u,u,tv⟩ u)
    ·exact we g u<|wExit<|pThenX<|pThenX<|pBlkX<|pJ1 _ (so h) (sb u) u
   ·rintro c rfl
    replace h:=o
    exact pBlkN<|pSeq<|rx (c2<|.nil)<|pLoop (lW (ih _ _ h) ⟨u,u,u,u,tv⟩ u)
  ·exact we e u<|wExit<|pThenX<|pThenX<|pBlkX<|pJ1 _ (so h) tv u
 ·rintro b rfl
  replace h:=m
  obtain rfl:=so h
  exact pRY (n:=0) (.inr u) u u u
theorem f9.ok(h:f9.f a=some r):FnA PP 109 [ki.sig a] ((sClo 136 [sP ki r])):=by
 refine fJ Tryz.func109 u fun H0 w0=>?_
 unfold f9.f at h
 refine sx (c1<|cp (oAs cV) tv<|.nil)<|sx (cp (oMkC (caps:=[sP ki a]) u (oc tm o0)) (s1 u)<|c1<|.nil)<|wRet ?_
 obtain rfl:=so h
 exact pT u u
theorem ef.ok(h:ef.f c a1 a2=some r):FnA PP 127 [(kR aC).sig c,ki.sig a1,ki.sig a2] (kB.sig r):=by
 refine fJ Tryz.func127 u fun H0 w0=>?_
 unfold ef.f at h
 refine sx (c2<|.nil)<|wSeq<|bx h fun d a h=>ix h fun b h=>rx (c3<|iX u23 z70 a u u<|c2<|cp (oShr b tm tm) (s2 u u)<|cp (oAnd tm (cI (by decide))) (s1 u)<|c2<|.nil)<|pSeq<|wRet ?_
 obtain rfl:=so h
 exact pT u u
theorem eh.ok(h:eh.f m=some r):FnA PP 108 [(kR aC).sig m] (kB.sig r):=by
 refine fJ Tryz.func108 u fun H0 w0=>?_
 unfold eh.f at h
 refine sx (c1<|cw (oAlloc (id:=2) (ls:=[.d kB false]) ze4 (fun g=>⟨[(.bool false)],_,u,zB g.H,u⟩)) tv<|.nil)<|wSeq<|wSeq<|bx h fun F E h=>rx (c3<|cC (f9.ok E)<|.nil)<|pSeq<|wBlock<|bx h fun I z h=>wRange (Γ':=[(1,.d (sP (kR aC) m)),(2,.p 2 0)]) (Γ2:=fun c e=>[(1,.d (sP (kR aC) m)),(2,.p 2 0),(3,.d (ki.sig c)),(4,.d (ki.sig e))]) (fun(q:Unit)=>[.box 2 4 [.d kB false]]) (fun(q:Unit) c e=>[.box 2 4 [.d kB false]]) [Code.ret] [2] (eh.y0 m) () u (bv.ok (a1:=F)) b136 z u ⟨u,u,tv⟩ u u u ?_ ?_ ?_
 ·intro X H0 w0 l pv q c e
  exact sx (c1<|.nil)<|rx (c1<|.nil)<|qA ⟨u,u,u,u,tv⟩
 ·intro X H0 w0 l pv q c e o h
  unfold eh.y0 at h
  refine wBlock<|wSeq<|wB h (fun s=>[(1,.d (sP (kR aC) m)),(2,.p 2 0),(3,.d (ki.sig c)),(4,.d (ki.sig e)),(37,.d (kB.sig s))]) (fun s=>[.box 2 4 [.d kB false]]) (fun G h=>?_) fun s h=>?_
  ·refine jx h (fun a h=>?_) fun a h=>?_
   ·refine bx h fun J t h=>jx h (fun A h=>?_) fun A h=>?_
    ·exact ej (c6<|c1<|cgB (dT a.1) u u (oCall u (ef.ok t) b127 (oc tm (oc tm (oc tm o0)))) (s3 u u u)<|c6<|c1<|csU u u<|csU u u<|csU u u<|csU u u<|c2<|csU u u<|csU u u<|csU u u<|csU u u<|c2<|.nil) (so h) (sb u) u
    ·exact ej (c6<|c1<|cgB (dT a.1) u u (oCall u (ef.ok t) b127 (oc tm (oc tm (oc tm o0)))) (s3 u u u)<|c12<|c6<|c1<|.nil) (so h) (sb u) u
   ·refine bx h fun K v h=>jx h (fun w h=>?_) fun w h=>?_
    ·exact bx h fun L B h=>ej (c12<|c6<|cgB (nt a.1) u u (oCall u (ef.ok v) b127 (oc tm (oc tm (oc tm o0)))) (s3 u u u)<|c4<|c1<|cgB w.1 u u (oCall u (ef.ok B) b127 (oc tm (oc tm (oc tm o0)))) (s3 u u u)<|c2<|.nil) (so h) (sb u) u
    ·exact ej (c12<|c6<|cgB (nt a.1) u u (oCall u (ef.ok v) b127 (oc tm (oc tm (oc tm o0)))) (s3 u u u)<|c8<|.nil) (so h) (sb u) u
  ·refine jx h (fun i h=>?_) fun i h=>?_
   ·refine wb i u<|sx (cwn (oSt (n:=0) (k:=0) u u u u z4 tm cB) (s1 u)<|.nil)<|wRet<|pThenR<|pBlkR ?_
    obtain rfl:=so h
    exact qR u
   ·refine wc i u<|wSkip<|pSeq<|wB h (fun x=>[(2,.p 2 0),(55,.d (kB.sig x))]) (fun x=>[.box 2 4 [.d kB false]]) (fun G h=>?_) fun x h=>?_
    ·refine bx h fun M y h=>jx h (fun b h=>?_) fun b h=>?_
     ·exact bx h fun N C h=>bx h fun O D h=>rdx hm (c3<|cC (ef.ok y)<|c4<|cgB b.1 u u (oIdx u23 z70 C tm tm) (s2 u u)<|c4<|cgB b.1 u u (oIdx u23 z70 D tm tm) (s2 u u)<|c1<|cgB b.1 u u (oAndNot tm tm) (s2 u u)<|c2<|.nil)<|pJ1 _ (so h) (sb u) u
     ·exact rdx hm (c3<|cC (ef.ok y)<|c12<|c2<|.nil)<|pJ1 _ (so h) (sb u) u
    ·refine jx h (fun j h=>?_) fun j h=>?_
     ·refine wb j u<|sx (cwn (oSt (n:=0) (k:=0) u u u u z4 tm cB) (s1 u)<|.nil)<|wRet<|pBlkR ?_
      obtain rfl:=so h
      exact qR u
     ·refine wc j u<|wSkip<|pBlkN ?_
      obtain rfl:=so h
      exact qN
 ·obtain⟨hj53,h⟩|⟨hj53,h⟩:=ic h
  ·refine jp0 hj53<|pBlkN<|pSeq<|sx (cwn (oSt (n:=0) (k:=0) u u u u z4 tm cB) (s1 u)<|.nil)<|wRet ?_
   obtain rfl:=so h
   exact pR1 (.inl u) u (.boxV (n:=0) u u t4<|.nil)
  ·obtain⟨hj53,h⟩|⟨hj53,h⟩:=ic h
   ·refine jpR hj53 u<|pBlkR<|pThenR ?_
    obtain rfl:=so h
    exact pR1 (.inl u) u (.boxV (n:=0) u u t4<|.nil)
   ·cases h
theorem aS.ok{a1:Int->Option Bool}(h:aS.f c a1=some r):FnA PP 27 [(kL (kI .u32)).sig c,(sFun PP (rl1 (kI .u32) kB a1))] (ki.sig r):=by
 refine fJ Tryz.func27 u fun H0 w0=>?_
 unfold aS.f at h
 refine sx (c1<|.nil)<|wSeq<|sx (c3<|.nil) ?_
 obtain⟨k,h,e⟩:=bd h
 refine wK0 (.inr ()=k) ([]) ([]) ?_ ?_
 ·refine wBlock (wLoop ?_)
  refine lW (pc1 k (fun g=>[(0,.d ((kL (kI .u32)).sig c)),(1,.d ((sFun PP (rl1 (kI .u32) kB a1)))),(7,.d (ki.sig (c.length:Int))),(8,.d (ki.sig g))]) (fun g=>[]) (aS.l0.partial_correctness c a1) ?_ _ h) ⟨u,u,u,u,tv⟩ u
  clear h
  intro f' ih g h
  refine sx (c1<|.nil)<|wSeq<|jx h (fun a h=>?_) fun a h=>?_
  ·refine wd a u<|wSkip<|pSeq<|wSeq<|wBlock<|sx (c2<|.nil)<|wSeq<|bx h fun l i h=>bx h fun m j h=>rx (c3<|iX u23 z70 i u u<|c1<|cp (oCallV u (rl1i (f:=a1) j) tm (oc tm o0)) (s2 u u)<|.nil)<|pSeq<|jx h (fun b h=>?_) fun b h=>?_
   ·refine wb b u<|sx (c2<|.nil)<|wRet<|pBlkR<|pThenR<|pThenR<|pBlkR<|pThenR ?_
    obtain rfl:=so h
    replace h:=e
    refine pThenR ?_
    obtain rfl:=so h
    exact pT u u
   ·exact wc b u<|wSkip<|pBlkN<|pSeq<|rx (c2<|.nil)<|pLoop (lW (ih _ h) ⟨u,u,u,u,tv⟩ u)
  ·exact we a u<|wExit<|pThenX<|pThenX<|pBlkX<|pJ0 (so h) tv u
 ·rintro rfl
  replace h:=e
  refine pSeq<|sx (c1<|.nil)<|wRet ?_
  obtain rfl:=so h
  exact pT u u
theorem gw.ok(h:gw.f a a1=some r):FnA PP 137 [(kI .u32).sig a,sP (kI .u32) a1] (kB.sig r):=by
 refine fJ Tryz.func137 u fun H0 w0=>?_
 unfold gw.f at h
 refine sx (c1<|.nil)<|sx (c4<|.nil)<|wRet ?_
 obtain rfl:=so h
 exact pT u u
theorem fo.ok(h:fo.f e a1 a2=some r):FnA PP 110 [(kR aC).sig e,ki.sig a1,ki.sig a2] (ki.sig r):=by
 refine fJ Tryz.func110 u fun H0 w0=>?_
 unfold fo.f at h
 refine sx (c2<|.nil)<|wSeq<|bx h fun i a h=>bx h fun j b h=>rdx hm (c3<|iX u23 z70 a u u<|c4<|iX u23 z70 b u u<|c1<|cp (oAnd tm tm) (s2 u u)<|cw (oAlloc (id:=7) (ls:=[.d (kI .u32) 0]) ze70 (fun g=>⟨[(.int .u32 0)],_,u,zI_u32 g.H,u⟩)) tv<|cwn (oSt (n:=0) (k:=0) u u u u z70 tm tm) (s2 u u)<|.nil)<|pSeq<|wSeq<|wFrzV 7 (n:=0) (id:=7) u u u<|bx h fun m c h=>rx (c2<|cp (oMkF (Rl:=rl1 (kI .u32) kB (fun l=>gw.f l (bAnd .u32 i j))) u b137 (rl1e gw.ok) (oc tm o0)) (s1 u)<|cC (aS.ok c)<|c1<|.nil)<|pSeq<|wRet ?_
 obtain rfl:=so h
 exact pT u u
theorem da.ok(h:da.f c a1=some r):FnA PP 138 [(kR aC).sig c,ki.sig a1] ((kI .u32).sig r):=by
 refine fJ Tryz.func138 u fun H0 w0=>?_
 unfold da.f at h
 refine sx (c2<|.nil)<|sx (c1<|.nil)<|wSeq<|sx (c4<|.nil)<|kX h (fun b=>[(5,.d ((kI .u32).sig b))]) (fun b=>[]) (fun l h=>?_) fun b h=>?_
 ·refine wBlock (wLoop ?_)
  refine lW (pc2 l (fun e g=>[(1,.d (ki.sig a1)),(2,.d (sP (kR aC) c)),(5,.d ((kI .u32).sig g)),(9,.d (ki.sig (c.Up.length:Int))),(10,.d (ki.sig e))]) (fun e g=>[]) (da.l0.partial_correctness c a1) ?_ _ _ h) ⟨u,u,u,u,u,tv⟩ u
  clear h
  intro f' ih e g h
  refine sx (c1<|.nil)<|wSeq<|jx h (fun a h=>?_) fun a h=>?_
  ·exact wd a u<|wSkip<|pSeq<|wSeq<|wBlock<|sx (c2<|.nil)<|bx h fun m i h=>ix h fun j h=>ix h fun k h=>rx (c4<|iX u23 z70 i u u<|c2<|cp (oShr j tm tm) (s2 u u)<|cp (oAnd tm (cI (by decide))) (s1 u)<|c1<|cp (oShl k tm tm) (s2 u u)<|cp (oOr tm tm) (s2 u u)<|c1<|.nil)<|pBlkN<|pSeq<|rx (c2<|.nil)<|pLoop (lW (ih _ _ h) ⟨u,u,u,u,u,tv⟩ u)
  ·exact we a u<|wExit<|pThenX<|pThenX<|pBlkX<|pJ1 _ (so h) (sb u) u
 ·refine pSeq<|sx (c2<|.nil)<|wRet ?_
  obtain rfl:=so h
  exact pT u u
theorem cT.ok(h:cT.f c a1 a2=some r):FnA PP 111 [(kR aC).sig c,ki.sig a1,ki.sig a2] (ki.sig r):=by
 refine fJ Tryz.func111 u fun H0 w0=>?_
 unfold cT.f at h
 refine sx (c2<|.nil)<|wSeq<|bx h fun j k h=>bx h fun l m h=>rdx hm (c2<|cC (da.ok k)<|c2<|cC (da.ok m)<|cp (oAnd tm tm) (s2 u u)<|c1<|.nil)<|pSeq<|wSeq<|sx (c4<|.nil) ?_
 obtain⟨n,h,e⟩:=bd h
 refine wK0 (.inr ()=n) ([]) ([]) ?_ ?_
 ·refine wBlock (wLoop ?_)
  refine lW (pc1 n (fun g=>[(3,.d (sP (kR aC) c)),(7,.d ((kI .u32).sig (bAnd .u32 j l))),(18,.d (ki.sig (c.Up.length:Int))),(19,.d (ki.sig g))]) (fun g=>[]) (cT.l0.partial_correctness c j l) ?_ _ h) ⟨u,u,u,u,tv⟩ u
  clear h
  intro f' ih g h
  refine sx (c1<|.nil)<|wSeq<|jx h (fun a h=>?_) fun a h=>?_
  ·refine wd a u<|wSkip<|pSeq<|wSeq<|wBlock<|sx (c2<|.nil)<|wSeq<|bx h fun o i h=>rx (c2<|cC (da.ok i)<|c2<|.nil)<|pSeq<|jx h (fun b h=>?_) fun b h=>?_
   ·refine wd b u<|sx (c2<|.nil)<|wRet<|pBlkR<|pThenR<|pThenR<|pBlkR<|pThenR ?_
    obtain rfl:=so h
    replace h:=e
    refine pThenR ?_
    obtain rfl:=so h
    exact pT u u
   ·exact we b u<|wSkip<|pBlkN<|pSeq<|rx (c2<|.nil)<|pLoop (lW (ih _ h) ⟨u,u,u,u,tv⟩ u)
  ·exact we a u<|wExit<|pThenX<|pThenX<|pBlkX<|pJ0 (so h) tv u
 ·rintro rfl
  replace h:=e
  refine pSeq<|sx (c1<|.nil)<|wRet ?_
  obtain rfl:=so h
  exact pT u u
theorem ck.ok(h:ck.f t=some r):FnA PP 64 [(kR aC).sig t] (ki.sig r):=by
 refine fJ Tryz.func64 u fun H0 w0=>?_
 unfold ck.f at h
 refine sx (c1<|cw (oAlloc (id:=2) (ls:=[.d ki 0]) ze39 (fun g=>⟨[(.int .i64 0)],_,u,zI_i64 g.H,u⟩)) tv<|.nil)<|wSeq<|wBlock<|wSeq<|bx h fun E x h=>rx (c1<|cC (dx.ok x)<|c2<|.nil)<|pSeq<|jx h (fun i h=>?_) fun i h=>?_
 ·refine wb i u<|sx (cwn (oSt (n:=0) (k:=0) u u u u z39 tm (cI (by decide))) (s1 u)<|.nil)<|wRet<|pBlkR<|pThenR ?_
  obtain rfl:=so h
  exact pR1 (.inl u) u (.boxV (n:=0) u u t39<|.nil)
 ·refine wc i u<|wSeq<|bx h fun F y h=>rx (c1<|cC (eh.ok y)<|c2<|.nil)<|pSeq<|jx h (fun j h=>?_) fun j h=>?_
  ·refine wb j u<|sx (cwn (oSt (n:=0) (k:=0) u u u u z39 tm (cI (by decide))) (s1 u)<|.nil)<|wRet<|pBlkR<|pThenR ?_
   obtain rfl:=so h
   exact pR1 (.inl u) u (.boxV (n:=0) u u t39<|.nil)
  ·refine wc j u<|wSkip<|pBlkN<|pSeq<|wSeq<|wSeq<|bx h fun A z h=>rx (c3<|cC (f9.ok z)<|.nil)<|pSeq<|wBlock<|bx h fun B v h=>wRange (Γ':=[(1,.d (sP (kR aC) t)),(2,.p 2 0)]) (Γ2:=fun c e=>[(1,.d (sP (kR aC) t)),(2,.p 2 0),(3,.d (ki.sig c)),(4,.d (ki.sig e))]) (fun(a:Int)=>[.box 2 39 [.d ki a]]) (fun(a:Int) c e=>[.box 2 39 [.d ki a]]) [Code.ret] [2] (ck.y0 t) 0 u (bv.ok (a1:=A)) b136 v u ⟨u,u,tv⟩ u u u ?_ ?_ ?_
   ·intro X H0 w0 l pv a c e
    exact sx (c1<|.nil)<|rx (c1<|.nil)<|qA ⟨u,u,u,u,tv⟩
   ·intro X H0 w0 l pv a c e o h
    unfold ck.y0 at h
    refine wBlock<|wB h (fun m=>[(2,.p 2 0),(30,.d (kB.sig m))]) (fun m=>[.box 2 39 [.d ki a]]) (fun G h=>?_) fun m h=>?_
    ·refine bx h fun C q h=>jx h (fun s h=>?_) fun s h=>?_
     ·exact ej (c3<|cC (fo.ok q)<|c8<|.nil) (so h) (sb u) u
     ·exact bx h fun D w h=>ej (c3<|cC (fo.ok q)<|c4<|c1<|cgB (dF s.1) u u (oCall u (cT.ok w) b111 (oc tm (oc tm (oc tm o0)))) (s3 u u u)<|c2<|.nil) (so h) (sb u) u
    ·refine jx h (fun b h=>?_) fun b h=>?_
     ·refine wb b u<|sx (cwn (oSt (n:=0) (k:=0) u u u u z39 tm (cI (by decide))) (s1 u)<|.nil)<|wRet<|pBlkR ?_
      obtain rfl:=so h
      exact qR u
     ·refine wc b u<|wSkip<|pBlkN ?_
      obtain rfl:=so h
      exact qN
   ·obtain⟨hj33,h⟩|⟨hj33,h⟩:=ic h
    ·refine jp0 hj33<|pBlkN<|pSeq<|sx (cwn (oSt (n:=0) (k:=0) u u u u z39 tm (cI (by decide))) (s1 u)<|.nil)<|wRet ?_
     obtain rfl:=so h
     exact pR1 (.inl u) u (.boxV (n:=0) u u t39<|.nil)
    ·obtain⟨hj33,h⟩|⟨hj33,h⟩:=ic h
     ·refine jpR hj33 u<|pBlkR<|pThenR ?_
      obtain rfl:=so h
      exact pR1 (.inl u) u (.boxV (n:=0) u u t39<|.nil)
     ·cases h
theorem eR.ok(h:eR.f l a1=some r):FnS PP 199 [.d (kB.sig l),.p 70100 0] [.box 70100 248 [.v 70101],.row 70101 232 kB a1] [70100] (.d (kB.sig r.2)) [.box 70100 248 [.v 70101],.row 70101 232 kB r.1]:=by
 refine fnIntroS Tryz.func199 u (by kernel_rfl) fun X H0 w0 pv=>?_
 unfold eR.f at h
 refine sx (c1<|.nil)<|sx (lN 0 0 u u u t248 u<|cr (oLenR (n:=1) u248 u tm) (s1 u)<|c2<|.nil)<|wSeq<|wWeak (Γ':=[(0,.d (kB.sig l)),(1,.p 70100 0),(4,.d (ki.sig (IntKind.i64.wrap ((a1.length:Int)-1))))]) (sb u)<|wRen 70101 3510000 u<|wB h (fun j=>[(1,.p 70100 0),(4,.d (ki.sig (IntKind.i64.wrap ((a1.length:Int)-1)))),(26,.d (kB.sig j))]) (fun j=>[.box 70100 248 [.v 3510000],.row 3510000 232 kB a1]) (fun o h=>?_) fun j h=>?_
 ·refine jx h (fun a h=>?_) fun a h=>?_
  ·exact ej (c12<|c6<|c1<|.nil) (so h) (sb u) u
  ·refine bx h fun q e h=>jx h (fun b h=>?_) fun b h=>?_
   ·exact bx h fun s i h=>ej (c3<|crgB (dF a.1) u u (oLdN (n:=0) (k:=0) u u u t248 tm) (s1 u)<|c1<|crgB (dF a.1) u u (oIdxR (n:=1) u248 z232 u e tm tm) (s2 u u)<|crgB (dF a.1) u u (oLdE (n:=1) u e u t232 tm) (s1 u)<|c1<|cgB (dF a.1) u u (oBNe u232 u tm tm) (s2 u u)<|c2<|crgB (nf b.1) u u (oLdN (n:=0) (k:=0) u u u t248 tm) (s1 u)<|c2<|crgB (nf b.1) u u (oIdxR (n:=1) u248 z232 u i tm tm) (s2 u u)<|crgB (nf b.1) u u (oLdE (n:=1) u i u t232 tm) (s1 u)<|c1<|cgB (nf b.1) u u (oBNe u232 u tm tm) (s2 u u)<|c1<|.nil) (so h) (sb u) u
   ·exact ej (c3<|crgB (dF a.1) u u (oLdN (n:=0) (k:=0) u u u t248 tm) (s1 u)<|c1<|crgB (dF a.1) u u (oIdxR (n:=1) u248 z232 u e tm tm) (s2 u u)<|crgB (dF a.1) u u (oLdE (n:=1) u e u t232 tm) (s1 u)<|c1<|cgB (dF a.1) u u (oBNe u232 u tm tm) (s2 u u)<|c8<|c2<|.nil) (so h) (sb u) u
 ·refine jx h (fun c h=>?_) fun c h=>?_
  ·refine wb c u<|sx (c1<|.nil)<|wRet<|pThenR ?_
   obtain rfl:=so h
   exact pSub (Γ':=[(3,.d (kB.sig false))]) (sb u)<|pRen 3510000 70101 u<|pS1 [0,1] u u (.inl u) u (.tmp u<|.nil)
  ·refine wc c u<|wSkip<|pSeq<|wSeq<|ix h fun g h=>rx (lN 0 0 u u u t248 u<|c2<|cw (oCutR (n:=1) (id':=30) u248 z232 u g.1 g.2 tm tm) (s2 u u)<|cwn (oStN (n:=0) (m:=1) (k:=0) u u u u z248 u tm tm) (s2 u u)<|.nil)<|pSeq<|sx (c1<|.nil)<|wRet ?_
   obtain rfl:=so h
   exact pSub (Γ':=[(3,.d (kB.sig true))]) (sb u)<|pRen 30 70101 u<|pS1 [0,1] u u (.inl u) u (.tmp u<|.nil)
theorem eF.ok(h:eF.f a=some r):FnA PP 188 [(kL ki).sig a] (tup [kB.sig r.1,kB.sig r.2]):=by
 refine fJ Tryz.func188 u fun H0 w0=>?_
 unfold eF.f at h
 refine sx (c2<|.nil)<|sx (cw (oAlloc (id:=4) (ls:=[.d (kN Bool) []]) ze248 (fun g=>⟨[(.slice none 0 0)],_,u,zN g.H,u⟩)) tv<|.nil)<|sx (cp (oMkN (ids:=[4]) (caps:=[none]) u (oNp tm oN0)) (s1 u)<|c1<|.nil)<|wSeq<|sx (c3<|.nil)<|wNilL kB 232 5200 (n:=0) (k:=0) u u u ?_
 obtain⟨o1,h,qm⟩:=bd h
 refine wK1 (fun c=>.inr c=o1) (fun c=>[(0,.d ((kL ki).sig a)),(4,.p 4 0)]) (fun c=>[.row 5200 232 kB c,.box 4 248 [.v 5200]]) ?_ ?_
 ·refine wBlock (wLoop ?_)
  refine lW (pc2 o1 (fun I b=>[(0,.d ((kL ki).sig a)),(4,.p 4 0),(5,.f [4] (sCloN 199 [none])),(10,.d ((kL ki).sig a)),(11,.d (ki.sig (a.length:Int))),(12,.d (ki.sig b))]) (fun I b=>[.row 5200 232 kB I,.box 4 248 [.v 5200]]) (eF.l0.partial_correctness a) ?_ _ _ h) ⟨u,u,u,u,u,u,tv⟩ u
  clear h
  intro f' ih I b h
  refine sx (c1<|.nil)<|wSeq<|jx h (fun z h=>?_) fun z h=>?_
  ·refine wd z u<|wSkip<|pSeq ?_
   obtain⟨o2,h,qn⟩:=bd h
   refine wJ1 (fun w=>.inr w=o2) (fun w=>[(0,.d ((kL ki).sig a)),(4,.p 4 0),(5,.f [4] (sCloN 199 [none])),(10,.d ((kL ki).sig a)),(11,.d (ki.sig (a.length:Int))),(12,.d (ki.sig b))]) (fun w=>[.row 5200 232 kB w,.box 4 248 [.v 5200]]) ?_ ?_
   ·refine wBlock<|wSeq<|bx h fun qp Q h=>rx (iX u56 z3 Q u u<|c2<|.nil)<|pSeq<|sx (c1<|.nil)<|wSeq<|sx (c1<|.nil) ?_
    obtain⟨o3,h,qo⟩:=bd h
    refine wK2 (fun x y=>(x,y)=o3) (fun x y=>[(0,.d ((kL ki).sig a)),(4,.p 4 0),(5,.f [4] (sCloN 199 [none])),(8,.d (kB.sig y)),(10,.d ((kL ki).sig a)),(11,.d (ki.sig (a.length:Int))),(12,.d (ki.sig b))]) (fun x y=>[.row 5200 232 kB x,.box 4 248 [.v 5200]]) ?_ ?_
    ·refine wBlock<|wSeq<|sx (c2<|.nil)<|jx h (fun e h=>?_) fun e h=>?_
     ·exact wd e u<|wSkip<|pSeq<|wd e u<|ix h fun R h=>rx (lN 1 0 u u u t248 u<|cp (oLit (d:=kB) el248 (by decide) u u u (e1 cB e0)) tv<|cw (oApp (n:=0) (id':=22) el248 (by decide) u (by decide) R tm tm) (s2 u u)<|cwn (oStN (n:=1) (m:=0) (k:=0) u u u u z248 u tm tm) (s2 u u)<|.nil)<|pBlkN<|pSub (Γ':=[(0,.d ((kL ki).sig a)),(4,.p 4 0),(5,.f [4] (sCloN 199 [none])),(8,.d (kB.sig true)),(10,.d ((kL ki).sig a)),(11,.d (ki.sig (a.length:Int))),(12,.d (ki.sig b))]) (sb u)<|pRen 22 5200 u<|pJ2 _ _ (so h) (sb u) u
     ·refine we e u<|rx (c2<|.nil)<|pSeq<|jx h (fun A h=>?_) fun A h=>?_
      ·exact wd A u<|ix h fun S h=>rx (lN 1 0 u u u t248 u<|cp (oLit (d:=kB) el248 (by decide) u u u (e1 cB e0)) tv<|cw (oApp (n:=0) (id':=22) el248 (by decide) u (by decide) S tm tm) (s2 u u)<|cwn (oStN (n:=1) (m:=0) (k:=0) u u u u z248 u tm tm) (s2 u u)<|.nil)<|pBlkN<|pSub (Γ':=[(0,.d ((kL ki).sig a)),(4,.p 4 0),(5,.f [4] (sCloN 199 [none])),(8,.d (kB.sig true)),(10,.d ((kL ki).sig a)),(11,.d (ki.sig (a.length:Int))),(12,.d (ki.sig b))]) (sb u)<|pRen 22 5200 u<|pJ2 _ _ (so h) (sb u) u
      ·refine we A u<|wSeq<|sx (c2<|.nil)<|jx h (fun i h=>?_) fun i h=>?_
       ·exact wd i u<|wSkip<|pSeq<|wd i u<|ix h fun T h=>rx (lN 1 0 u u u t248 u<|cp (oLit (d:=kB) el248 (by decide) u u u (e1 cB e0)) tv<|cw (oApp (n:=0) (id':=32) el248 (by decide) u (by decide) T tm tm) (s2 u u)<|cwn (oStN (n:=1) (m:=0) (k:=0) u u u u z248 u tm tm) (s2 u u)<|.nil)<|pBlkN<|pSub (Γ':=[(0,.d ((kL ki).sig a)),(4,.p 4 0),(5,.f [4] (sCloN 199 [none])),(8,.d (kB.sig true)),(10,.d ((kL ki).sig a)),(11,.d (ki.sig (a.length:Int))),(12,.d (ki.sig b))]) (sb u)<|pRen 32 5200 u<|pJ2 _ _ (so h) (sb u) u
       ·refine we i u<|sx (c2<|.nil)<|jx h (fun j h=>?_) fun j h=>?_
        ·exact wd j u<|wSkip<|pSeq<|wd j u<|ix h fun U h=>rx (lN 1 0 u u u t248 u<|cp (oLit (d:=kB) el248 (by decide) u u u (e1 cB e0)) tv<|cw (oApp (n:=0) (id':=32) el248 (by decide) u (by decide) U tm tm) (s2 u u)<|cwn (oStN (n:=1) (m:=0) (k:=0) u u u u z248 u tm tm) (s2 u u)<|.nil)<|pBlkN<|pSub (Γ':=[(0,.d ((kL ki).sig a)),(4,.p 4 0),(5,.f [4] (sCloN 199 [none])),(8,.d (kB.sig true)),(10,.d ((kL ki).sig a)),(11,.d (ki.sig (a.length:Int))),(12,.d (ki.sig b))]) (sb u)<|pRen 32 5200 u<|pJ2 _ _ (so h) (sb u) u
        ·refine we j u<|sx (c2<|.nil)<|jx h (fun l h=>?_) fun l h=>?_
         ·exact wd l u<|wSkip<|pSeq<|wd l u<|ix h fun V h=>rx (lN 1 0 u u u t248 u<|cp (oLit (d:=kB) el248 (by decide) u u u (e1 cB e0)) tv<|cw (oApp (n:=0) (id':=32) el248 (by decide) u (by decide) V tm tm) (s2 u u)<|cwn (oStN (n:=1) (m:=0) (k:=0) u u u u z248 u tm tm) (s2 u u)<|.nil)<|pBlkN<|pSub (Γ':=[(0,.d ((kL ki).sig a)),(4,.p 4 0),(5,.f [4] (sCloN 199 [none])),(8,.d (kB.sig true)),(10,.d ((kL ki).sig a)),(11,.d (ki.sig (a.length:Int))),(12,.d (ki.sig b))]) (sb u)<|pRen 32 5200 u<|pJ2 _ _ (so h) (sb u) u
         ·refine we l u<|sx (c2<|.nil)<|jx h (fun o h=>?_) fun o h=>?_
          ·exact wd o u<|wSkip<|pSeq<|wd o u<|ix h fun W h=>rx (lN 1 0 u u u t248 u<|cp (oLit (d:=kB) el248 (by decide) u u u (e1 cB e0)) tv<|cw (oApp (n:=0) (id':=32) el248 (by decide) u (by decide) W tm tm) (s2 u u)<|cwn (oStN (n:=1) (m:=0) (k:=0) u u u u z248 u tm tm) (s2 u u)<|.nil)<|pBlkN<|pSub (Γ':=[(0,.d ((kL ki).sig a)),(4,.p 4 0),(5,.f [4] (sCloN 199 [none])),(8,.d (kB.sig true)),(10,.d ((kL ki).sig a)),(11,.d (ki.sig (a.length:Int))),(12,.d (ki.sig b))]) (sb u)<|pRen 32 5200 u<|pJ2 _ _ (so h) (sb u) u
          ·refine we o u<|sx (c2<|.nil)<|jx h (fun q h=>?_) fun q h=>?_
           ·exact wd q u<|wSkip<|pSeq<|wd q u<|ix h fun X h=>rx (lN 1 0 u u u t248 u<|cp (oLit (d:=kB) el248 (by decide) u u u (e1 cB e0)) tv<|cw (oApp (n:=0) (id':=32) el248 (by decide) u (by decide) X tm tm) (s2 u u)<|cwn (oStN (n:=1) (m:=0) (k:=0) u u u u z248 u tm tm) (s2 u u)<|.nil)<|pBlkN<|pSub (Γ':=[(0,.d ((kL ki).sig a)),(4,.p 4 0),(5,.f [4] (sCloN 199 [none])),(8,.d (kB.sig true)),(10,.d ((kL ki).sig a)),(11,.d (ki.sig (a.length:Int))),(12,.d (ki.sig b))]) (sb u)<|pRen 32 5200 u<|pJ2 _ _ (so h) (sb u) u
           ·refine we q u<|rx (c2<|.nil)<|pSeq<|jx h (fun B h=>?_) fun B h=>?_
            ·exact wd B u<|ix h fun Y h=>rx (lN 1 0 u u u t248 u<|cp (oLit (d:=kB) el248 (by decide) u u u (e1 cB e0)) tv<|cw (oApp (n:=0) (id':=32) el248 (by decide) u (by decide) Y tm tm) (s2 u u)<|cwn (oStN (n:=1) (m:=0) (k:=0) u u u u z248 u tm tm) (s2 u u)<|.nil)<|pBlkN<|pSub (Γ':=[(0,.d ((kL ki).sig a)),(4,.p 4 0),(5,.f [4] (sCloN 199 [none])),(8,.d (kB.sig true)),(10,.d ((kL ki).sig a)),(11,.d (ki.sig (a.length:Int))),(12,.d (ki.sig b))]) (sb u)<|pRen 32 5200 u<|pJ2 _ _ (so h) (sb u) u
            ·refine we B u<|wSeq<|sx (c2<|.nil)<|jx h (fun s h=>?_) fun s h=>?_
             ·exact wd s u<|wSkip<|pSeq<|wd s u<|wSeq<|bx h fun J Z h=>rx (c1<|cm (oCallN (ins:=[.d (kB.sig false)]) (caps:=[none]) (kn:=[70100]) (rest:=[]) (R':=[.row 510040 232 kB J.1,.box 4 248 [.v 510040]]) (out':=.d (kB.sig J.2)) [(70100,4),(70101,5200)] [(70101,510040)] [1,0] [] [1,0] u tm (eR.ok Z) u b199 (oE1 cB oE0) u u u u u u u u) (s1 u)<|c1<|.nil)<|pSeq<|ix h fun qc h=>rx (lN 1 0 u u u t248 u<|cp (oLit (d:=kB) el248 (by decide) u u u (e1 cB e0)) tv<|cw (oApp (n:=0) (id':=40) el248 (by decide) u (by decide) qc tm tm) (s2 u u)<|cwn (oStN (n:=1) (m:=0) (k:=0) u u u u z248 u tm tm) (s2 u u)<|.nil)<|pBlkN<|pSub (Γ':=[(0,.d ((kL ki).sig a)),(4,.p 4 0),(5,.f [4] (sCloN 199 [none])),(8,.d (kB.sig J.2)),(10,.d ((kL ki).sig a)),(11,.d (ki.sig (a.length:Int))),(12,.d (ki.sig b))]) (sb u)<|pRen 40 5200 u<|pJ2 _ _ (so h) (sb u) u
             ·refine we s u<|rx (c2<|.nil)<|pSeq<|jx h (fun C h=>?_) fun C h=>?_
              ·exact wd C u<|wSeq<|bx h fun K qd h=>rx (c1<|cm (oCallN (ins:=[.d (kB.sig false)]) (caps:=[none]) (kn:=[70100]) (rest:=[]) (R':=[.row 510040 232 kB K.1,.box 4 248 [.v 510040]]) (out':=.d (kB.sig K.2)) [(70100,4),(70101,5200)] [(70101,510040)] [1,0] [] [1,0] u tm (eR.ok qd) u b199 (oE1 cB oE0) u u u u u u u u) (s1 u)<|c1<|.nil)<|pSeq<|ix h fun qe h=>rx (lN 1 0 u u u t248 u<|cp (oLit (d:=kB) el248 (by decide) u u u (e1 cB e0)) tv<|cw (oApp (n:=0) (id':=40) el248 (by decide) u (by decide) qe tm tm) (s2 u u)<|cwn (oStN (n:=1) (m:=0) (k:=0) u u u u z248 u tm tm) (s2 u u)<|.nil)<|pBlkN<|pSub (Γ':=[(0,.d ((kL ki).sig a)),(4,.p 4 0),(5,.f [4] (sCloN 199 [none])),(8,.d (kB.sig K.2)),(10,.d ((kL ki).sig a)),(11,.d (ki.sig (a.length:Int))),(12,.d (ki.sig b))]) (sb u)<|pRen 40 5200 u<|pJ2 _ _ (so h) (sb u) u
              ·refine we C u<|sx (c2<|.nil)<|jx h (fun D h=>?_) fun D h=>?_
               ·exact wd D u<|wSeq<|bx h fun L qf h=>rx (c1<|cm (oCallN (ins:=[.d (kB.sig true)]) (caps:=[none]) (kn:=[70100]) (rest:=[]) (R':=[.row 540040 232 kB L.1,.box 4 248 [.v 540040]]) (out':=.d (kB.sig L.2)) [(70100,4),(70101,5200)] [(70101,540040)] [1,0] [] [1,0] u tm (eR.ok qf) u b199 (oE1 cB oE0) u u u u u u u u) (s1 u)<|c1<|.nil)<|pSeq<|ix h fun qg h=>rx (lN 1 0 u u u t248 u<|cp (oLit (d:=kB) el248 (by decide) u u u (e1 cB e0)) tv<|cw (oApp (n:=0) (id':=47) el248 (by decide) u (by decide) qg tm tm) (s2 u u)<|cwn (oStN (n:=1) (m:=0) (k:=0) u u u u z248 u tm tm) (s2 u u)<|.nil)<|pBlkN<|pSub (Γ':=[(0,.d ((kL ki).sig a)),(4,.p 4 0),(5,.f [4] (sCloN 199 [none])),(8,.d (kB.sig L.2)),(10,.d ((kL ki).sig a)),(11,.d (ki.sig (a.length:Int))),(12,.d (ki.sig b))]) (sb u)<|pRen 47 5200 u<|pJ2 _ _ (so h) (sb u) u
               ·refine we D u<|wSeq<|sx (c2<|.nil)<|jx h (fun t h=>?_) fun t h=>?_
                ·exact wd t u<|wSkip<|pSeq<|wd t u<|wSeq<|bx h fun M qh h=>rx (c1<|cm (oCallN (ins:=[.d (kB.sig true)]) (caps:=[none]) (kn:=[70100]) (rest:=[]) (R':=[.row 580040 232 kB M.1,.box 4 248 [.v 580040]]) (out':=.d (kB.sig M.2)) [(70100,4),(70101,5200)] [(70101,580040)] [1,0] [] [1,0] u tm (eR.ok qh) u b199 (oE1 cB oE0) u u u u u u u u) (s1 u)<|c1<|.nil)<|pSeq<|ix h fun qi h=>rx (lN 1 0 u u u t248 u<|cp (oLit (d:=kB) el248 (by decide) u u u (e1 cB e0)) tv<|cw (oApp (n:=0) (id':=55) el248 (by decide) u (by decide) qi tm tm) (s2 u u)<|cwn (oStN (n:=1) (m:=0) (k:=0) u u u u z248 u tm tm) (s2 u u)<|.nil)<|pBlkN<|pSub (Γ':=[(0,.d ((kL ki).sig a)),(4,.p 4 0),(5,.f [4] (sCloN 199 [none])),(8,.d (kB.sig M.2)),(10,.d ((kL ki).sig a)),(11,.d (ki.sig (a.length:Int))),(12,.d (ki.sig b))]) (sb u)<|pRen 55 5200 u<|pJ2 _ _ (so h) (sb u) u
                ·refine we t u<|rx (c2<|.nil)<|pSeq<|jx h (fun E h=>?_) fun E h=>?_
                 ·exact wd E u<|wSeq<|bx h fun N qj h=>rx (c1<|cm (oCallN (ins:=[.d (kB.sig true)]) (caps:=[none]) (kn:=[70100]) (rest:=[]) (R':=[.row 580040 232 kB N.1,.box 4 248 [.v 580040]]) (out':=.d (kB.sig N.2)) [(70100,4),(70101,5200)] [(70101,580040)] [1,0] [] [1,0] u tm (eR.ok qj) u b199 (oE1 cB oE0) u u u u u u u u) (s1 u)<|c1<|.nil)<|pSeq<|ix h fun qk h=>rx (lN 1 0 u u u t248 u<|cp (oLit (d:=kB) el248 (by decide) u u u (e1 cB e0)) tv<|cw (oApp (n:=0) (id':=55) el248 (by decide) u (by decide) qk tm tm) (s2 u u)<|cwn (oStN (n:=1) (m:=0) (k:=0) u u u u z248 u tm tm) (s2 u u)<|.nil)<|pBlkN<|pSub (Γ':=[(0,.d ((kL ki).sig a)),(4,.p 4 0),(5,.f [4] (sCloN 199 [none])),(8,.d (kB.sig N.2)),(10,.d ((kL ki).sig a)),(11,.d (ki.sig (a.length:Int))),(12,.d (ki.sig b))]) (sb u)<|pRen 55 5200 u<|pJ2 _ _ (so h) (sb u) u
                 ·exact we E u<|rx (c1<|.nil)<|pBlkN<|pJ2 _ _ (so h) (sb u) u
    ·rintro x y rfl
     replace h:=qo
     refine pSeq<|sx (c2<|.nil)<|jx h (fun F h=>?_) fun F h=>?_
     ·refine wb F u<|sx (c2<|.nil)<|wRet<|pBlkR<|pThenR ?_
      obtain rfl:=so h
      replace h:=qn
      refine pThenR<|pBlkR<|pThenR ?_
      obtain rfl:=so h
      replace h:=qm
      refine pThenR ?_
      obtain rfl:=so h
      exact pRn (.inl u) u u (.tmp u<|.tmp u<|.nil)
     ·exact wc F u<|wSkip<|pBlkN<|pJ1 _ (so h) (sb u) u
   ·rintro w rfl
    replace h:=qn
    exact rx (c2<|.nil)<|pLoop (lW (ih _ _ h) ⟨u,u,u,u,u,u,tv⟩ u)
  ·exact we z u<|wExit<|pThenX<|pThenX<|pBlkX<|pJ1 _ (so h) (sb u) u
 ·rintro c rfl
  replace h:=qm
  refine pSeq<|wSeq<|wB h (fun O=>[(4,.p 4 0),(66,.d (kB.sig O))]) (fun O=>[.row 5200 232 kB c,.box 4 248 [.v 5200]]) (fun o1 h=>?_) fun O h=>?_
  ·refine jx h (fun ql h=>?_) fun ql h=>?_
   ·exact ej (lN 1 0 u u u t248 u<|cr (oLenR (n:=0) u248 u tm) (s1 u)<|c6<|.nil) (so h) (sb u) u
   ·exact ej (lN 1 0 u u u t248 u<|cr (oLenR (n:=0) u248 u tm) (s1 u)<|c6<|.nil) (so h) (sb u) u
  ·refine jx h (fun G h=>?_) fun G h=>?_
   ·refine wb G u<|sx (c2<|.nil)<|wRet<|pThenR ?_
    obtain rfl:=so h
    exact pRn (.inl u) u u (.tmp u<|.tmp u<|.nil)
   ·refine wc G u<|wSkip<|pSeq<|wSeq<|bx h fun qq P h=>rx (lN 1 0 u u u t248 u<|cr (oIdxR (n:=0) u248 z232 u P tm (cI (by decide))) (s1 u)<|cr (oLdE (n:=0) u P u t232 tm) (s1 u)<|c2<|.nil)<|pSeq<|wRet ?_
    obtain rfl:=so h
    exact pRn (.inl u) u u (.tmp u<|.tmp u<|.nil)
theorem eP.ok(h:eP.f e a1=some r):FnA PP 166 [(kL ki).sig e,kB.sig a1] (kB.sig r):=by
 refine fJ Tryz.func166 u fun H0 w0=>?_
 unfold eP.f at h
 refine sx (c1<|.nil)<|wSeq<|bx h fun g c h=>rx (c1<|cC (eF.ok c)<|c4<|c1<|.nil)<|pSeq<|wB h (fun b=>[(4,.d (kB.sig b))]) (fun b=>[]) (fun i h=>?_) fun b h=>?_
 ·refine jx h (fun a h=>?_) fun a h=>?_
  ·exact ej (c4<|cgB a.1 u u (oBEq u4 u tm tm) (s2 u u)<|c2<|.nil) (so h) (sb u) u
  ·exact ej (c6<|c1<|.nil) (so h) (sb u) u
 ·refine wRet ?_
  obtain rfl:=so h
  exact pT u u
theorem f1.ok(h:f1.f j=some r):FnA PP 144 [(kR bj).sig j] (kB.sig r):=by
 refine fJ Tryz.func144 u fun H0 w0=>?_
 unfold f1.f at h
 refine sx (c2<|.nil)<|wB h (fun g=>[(2,.d (kB.sig g))]) (fun g=>[]) (fun l h=>?_) fun g h=>?_
 ·refine bx h fun m a h=>jx h (fun b h=>?_) fun b h=>?_
  ·refine bx h fun n e h=>jx h (fun c h=>?_) fun c h=>?_
   ·exact bx h fun k i h=>ej (c2<|cC (eP.ok a)<|c3<|cgB b.1 u u (oCall u (eP.ok e) b166 (oc tm (oc cB o0))) (s1 u)<|c4<|cgB c.1 u u (oCall u (eP.ok i) b166 (oc tm (oc cB o0))) (s1 u)<|c2<|.nil) (so h) (sb u) u
   ·exact ej (c2<|cC (eP.ok a)<|c3<|cgB b.1 u u (oCall u (eP.ok e) b166 (oc tm (oc cB o0))) (s1 u)<|c6<|c1<|.nil) (so h) (sb u) u
  ·exact ej (c2<|cC (eP.ok a)<|c8<|c3<|.nil) (so h) (sb u) u
 ·refine wRet ?_
  obtain rfl:=so h
  exact pT u u
theorem eO.ok(h:eO.f a=some r):FnA PP 189 [(kL ki).sig a] (tup [(kI .u32).sig r.1,ki.sig r.2]):=by
 refine fJ Tryz.func189 u fun H0 w0=>?_
 unfold eO.f at h
 refine sx (c2<|.nil)<|wSeq<|wSeq<|bx h fun t p h=>rx (c1<|cC (eF.ok p)<|c4<|c1<|.nil)<|pSeq<|sx (c2<|.nil)<|jx h (fun i h=>?_) fun i h=>?_
 ·refine wb i u<|sx (c2<|.nil)<|wRet<|pThenR ?_
  obtain rfl:=so h
  exact pRn (.inl u) u u (.tmp u<|.tmp u<|.nil)
 ·refine wc i u<|wSkip<|pSeq<|sx (c1<|.nil)<|wSeq<|sx (c3<|.nil)<|kX h (fun j=>[(6,.d ((kI .u32).sig j))]) (fun j=>[]) (fun s h=>?_) fun j h=>?_
  ·refine wBlock (wLoop ?_)
   refine lW (pc2 s (fun b g=>[(6,.d ((kI .u32).sig g)),(16,.d ((kL ki).sig a)),(17,.d (ki.sig (a.length:Int))),(18,.d (ki.sig b))]) (fun b g=>[]) (eO.l0.partial_correctness a) ?_ _ _ h) ⟨u,u,u,u,tv⟩ u
   clear h
   intro f' ih b g h
   refine sx (c1<|.nil)<|wSeq<|jx h (fun c h=>?_) fun c h=>?_
   ·refine wd c u<|wSkip<|pSeq<|wB h (fun k=>[(6,.d ((kI .u32).sig k)),(16,.d ((kL ki).sig a)),(17,.d (ki.sig (a.length:Int))),(18,.d (ki.sig b))]) (fun k=>[]) (fun v h=>?_) fun k h=>?_
    ·refine wBlock<|wSeq<|bx h fun q m h=>rx (iX u56 z3 m u u<|c2<|.nil)<|pSeq<|wB h (fun l=>[(6,.d ((kI .u32).sig g)),(8,.d (ki.sig q)),(16,.d ((kL ki).sig a)),(17,.d (ki.sig (a.length:Int))),(18,.d (ki.sig b)),(27,.d (kB.sig l))]) (fun l=>[]) (fun w h=>?_) fun l h=>?_
     ·refine jx h (fun n h=>?_) fun n h=>?_
      ·exact ej (c6<|.nil) (so h) (sb u) u
      ·exact ej (c6<|.nil) (so h) (sb u) u
     ·refine jx h (fun e h=>?_) fun e h=>?_
      ·exact wb e u<|ix h fun o h=>rx (c3<|cp (oShl o (cI (by decide)) tm) (s1 u)<|cp (oOr tm tm) (s2 u u)<|c1<|.nil)<|pBlkN<|pJ1 _ (so h) (sb u) u
      ·exact wc e u<|wSkip<|pBlkN<|pJ1 _ (so h) (sb u) u
    ·exact rx (c2<|.nil)<|pLoop (lW (ih _ _ h) ⟨u,u,u,u,tv⟩ u)
   ·exact we c u<|wExit<|pThenX<|pThenX<|pBlkX<|pJ1 _ (so h) (sb u) u
  ·refine pSeq<|sx (c3<|.nil)<|wRet ?_
   obtain rfl:=so h
   exact pRn (.inl u) u u (.tmp u<|.tmp u<|.nil)
theorem ft.ok(h:ft.f i a1=some r):FnA PP 167 [ki.sig i,(kL ki).sig a1] (kB.sig r):=by
 refine fJ Tryz.func167 u fun H0 w0=>?_
 unfold ft.f at h
 refine sx (c1<|.nil)<|wSeq<|bx h fun j c h=>rx (c1<|cC (eO.ok c)<|c4<|c1<|.nil)<|pSeq<|wB h (fun b=>[(4,.d (kB.sig b))]) (fun b=>[]) (fun k h=>?_) fun b h=>?_
 ·refine jx h (fun a h=>?_) fun a h=>?_
  ·exact bx h fun l e h=>ix h fun g h=>ej (c4<|c1<|cgB (dT a.1) u u (oIdxG gm0 u237 u z3 e tm) (s1 u)<|c2<|cgB (dT a.1) u u (oShr g tm tm) (s2 u u)<|c3<|.nil) (so h) (sb u) u
  ·exact ej (c12<|.nil) (so h) (sb u) u
 ·refine wRet ?_
  obtain rfl:=so h
  exact pT u u
theorem fP.ok(h:fP.f j a1=some r):FnA PP 145 [ki.sig j,(kR bj).sig a1] (kB.sig r):=by
 refine fJ Tryz.func145 u fun H0 w0=>?_
 unfold fP.f at h
 refine sx (c2<|.nil)<|wB h (fun g=>[(4,.d (kB.sig g))]) (fun g=>[]) (fun l h=>?_) fun g h=>?_
 ·refine bx h fun m a h=>jx h (fun b h=>?_) fun b h=>?_
  ·refine bx h fun n e h=>jx h (fun c h=>?_) fun c h=>?_
   ·exact bx h fun k i h=>ej (c3<|cC (ft.ok a)<|c4<|cgB b.1 u u (oCall u (ft.ok e) b167 (oc tm (oc tm o0))) (s2 u u)<|c4<|c1<|cgB c.1 u u (oCall u (ft.ok i) b167 (oc tm (oc tm o0))) (s2 u u)<|c2<|.nil) (so h) (sb u) u
   ·exact ej (c3<|cC (ft.ok a)<|c4<|cgB b.1 u u (oCall u (ft.ok e) b167 (oc tm (oc tm o0))) (s2 u u)<|c8<|.nil) (so h) (sb u) u
  ·exact ej (c3<|cC (ft.ok a)<|c12<|c1<|.nil) (so h) (sb u) u
 ·refine wRet ?_
  obtain rfl:=so h
  exact pT u u
theorem er.ok(h:er.f k=some r):FnA PP 123 [(kR bn).sig k] (tup [ki.sig r.1,ki.sig r.2]):=by
 refine fJ Tryz.func123 u fun H0 w0=>?_
 unfold er.f at h
 refine sx (c3<|.nil)<|wSeq<|sx (c4<|.nil)<|jx h (fun g h=>?_) fun g h=>?_
 ·refine wh g u<|wSkip<|pSeq<|wSeq<|sx (c4<|.nil) ?_
  obtain⟨o,h,i⟩:=bd h
  refine wK0 (.inr ()=o) ([]) ([]) ?_ ?_
  ·refine wBlock (wLoop ?_)
   refine lW (pc1 o (fun j=>[(11,.d ((kL (kR bj)).sig k.Rows)),(12,.d (ki.sig (k.Rows.length:Int))),(13,.d (ki.sig j))]) (fun j=>[]) (er.l0.partial_correctness k) ?_ _ h) ⟨u,u,u,tv⟩ u
   clear h
   intro f' ih j h
   refine sx (c1<|.nil)<|wSeq<|jx h (fun b h=>?_) fun b h=>?_
   ·refine wd b u<|wSkip<|pSeq<|wSeq<|wBlock<|wSeq<|bx h fun a l h=>rx (c1<|iX u26 z58 l u u<|c1<|aL 5 Z58 ze58 zl58<|c1<|sA 0 bj u u z58 u u<|.nil)<|pSeq<|wBlock<|wSeq<|bx h fun p m h=>rx (lA 0 bj ⟨a.May,a.Res,a.Pc⟩ u ⟨u,u,u,tv⟩ t58 u<|cC (f1.ok m)<|c2<|.nil)<|pSeq<|jx h (fun c h=>?_) fun c h=>?_
    ·refine wb c u<|sx (c3<|.nil)<|wRet<|pBlkR<|pBlkR<|pThenR<|pThenR<|pBlkR<|pThenR ?_
     obtain rfl:=so h
     replace h:=i
     refine pThenR ?_
     obtain rfl:=so h
     exact pRn (.inl u) u u (.tmp u<|.tmp u<|.nil)
    ·refine wc c u<|wSeq<|bx h fun q n h=>rx (c1<|lA 0 bj ⟨a.May,a.Res,a.Pc⟩ u ⟨u,u,u,tv⟩ t58 u<|cC (fP.ok n)<|c2<|.nil)<|pSeq<|jx h (fun e h=>?_) fun e h=>?_
     ·refine wb e u<|sx (c3<|.nil)<|wRet<|pBlkR<|pBlkR<|pThenR<|pThenR<|pBlkR<|pThenR ?_
      obtain rfl:=so h
      replace h:=i
      refine pThenR ?_
      obtain rfl:=so h
      exact pRn (.inl u) u u (.tmp u<|.tmp u<|.nil)
     ·exact wc e u<|wSkip<|pBlkN<|pBlkN<|pSeq<|rx (c2<|.nil)<|pDrop (.cons _ .slnil)<|pLoop (lW (ih _ h) ⟨u,u,u,tv⟩ u)
   ·exact we b u<|wExit<|pThenX<|pThenX<|pBlkX<|pJ0 (so h) tv u
  ·rintro rfl
   replace h:=i
   refine pSeq<|sx (c2<|.nil)<|wRet ?_
   obtain rfl:=so h
   exact pRn (.inl u) u u (.tmp u<|.tmp u<|.nil)
 ·refine wg g u<|sx (c2<|.nil)<|wRet<|pThenR ?_
  obtain rfl:=so h
  exact pRn (.inl u) u u (.tmp u<|.tmp u<|.nil)
theorem fQ.ok(h:fQ.f c=some r):FnA PP 148 [ki.sig c] (kB.sig r):=by
 refine fJ Tryz.func148 u fun H0 w0=>?_
 unfold fQ.f at h
 refine sx (c1<|.nil)<|wB h (fun a=>[(2,.d (kB.sig a))]) (fun a=>[]) (fun e h=>?_) fun a h=>?_
 ·refine jx h (fun b h=>?_) fun b h=>?_
  ·exact ej (c6<|c1<|.nil) (so h) (sb u) u
  ·exact ej (c6<|c1<|.nil) (so h) (sb u) u
 ·refine wRet ?_
  obtain rfl:=so h
  exact pT u u
theorem eV.ok(h:eV.f c=some r):FnA PP 150 [ki.sig c] (kB.sig r):=by
 refine fJ Tryz.func150 u fun H0 w0=>?_
 unfold eV.f at h
 refine sx (c1<|.nil)<|wB h (fun a=>[(2,.d (kB.sig a))]) (fun a=>[]) (fun e h=>?_) fun a h=>?_
 ·refine jx h (fun b h=>?_) fun b h=>?_
  ·exact ej (c6<|c1<|.nil) (so h) (sb u) u
  ·exact ej (c6<|c1<|.nil) (so h) (sb u) u
 ·refine wRet ?_
  obtain rfl:=so h
  exact pT u u
theorem eY.ok(h:eY.f c a1 a2=some r):FnA PP 201 [ki.sig c,sP ki a1,sP ki a2] (kB.sig r):=by
 refine fJ Tryz.func201 u fun H0 w0=>?_
 unfold eY.f at h
 refine sx (c1<|.nil)<|wB h (fun a=>[(4,.d (kB.sig a))]) (fun a=>[]) (fun e h=>?_) fun a h=>?_
 ·refine jx h (fun b h=>?_) fun b h=>?_
  ·exact ej (c8<|c1<|.nil) (so h) (sb u) u
  ·exact ej (c8<|c1<|.nil) (so h) (sb u) u
 ·refine wRet ?_
  obtain rfl:=so h
  exact pT u u
theorem fz.ok{r:Int->Option Bool}(h:fz.f a a1=some r):FnA PP 200 [ki.sig a,ki.sig a1] ((sFun PP (rl1 ki kB r))):=by
 refine fJ Tryz.func200 u fun H0 w0=>?_
 unfold fz.f at h
 refine sx (c2<|cp (oAs cV) tv<|.nil)<|sx (cp (oMkF (Rl:=rl1 ki kB (fun b=>eY.f b a a1)) u b201 (rl1e eY.ok) (oc tm (oc tm o0))) (s2 u u)<|c1<|.nil)<|wRet ?_
 obtain rfl:=so h
 exact pT u u
theorem ir.ok{r:List (Int×(Option (Int->Option Bool)))}(h:ir.f=some r):FnA PP 190 [] ((sMap ki (kFn PP (rl1 ki kB)) r)):=by
 refine fJ Tryz.func190 u fun H0 w0=>?_
 unfold ir.f at h
 refine sx (cp (oAs cV) tv<|.nil)<|sx (cp (oAs (oFn b200 (rl2sn (o:=(fun r=>(sFun PP (rl1 ki kB r)))) fz.ok))) tv<|.nil)<|wSeq<|bx h fun e a h=>bx h fun g b h=>bx h fun i c h=>bx h fun j d h=>rx (cw (oMkMap (id:=2) (dk:=ki) (dv:=(kFn PP (rl1 ki kB)))) tv<|c1<|cp (oCallV u (rl2si (o:=(fun r=>(sFun PP (rl1 ki kB r)))) (f:=fz.f) a) tm (oc (cI (by decide)) (oc (cI (by decide)) o0))) (s1 u)<|cwn (oInsert (n:=0) (dk:=ki) (dv:=(kFn PP (rl1 ki kB))) u u239 mk3 u u tm (cI (by decide)) (oSome tm)) (s2 u u)<|c1<|cp (oCallV u (rl2si (o:=(fun r=>(sFun PP (rl1 ki kB r)))) (f:=fz.f) b) tm (oc (cI (by decide)) (oc (cI (by decide)) o0))) (s1 u)<|cwn (oInsert (n:=0) (dk:=ki) (dv:=(kFn PP (rl1 ki kB))) u u239 mk3 u u tm (cI (by decide)) (oSome tm)) (s2 u u)<|c1<|cp (oCallV u (rl2si (o:=(fun r=>(sFun PP (rl1 ki kB r)))) (f:=fz.f) c) tm (oc (cI (by decide)) (oc (cI (by decide)) o0))) (s1 u)<|cwn (oInsert (n:=0) (dk:=ki) (dv:=(kFn PP (rl1 ki kB))) u u239 mk3 u u tm (cI (by decide)) (oSome tm)) (s2 u u)<|c1<|cp (oCallV u (rl2si (o:=(fun r=>(sFun PP (rl1 ki kB r)))) (f:=fz.f) d) tm (oc (cI (by decide)) (oc (cI (by decide)) o0))) (s1 u)<|cwn (oInsert (n:=0) (dk:=ki) (dv:=(kFn PP (rl1 ki kB))) u u239 mk3 u u tm (cI (by decide)) (oSome tm)) (s2 u u)<|c2<|.nil)<|pSeq<|wFrzM (n:=0) (id:=2) 0 u u<|wRet ?_
 obtain rfl:=so h
 exact pT u u
theorem gW.ok(h:gW.f m a1=some r):FnA PP 169 [ki.sig m,(kR aH).sig a1] (kB.sig r):=by
 refine fJ Tryz.func169 u fun H0 w0=>?_
 unfold gW.f at h
 refine sx (c2<|.nil)<|wSeq<|wB h (fun n=>[(0,.d (ki.sig m)),(3,.d (sP (kR aH) a1)),(14,.d (kB.sig n))]) (fun n=>[]) (fun t h=>?_) fun n h=>?_
 ·refine jx h (fun v h=>?_) fun v h=>?_
  ·exact ej (c8<|.nil) (so h) (sb u) u
  ·exact ej (c8<|.nil) (so h) (sb u) u
 ·refine jx h (fun i h=>?_) fun i h=>?_
  ·refine wb i u<|sx (c1<|.nil)<|wRet<|pThenR ?_
   obtain rfl:=so h
   exact pT u u
  ·refine wc i u<|wSkip<|pSeq<|wSeq<|wSeq<|bx h fun y w h=>rdx hm (cC (ir.ok w)<|c2<|cp (oLookup u239 mk3 zv117 zFn u tm tm) (s2 u u)<|c4<|c1<|.nil)<|pSeq<|wB h (fun j=>[(0,.d (ki.sig m)),(3,.d (sP (kR aH) a1)),(38,.d (kB.sig j))]) (fun j=>[]) (fun t h=>?_) fun j h=>?_
   ·refine jx h (fun a h=>?_) fun a h=>?_
    ·refine bx h fun k b h=>bx h fun x c h=>jx h (fun o h=>?_) fun o h=>?_
     ·exact ej (c4<|c1<|cgB a.1 u u (oCallV u (rl1i (f:=k) c) (oGot b tm) (oc tm o0)) (s2 u u)<|c6<|csU u u<|csU u u<|csU u u<|c2<|.nil) (so h) (sb u) u
     ·refine jx h (fun p h=>?_) fun p h=>?_
      ·exact ej (c4<|c1<|cgB a.1 u u (oCallV u (rl1i (f:=k) c) (oGot b tm) (oc tm o0)) (s2 u u)<|c8<|c3<|.nil) (so h) (sb u) u
      ·exact ej (c4<|c1<|cgB a.1 u u (oCallV u (rl1i (f:=k) c) (oGot b tm) (oc tm o0)) (s2 u u)<|c8<|c3<|.nil) (so h) (sb u) u
    ·refine jx h (fun q h=>?_) fun q h=>?_
     ·exact ej (c12<|c4<|c1<|.nil) (so h) (sb u) u
     ·exact ej (c12<|c4<|c1<|.nil) (so h) (sb u) u
   ·refine jx h (fun e h=>?_) fun e h=>?_
    ·refine wb e u<|sx (c1<|.nil)<|wRet<|pThenR ?_
     obtain rfl:=so h
     exact pT u u
    ·refine wc e u<|wSkip<|pSeq<|wSeq<|sx (c3<|.nil)<|jx h (fun g h=>?_) fun g h=>?_
     ·refine wd g u<|wB h (fun l=>[(4,.d (kB.sig l))]) (fun l=>[]) (fun t h=>?_) fun l h=>?_
      ·refine jx h (fun s h=>?_) fun s h=>?_
       ·exact ej (c8<|c2<|.nil) (so h) (sb u) u
       ·exact ej (c8<|c2<|.nil) (so h) (sb u) u
      ·refine wRet<|pThenR ?_
       obtain rfl:=so h
       exact pT u u
     ·refine we g u<|wSkip<|pSeq<|sx (c4<|.nil)<|wRet ?_
      obtain rfl:=so h
      exact pT u u
theorem bb.ok{a1:aI->Option Bool}(h:bb.f c a1=some r):FnA PP 191 [(kL (kR aH)).sig c,(sFun PP (rl1 (kR aH) kB a1))] (ki.sig r):=by
 refine fJ Tryz.func191 u fun H0 w0=>?_
 unfold bb.f at h
 refine sx (c1<|.nil)<|wSeq<|sx (c3<|.nil) ?_
 obtain⟨k,h,e⟩:=bd h
 refine wK0 (.inr ()=k) ([]) ([]) ?_ ?_
 ·refine wBlock (wLoop ?_)
  refine lW (pc1 k (fun g=>[(0,.d ((kL (kR aH)).sig c)),(1,.d ((sFun PP (rl1 (kR aH) kB a1)))),(7,.d (ki.sig (c.length:Int))),(8,.d (ki.sig g))]) (fun g=>[]) (bb.l0.partial_correctness c a1) ?_ _ h) ⟨u,u,u,u,tv⟩ u
  clear h
  intro f' ih g h
  refine sx (c1<|.nil)<|wSeq<|jx h (fun a h=>?_) fun a h=>?_
  ·refine wd a u<|wSkip<|pSeq<|wSeq<|wBlock<|sx (c2<|.nil)<|wSeq<|bx h fun l i h=>bx h fun m j h=>rx (c3<|iX u31 z73 i u u<|c1<|cp (oCallV u (rl1i (f:=a1) j) tm (oc tm o0)) (s2 u u)<|.nil)<|pSeq<|jx h (fun b h=>?_) fun b h=>?_
   ·refine wb b u<|sx (c2<|.nil)<|wRet<|pBlkR<|pThenR<|pThenR<|pBlkR<|pThenR ?_
    obtain rfl:=so h
    replace h:=e
    refine pThenR ?_
    obtain rfl:=so h
    exact pT u u
   ·exact wc b u<|wSkip<|pBlkN<|pSeq<|rx (c2<|.nil)<|pLoop (lW (ih _ h) ⟨u,u,u,u,tv⟩ u)
  ·exact we a u<|wExit<|pThenX<|pThenX<|pBlkX<|pJ0 (so h) tv u
 ·rintro rfl
  replace h:=e
  refine pSeq<|sx (c1<|.nil)<|wRet ?_
  obtain rfl:=so h
  exact pT u u
theorem cq.ok{a1:aI->Option Bool}(h:cq.f b a1=some r):FnA PP 170 [(kL (kR aH)).sig b,(sFun PP (rl1 (kR aH) kB a1))] (kB.sig r):=by
 refine fJ Tryz.func170 u fun H0 w0=>?_
 unfold cq.f at h
 refine sx (c1<|.nil)<|wSeq<|bx h fun c a h=>rx (c2<|cC (bb.ok a)<|c2<|.nil)<|pSeq<|wRet ?_
 obtain rfl:=so h
 exact pT u u
theorem f2.ok(h:f2.f b a1=some r):FnA PP 168 [(kR aH).sig b,sP (kR aC) a1] (kB.sig r):=by
 refine fJ Tryz.func168 u fun H0 w0=>?_
 unfold f2.f at h
 refine sx (c2<|.nil)<|wSeq<|bx h fun c a h=>rx (c4<|cC (gW.ok a)<|c2<|.nil)<|pSeq<|wRet ?_
 obtain rfl:=so h
 exact pT u u
theorem fm.ok(h:fm.f e a1=some r):FnA PP 151 [(kR aC).sig e,(kL (kR aH)).sig a1] (kB.sig r):=by
 refine fJ Tryz.func151 u fun H0 w0=>?_
 unfold fm.f at h
 refine sx (c2<|.nil)<|sx (cp (oMkF (Rl:=rl1 (kR aH) kB (fun j=>f2.f j e)) u b168 (rl1e f2.ok) (oc tm o0)) (s1 u)<|c1<|.nil)<|wB h (fun c=>[(4,.d (kB.sig c))]) (fun c=>[]) (fun k h=>?_) fun c h=>?_
 ·refine bx h fun l a h=>jx h (fun g h=>?_) fun g h=>?_
  ·refine jx h (fun b h=>?_) fun b h=>?_
   ·exact bx h fun m i h=>ej (c1<|cC (ck.ok a)<|c8<|c1<|cgB (dT b.1) u u (oCall u (cq.ok i) b170 (oc tm (oc tm o0))) (s2 u u)<|c3<|.nil) (so h) (sb u) u
   ·exact ej (c1<|cC (ck.ok a)<|c12<|c1<|.nil) (so h) (sb u) u
  ·exact ej (c1<|cC (ck.ok a)<|c12<|c1<|.nil) (so h) (sb u) u
 ·refine wRet ?_
  obtain rfl:=so h
  exact pT u u
theorem aV.ok{a1:aG->Option Bool}(h:aV.f c a1=some r):FnA PP 126 [(kL (kR aB)).sig c,(sFun PP (rl1 (kR aB) kB a1))] (ki.sig r):=by
 refine fJ Tryz.func126 u fun H0 w0=>?_
 unfold aV.f at h
 refine sx (c1<|.nil)<|wSeq<|sx (c3<|.nil) ?_
 obtain⟨k,h,e⟩:=bd h
 refine wK0 (.inr ()=k) ([]) ([]) ?_ ?_
 ·refine wBlock (wLoop ?_)
  refine lW (pc1 k (fun g=>[(0,.d ((kL (kR aB)).sig c)),(1,.d ((sFun PP (rl1 (kR aB) kB a1)))),(7,.d (ki.sig (c.length:Int))),(8,.d (ki.sig g))]) (fun g=>[]) (aV.l0.partial_correctness c a1) ?_ _ h) ⟨u,u,u,u,tv⟩ u
  clear h
  intro f' ih g h
  refine sx (c1<|.nil)<|wSeq<|jx h (fun a h=>?_) fun a h=>?_
  ·refine wd a u<|wSkip<|pSeq<|wSeq<|wBlock<|sx (c2<|.nil)<|wSeq<|bx h fun l i h=>bx h fun m j h=>rx (c3<|iX u32 z30 i u u<|c1<|cp (oCallV u (rl1i (f:=a1) j) tm (oc tm o0)) (s2 u u)<|.nil)<|pSeq<|jx h (fun b h=>?_) fun b h=>?_
   ·refine wb b u<|sx (c2<|.nil)<|wRet<|pBlkR<|pThenR<|pThenR<|pBlkR<|pThenR ?_
    obtain rfl:=so h
    replace h:=e
    refine pThenR ?_
    obtain rfl:=so h
    exact pT u u
   ·exact wc b u<|wSkip<|pBlkN<|pSeq<|rx (c2<|.nil)<|pLoop (lW (ih _ h) ⟨u,u,u,u,tv⟩ u)
  ·exact we a u<|wExit<|pThenX<|pThenX<|pBlkX<|pJ0 (so h) tv u
 ·rintro rfl
  replace h:=e
  refine pSeq<|sx (c1<|.nil)<|wRet ?_
  obtain rfl:=so h
  exact pT u u
theorem bL.ok{a1:aG->Option Bool}(h:bL.f b a1=some r):FnA PP 152 [(kL (kR aB)).sig b,(sFun PP (rl1 (kR aB) kB a1))] (kB.sig r):=by
 refine fJ Tryz.func152 u fun H0 w0=>?_
 unfold bL.f at h
 refine sx (c1<|.nil)<|wSeq<|bx h fun c a h=>rx (c2<|cC (aV.ok a)<|c2<|.nil)<|pSeq<|wRet ?_
 obtain rfl:=so h
 exact pT u u
theorem bh.ok{a1:aF->Option Bool}(h:bh.f c a1=some r):FnA PP 171 [(kL (kR aD)).sig c,(sFun PP (rl1 (kR aD) kB a1))] (ki.sig r):=by
 refine fJ Tryz.func171 u fun H0 w0=>?_
 unfold bh.f at h
 refine sx (c1<|.nil)<|wSeq<|sx (c3<|.nil) ?_
 obtain⟨k,h,e⟩:=bd h
 refine wK0 (.inr ()=k) ([]) ([]) ?_ ?_
 ·refine wBlock (wLoop ?_)
  refine lW (pc1 k (fun g=>[(0,.d ((kL (kR aD)).sig c)),(1,.d ((sFun PP (rl1 (kR aD) kB a1)))),(7,.d (ki.sig (c.length:Int))),(8,.d (ki.sig g))]) (fun g=>[]) (bh.l0.partial_correctness c a1) ?_ _ h) ⟨u,u,u,u,tv⟩ u
  clear h
  intro f' ih g h
  refine sx (c1<|.nil)<|wSeq<|jx h (fun a h=>?_) fun a h=>?_
  ·refine wd a u<|wSkip<|pSeq<|wSeq<|wBlock<|sx (c2<|.nil)<|wSeq<|bx h fun l i h=>bx h fun m j h=>rx (c3<|iX u33 z88 i u u<|c1<|cp (oCallV u (rl1i (f:=a1) j) tm (oc tm o0)) (s2 u u)<|.nil)<|pSeq<|jx h (fun b h=>?_) fun b h=>?_
   ·refine wb b u<|sx (c2<|.nil)<|wRet<|pBlkR<|pThenR<|pThenR<|pBlkR<|pThenR ?_
    obtain rfl:=so h
    replace h:=e
    refine pThenR ?_
    obtain rfl:=so h
    exact pT u u
   ·exact wc b u<|wSkip<|pBlkN<|pSeq<|rx (c2<|.nil)<|pLoop (lW (ih _ h) ⟨u,u,u,u,tv⟩ u)
  ·exact we a u<|wExit<|pThenX<|pThenX<|pBlkX<|pJ0 (so h) tv u
 ·rintro rfl
  replace h:=e
  refine pSeq<|sx (c1<|.nil)<|wRet ?_
  obtain rfl:=so h
  exact pT u u
theorem bT.ok{a1:aF->Option Bool}(h:bT.f b a1=some r):FnA PP 153 [(kL (kR aD)).sig b,(sFun PP (rl1 (kR aD) kB a1))] (kB.sig r):=by
 refine fJ Tryz.func153 u fun H0 w0=>?_
 unfold bT.f at h
 refine sx (c1<|.nil)<|wSeq<|bx h fun c a h=>rx (c2<|cC (bh.ok a)<|c2<|.nil)<|pSeq<|wRet ?_
 obtain rfl:=so h
 exact pT u u
theorem dq.ok(h:dq.f c a1=some r):FnA PP 146 [ki.sig c,sP (kR aC) a1] (kB.sig r):=by
 refine fJ Tryz.func146 u fun H0 w0=>?_
 unfold dq.f at h
 refine sx (c1<|.nil)<|wB h (fun a=>[(3,.d (kB.sig a))]) (fun a=>[]) (fun e h=>?_) fun a h=>?_
 ·refine jx h (fun b h=>?_) fun b h=>?_
  ·exact ej (c8<|c2<|.nil) (so h) (sb u) u
  ·exact ej (c8<|c2<|.nil) (so h) (sb u) u
 ·refine wRet ?_
  obtain rfl:=so h
  exact pT u u
theorem fR.ok{a1:Option (Int->Option Bool)}(h:fR.f i a1=some r):FnA PP 147 [(kR aB).sig i,sP (kFn PP (rl1 ki kB)) a1] (kB.sig r):=by
 refine fJ Tryz.func147 u fun H0 w0=>?_
 unfold fR.f at h
 refine sx (c2<|.nil)<|wB h (fun c=>[(3,.d (kB.sig c))]) (fun c=>[]) (fun k h=>?_) fun c h=>?_
 ·refine bx h fun l a h=>jx h (fun b h=>?_) fun b h=>?_
  ·exact ej (c2<|cC (fQ.ok a)<|c8<|c1<|.nil) (so h) (sb u) u
  ·exact bx h fun j e h=>bx h fun m g h=>ej (c2<|cC (fQ.ok a)<|c4<|c1<|cgB (nb b.1) u u (oCallV u (rl1i (f:=j) g) (oGot e tm) (oc tm o0)) (s2 u u)<|c3<|.nil) (so h) (sb u) u
 ·refine wRet ?_
  obtain rfl:=so h
  exact pT u u
theorem ge.ok{a1:Option (Int->Option Bool)}(h:ge.f p a1=some r):FnA PP 149 [(kR aD).sig p,sP (kFn PP (rl1 ki kB)) a1] (kB.sig r):=by
 refine fJ Tryz.func149 u fun H0 w0=>?_
 unfold ge.f at h
 refine sx (c2<|.nil)<|wB h (fun i=>[(3,.d (kB.sig i))]) (fun i=>[]) (fun w h=>?_) fun i h=>?_
 ·refine bx h fun c a h=>bx h fun q b h=>jx h (fun l h=>?_) fun l h=>?_
  ·exact ej (c3<|cp (oCallV u (rl1i (f:=c) b) (oGot a tm) (oc tm o0)) (s2 u u)<|c6<|csU u u<|csU u u<|csU u u<|csU u u<|c6<|csU u u<|csU u u<|csU u u<|csU u u<|c3<|.nil) (so h) (sb u) u
  ·refine jx h (fun e h=>?_) fun e h=>?_
   ·refine bx h fun s g h=>jx h (fun m h=>?_) fun m h=>?_
    ·exact ej (c3<|cp (oCallV u (rl1i (f:=c) b) (oGot a tm) (oc tm o0)) (s2 u u)<|c8<|cgB e.1 u u (oCall u (fQ.ok g) b148 (oc tm o0)) (s1 u)<|c6<|c1<|csU u u<|csU u u<|csU u u<|csU u u<|c3<|.nil) (so h) (sb u) u
    ·refine jx h (fun j h=>?_) fun j h=>?_
     ·exact bx h fun t n h=>ej (c3<|cp (oCallV u (rl1i (f:=c) b) (oGot a tm) (oc tm o0)) (s2 u u)<|c8<|cgB e.1 u u (oCall u (fQ.ok g) b148 (oc tm o0)) (s1 u)<|c8<|c1<|cgB j.1 u u (oCall u (eV.ok n) b150 (oc tm o0)) (s1 u)<|c4<|.nil) (so h) (sb u) u
     ·exact ej (c3<|cp (oCallV u (rl1i (f:=c) b) (oGot a tm) (oc tm o0)) (s2 u u)<|c8<|cgB e.1 u u (oCall u (fQ.ok g) b148 (oc tm o0)) (s1 u)<|c12<|c2<|.nil) (so h) (sb u) u
   ·refine jx h (fun k h=>?_) fun k h=>?_
    ·exact bx h fun v o h=>ej (c3<|cp (oCallV u (rl1i (f:=c) b) (oGot a tm) (oc tm o0)) (s2 u u)<|c12<|c6<|cgB k.1 u u (oCall u (eV.ok o) b150 (oc tm o0)) (s1 u)<|c4<|.nil) (so h) (sb u) u
    ·exact ej (c3<|cp (oCallV u (rl1i (f:=c) b) (oGot a tm) (oc tm o0)) (s2 u u)<|c12<|c8<|c3<|.nil) (so h) (sb u) u
 ·refine wRet ?_
  obtain rfl:=so h
  exact pT u u
theorem fe.ok(h:fe.f o a1=some r):FnA PP 124 [(kR aC).sig o,(kR av).sig a1] (kB.sig r):=by
 refine fJ Tryz.func124 u fun H0 w0=>?_
 unfold fe.f at h
 refine sx (c3<|.nil)<|sx (cp (oMkF (Rl:=rl1 ki kB (fun a=>dq.f a o)) u b146 (rl1e dq.ok) (oc tm o0)) (s1 u)<|cw (oAlloc (id:=5) (ls:=[.d (kFn PP (rl1 ki kB)) none]) ze117 (fun g=>⟨[.nilFunc],_,u,zFn g.H,u⟩)) tv<|cwn (oSt (n:=0) (k:=0) u u u u z117 tm (oSome tm)) (s2 u u)<|.nil)<|wSeq<|wFrzV 5 (n:=0) (id:=5) u u u<|rx (cp (oMkF (Rl:=rl1 (kR aB) kB (fun a=>fR.f a (some (fun a=>dq.f a o)))) u b147 (rl1e fR.ok) (oc tm o0)) (s1 u)<|c1<|.nil)<|pSeq<|sx (cp (oMkF (Rl:=rl1 (kR aD) kB (fun a=>ge.f a (some (fun a=>dq.f a o)))) u b149 (rl1e ge.ok) (oc tm o0)) (s1 u)<|c1<|.nil)<|wB h (fun x=>[(2,.d (sP (kR aC) o)),(3,.d (sP (kR av) a1)),(5,.d (sP (kFn PP (rl1 ki kB)) (some (fun a=>dq.f a o)))),(6,.d ((sFun PP (rl1 (kR aB) kB (fun a=>fR.f a (some (fun a=>dq.f a o))))))),(7,.d ((sFun PP (rl1 (kR aD) kB (fun a=>ge.f a (some (fun a=>dq.f a o))))))),(8,.d (kB.sig x))]) (fun x=>[]) (fun C h=>?_) fun x h=>?_
 ·refine jx h (fun A h=>?_) fun A h=>?_
  ·refine jx h (fun B h=>?_) fun B h=>?_
   ·exact ej (c12<|c4<|c1<|.nil) (so h) (sb u) u
   ·exact ej (c12<|c4<|c1<|.nil) (so h) (sb u) u
  ·exact ej (c12<|c4<|c1<|.nil) (so h) (sb u) u
 ·refine wB h (fun t=>[(4,.d (kB.sig t))]) (fun t=>[]) (fun C h=>?_) fun t h=>?_
  ·refine bx h fun D b h=>jx h (fun c h=>?_) fun c h=>?_
   ·refine bx h fun E e h=>jx h (fun i h=>?_) fun i h=>?_
    ·refine bx h fun p j h=>bx h fun F l h=>jx h (fun y h=>?_) fun y h=>?_
     ·refine jx h (fun m h=>?_) fun m h=>?_
      ·refine bx h fun G q h=>jx h (fun s h=>?_) fun s h=>?_
       ·refine bx h fun I v h=>jx h (fun w h=>?_) fun w h=>?_
        ·exact bx h fun J z h=>ej (c3<|cC (fm.ok b)<|c4<|cgB c.1 u u (oCall u (eV.ok e) b150 (oc tm o0)) (s1 u)<|c6<|cgB i.1 u u (oCallV u (rl1i (f:=p) l) (oGot j tm) (oc tm o0)) (s2 u u)<|c8<|cgB m.1 u u (oCall u (bL.ok q) b152 (oc tm (oc tm o0))) (s2 u u)<|c6<|cgB s.1 u u (oCall u (bT.ok v) b153 (oc tm (oc tm o0))) (s2 u u)<|c6<|cgB w.1 u u (oCall u (bL.ok z) b152 (oc tm (oc tm o0))) (s2 u u)<|c3<|.nil) (so h) (sb u) u
        ·exact ej (c3<|cC (fm.ok b)<|c4<|cgB c.1 u u (oCall u (eV.ok e) b150 (oc tm o0)) (s1 u)<|c6<|cgB i.1 u u (oCallV u (rl1i (f:=p) l) (oGot j tm) (oc tm o0)) (s2 u u)<|c8<|cgB m.1 u u (oCall u (bL.ok q) b152 (oc tm (oc tm o0))) (s2 u u)<|c6<|cgB s.1 u u (oCall u (bT.ok v) b153 (oc tm (oc tm o0))) (s2 u u)<|c8<|c2<|.nil) (so h) (sb u) u
       ·exact ej (c3<|cC (fm.ok b)<|c4<|cgB c.1 u u (oCall u (eV.ok e) b150 (oc tm o0)) (s1 u)<|c6<|cgB i.1 u u (oCallV u (rl1i (f:=p) l) (oGot j tm) (oc tm o0)) (s2 u u)<|c8<|cgB m.1 u u (oCall u (bL.ok q) b152 (oc tm (oc tm o0))) (s2 u u)<|c12<|c4<|c1<|.nil) (so h) (sb u) u
      ·exact ej (c3<|cC (fm.ok b)<|c4<|cgB c.1 u u (oCall u (eV.ok e) b150 (oc tm o0)) (s1 u)<|c6<|cgB i.1 u u (oCallV u (rl1i (f:=p) l) (oGot j tm) (oc tm o0)) (s2 u u)<|c12<|c12<|c2<|.nil) (so h) (sb u) u
     ·exact ej (c3<|cC (fm.ok b)<|c4<|cgB c.1 u u (oCall u (eV.ok e) b150 (oc tm o0)) (s1 u)<|c6<|cgB i.1 u u (oCallV u (rl1i (f:=p) l) (oGot j tm) (oc tm o0)) (s2 u u)<|c12<|c12<|c2<|.nil) (so h) (sb u) u
    ·exact ej (c3<|cC (fm.ok b)<|c4<|cgB c.1 u u (oCall u (eV.ok e) b150 (oc tm o0)) (s1 u)<|c12<|c12<|c8<|c1<|.nil) (so h) (sb u) u
   ·exact ej (c3<|cC (fm.ok b)<|c12<|c12<|c12<|c2<|.nil) (so h) (sb u) u
  ·refine wRet ?_
   obtain rfl:=so h
   exact pT u u
theorem cc.ok(h:cc.f b=some z):FnZ PP 155 [.d (kB.sig b)] [] [] 199 (fun(r:Unit)=>.d (tup [])) (fun(r:Unit)=>[]) z:=by
 refine fnIntroZ Tryz.func155 u (by kernel_rfl) fun X H0 w0 pv=>?_
 unfold cc.f at h
 refine sx (c2<|.nil)<|jx h (fun a h=>?_) fun a h=>?_
 ·refine wb a u<|wT0<|wTk 0 1 (cp (oMkX 3 cb199 (cI (by decide))) tv<|.nil) (by kernel_rfl) u<|wTx (Γp:=[]) 1 u (oPanic tm) u u (s1 u) tv ?_
  obtain rfl:=so h
  exact pX
 ·refine wc a u<|wSkip ?_
  obtain rfl:=so h
  exact pZ<|pSn [] u u (.inr u) u u (.nil)
theorem cc.okR(h:cc.f a=some (.inr r)):FnS PP 155 [.d (kB.sig a)] [] [] (.d (tup [])) []:=cc.ok h
theorem cc.okP(h:cc.f a=some (.inl n)):FnX PP 155 [.d (kB.sig a)] [] (pvv 199 n):=cc.ok h
theorem bq.ok{a1:Int->Option Bool}(h:bq.f c a1=some r):FnA PP 112 [(kL ki).sig c,(sFun PP (rl1 ki kB a1))] (ki.sig r):=by
 refine fJ Tryz.func112 u fun H0 w0=>?_
 unfold bq.f at h
 refine sx (c1<|.nil)<|wSeq<|sx (c3<|.nil) ?_
 obtain⟨k,h,e⟩:=bd h
 refine wK0 (.inr ()=k) ([]) ([]) ?_ ?_
 ·refine wBlock (wLoop ?_)
  refine lW (pc1 k (fun g=>[(0,.d ((kL ki).sig c)),(1,.d ((sFun PP (rl1 ki kB a1)))),(7,.d (ki.sig (c.length:Int))),(8,.d (ki.sig g))]) (fun g=>[]) (bq.l0.partial_correctness c a1) ?_ _ h) ⟨u,u,u,u,tv⟩ u
  clear h
  intro f' ih g h
  refine sx (c1<|.nil)<|wSeq<|jx h (fun a h=>?_) fun a h=>?_
  ·refine wd a u<|wSkip<|pSeq<|wSeq<|wBlock<|sx (c2<|.nil)<|wSeq<|bx h fun l i h=>bx h fun m j h=>rx (c3<|iX u56 z3 i u u<|c1<|cp (oCallV u (rl1i (f:=a1) j) tm (oc tm o0)) (s2 u u)<|.nil)<|pSeq<|jx h (fun b h=>?_) fun b h=>?_
   ·refine wb b u<|sx (c2<|.nil)<|wRet<|pBlkR<|pThenR<|pThenR<|pBlkR<|pThenR ?_
    obtain rfl:=so h
    replace h:=e
    refine pThenR ?_
    obtain rfl:=so h
    exact pT u u
   ·exact wc b u<|wSkip<|pBlkN<|pSeq<|rx (c2<|.nil)<|pLoop (lW (ih _ h) ⟨u,u,u,u,tv⟩ u)
  ·exact we a u<|wExit<|pThenX<|pThenX<|pBlkX<|pJ0 (so h) tv u
 ·rintro rfl
  replace h:=e
  refine pSeq<|sx (c1<|.nil)<|wRet ?_
  obtain rfl:=so h
  exact pT u u
theorem ce.ok{a1:Int->Option Bool}(h:ce.f b a1=some r):FnA PP 65 [(kL ki).sig b,(sFun PP (rl1 ki kB a1))] (kB.sig r):=by
 refine fJ Tryz.func65 u fun H0 w0=>?_
 unfold ce.f at h
 refine sx (c1<|.nil)<|wSeq<|bx h fun c a h=>rx (c2<|cC (bq.ok a)<|c2<|.nil)<|pSeq<|wRet ?_
 obtain rfl:=so h
 exact pT u u
theorem fX.ok(h:fX.f c a1=some r):FnA PP 66 [ki.sig c,sP (kR aC) a1] (kB.sig r):=by
 refine fJ Tryz.func66 u fun H0 w0=>?_
 unfold fX.f at h
 refine sx (c1<|.nil)<|wB h (fun a=>[(3,.d (kB.sig a))]) (fun a=>[]) (fun e h=>?_) fun a h=>?_
 ·refine jx h (fun b h=>?_) fun b h=>?_
  ·exact ej (c8<|c2<|.nil) (so h) (sb u) u
  ·exact ej (c8<|c2<|.nil) (so h) (sb u) u
 ·refine wRet ?_
  obtain rfl:=so h
  exact pT u u
theorem ee.ok(h:ee.f c a1=some r):FnA PP 26 [(kR aC).sig c,(kL ki).sig a1] (ki.sig r):=by
 refine fJ Tryz.func26 u fun H0 w0=>?_
 unfold ee.f at h
 refine sx (c2<|.nil)<|wSeq<|wSeq<|bx h fun i d h=>rx (c1<|cC (ck.ok d)<|c1<|.nil)<|pSeq<|sx (c2<|.nil)<|jx h (fun a h=>?_) fun a h=>?_
 ·refine wh a u<|wSkip<|pSeq<|wSeq<|wSeq<|bx h fun j e h=>rx (c1<|cp (oMkF (Rl:=rl1 ki kB (fun g=>fX.f g c)) u b66 (rl1e fX.ok) (oc tm o0)) (s1 u)<|cC (ce.ok e)<|.nil)<|pSeq<|jx h (fun b h=>?_) fun b h=>?_
  ·refine wb b u<|sx (c1<|.nil)<|wRet<|pThenR ?_
   obtain rfl:=so h
   exact pT u u
  ·refine wc b u<|wSkip<|pSeq<|sx (c1<|.nil)<|wRet ?_
   obtain rfl:=so h
   exact pT u u
 ·refine wg a u<|sx (c2<|.nil)<|wRet<|pThenR ?_
  obtain rfl:=so h
  exact pT u u
theorem bz.ok(h:bz.f c a1=some r):FnA PP 172 [(kL (kI .u32)).sig c,(kI .u32).sig a1] (ki.sig r):=by
 refine fJ Tryz.func172 u fun H0 w0=>?_
 unfold bz.f at h
 refine sx (c1<|.nil)<|wSeq<|sx (c3<|.nil) ?_
 obtain⟨i,h,e⟩:=bd h
 refine wK0 (.inr ()=i) ([]) ([]) ?_ ?_
 ·refine wBlock (wLoop ?_)
  refine lW (pc1 i (fun g=>[(0,.d ((kL (kI .u32)).sig c)),(1,.d ((kI .u32).sig a1)),(7,.d (ki.sig (c.length:Int))),(8,.d (ki.sig g))]) (fun g=>[]) (bz.l0.partial_correctness c a1) ?_ _ h) ⟨u,u,u,u,tv⟩ u
  clear h
  intro f' ih g h
  refine sx (c1<|.nil)<|wSeq<|jx h (fun b h=>?_) fun b h=>?_
  ·refine wd b u<|wSkip<|pSeq<|wSeq<|wBlock<|sx (c2<|.nil)<|wSeq<|bx h fun k j h=>rx (c3<|iX u23 z70 j u u<|c2<|.nil)<|pSeq<|jx h (fun a h=>?_) fun a h=>?_
   ·refine wd a u<|sx (c2<|.nil)<|wRet<|pBlkR<|pThenR<|pThenR<|pBlkR<|pThenR ?_
    obtain rfl:=so h
    replace h:=e
    refine pThenR ?_
    obtain rfl:=so h
    exact pT u u
   ·exact we a u<|wSkip<|pBlkN<|pSeq<|rx (c2<|.nil)<|pLoop (lW (ih _ h) ⟨u,u,u,u,tv⟩ u)
  ·exact we b u<|wExit<|pThenX<|pThenX<|pBlkX<|pJ0 (so h) tv u
 ·rintro rfl
  replace h:=e
  refine pSeq<|sx (c1<|.nil)<|wRet ?_
  obtain rfl:=so h
  exact pT u u
theorem dI.ok(h:dI.f g=some r):FnA PP 156 [(kR aC).sig g] (tup [ki.sig r.1,ki.sig r.2]):=by
 refine fJ Tryz.func156 u fun H0 w0=>?_
 unfold dI.f at h
 refine sx (c3<|.nil)<|wSeq<|wSeq<|bx h fun i b h=>rx (c1<|cp (oCall u (ee.ok b) b26 (oc tm (oc (cN (d:=ki)) o0))) (s1 u)<|c1<|.nil)<|pSeq<|sx (c2<|.nil)<|jx h (fun a h=>?_) fun a h=>?_
 ·refine wh a u<|wSkip<|pSeq<|wSeq<|ix h fun c h=>rx (c3<|cp (oShl c (cI (by decide)) tm) (s1 u)<|c2<|.nil)<|pSeq<|wSeq<|bx h fun j e h=>rx (c3<|cC (bz.ok e)<|c2<|.nil)<|pSeq<|wRet ?_
  obtain rfl:=so h
  exact pRn (.inl u) u u (.tmp u<|.tmp u<|.nil)
 ·refine wg a u<|sx (c3<|.nil)<|wRet<|pThenR ?_
  obtain rfl:=so h
  exact pRn (.inl u) u u (.tmp u<|.tmp u<|.nil)
theorem fu.ok(h:fu.f a=some r):FnS PP 173 [.p 70000 0] [.box 70000 204 (L204 a)] [70000] (.d (tup [])) [.box 70000 204 (L204 r)]:=by
 refine fnIntroS Tryz.func173 u (by kernel_rfl) fun X H0 w0 pv=>?_
 unfold fu.f at h
 refine wSkip ?_
 obtain rfl:=so h
 exact pSn [0] u u (.inr u) u u (.nil)
theorem gq.ok(h:gq.f a=some r):FnS PP 174 [.p 70000 0] [.box 70000 204 (L204 a)] [70000] (.d (tup [])) [.box 70000 204 (L204 r)]:=by
 refine fnIntroS Tryz.func174 u (by kernel_rfl) fun X H0 w0 pv=>?_
 unfold gq.f at h
 refine rdx hm (c4<|c1<|lK 0 10 u u (by kernel_rfl) t3 u<|c2<|cp (oIdxA 0 0 u u202 z3 u tm (cI (by decide))) (s1 u)<|cwn (oStK (n:=0) (k:=21) u u u (by kernel_rfl) z3 tm tm) (s2 u u)<|.nil) ?_
 obtain rfl:=so h
 exact pSn [0] u u (.inr u) u u (.nil)
theorem cz.ok(h:cz.f a a1=some z):FnZ PP 192 [.p 70000 0,.d (ki.sig a1)] [.box 70000 204 (L204 a)] [70000] 199 (fun(r:aE×aF)=>.d ((kR aD).sig r.2)) (fun(r:aE×aF)=>[.box 70000 204 (L204 r.1)]) z:=by
 refine fnIntroZ Tryz.func192 u (by kernel_rfl) fun X H0 w0 pv=>?_
 unfold cz.f at h
 refine sx (aL 4 Z88 ze88 zl88<|.nil)<|sx (c4<|lK 1 6 u u (by kernel_rfl) t33 u<|c4<|c1<|.nil) ?_
 obtain⟨q,h,b⟩:=bd h
 refine wJ0 (.inr ()=q) ([(0,.p 70000 0),(4,.p 4 0),(5,.d (ki.sig (IntKind.i64.wrap ((IntKind.i64.wrap ((a.s_.Stack.length:Int)-1))-a1))))]) ([.box 4 88 [.d kB false,.d ki 0,.d ki 0],.box 70000 204 (L204 a)]) ?_ ?_
 ·obtain⟨c,h⟩|⟨c,h⟩:=ik h
  ·obtain⟨s,j,h⟩:=bd h
   refine wT0<|wTk 0 14 (c6<|c1<|crgB (dT c.1) u u (oLdK (n:=1) (k:=6) u u (by kernel_rfl) t33 tm) (s1 u)<|c1<|cgB (dT c.1) u u (oIdx u33 z88 j tm tm) (s2 u u)<|c4<|.nil) (by kernel_rfl) u ?_
   obtain⟨m,e,h⟩:=bd h
   rcases m with t|v
   ·refine wTx (Γp:=[]) 14 u (oCallX (rest:=[.box 4 88 [.d kB false,.d ki 0,.d ki 0],.box 70000 204 (L204 a)]) [] [] [0,1] u (cc.okP e) b155 (oE1 tm oE0) u u) u u (s1 u) tv<|pThenP ?_
    obtain rfl:=so h
    replace h:=b
    obtain rfl:=so h
    exact pX
   ·exact wTe 14 (cm (oCallS (rest:=[.box 4 88 [.d kB false,.d ki 0,.d ki 0],.box 70000 204 (L204 a)]) (R':=[.box 4 88 [.d kB false,.d ki 0,.d ki 0],.box 70000 204 (L204 a)]) (out':=.d (tup [])) [] [] [] [0,1] [0,1] u (cc.okR e) b155 (oE1 tm oE0) u u u u u u u u) (s1 u)<|.nil) (by kernel_rfl)<|pJ0 (so h) (sb u) u
  ·refine wT0<|wTk 0 14 (c12<|c2<|.nil) (by kernel_rfl) u ?_
   obtain⟨o,g,h⟩:=bd h
   rcases o with w|x
   ·refine wTx (Γp:=[]) 14 u (oCallX (rest:=[.box 4 88 [.d kB false,.d ki 0,.d ki 0],.box 70000 204 (L204 a)]) [] [] [0,1] u (cc.okP g) b155 (oE1 tm oE0) u u) u u (s1 u) tv<|pThenP ?_
    obtain rfl:=so h
    replace h:=b
    obtain rfl:=so h
    exact pX
   ·exact wTe 14 (cm (oCallS (rest:=[.box 4 88 [.d kB false,.d ki 0,.d ki 0],.box 70000 204 (L204 a)]) (R':=[.box 4 88 [.d kB false,.d ki 0,.d ki 0],.box 70000 204 (L204 a)]) (out':=.d (tup [])) [] [] [] [0,1] [0,1] u (cc.okR g) b155 (oE1 tm oE0) u u u u u u u u) (s1 u)<|.nil) (by kernel_rfl)<|pJ0 (so h) (sb u) u
 ·rintro rfl
  replace h:=b
  refine wSeq<|bx h fun i l h=>rx (c4<|lK 1 6 u u (by kernel_rfl) t33 u<|c1<|iX u33 z88 l u u<|c1<|sA 0 aD u u z88 u u<|.nil)<|pSeq<|wRet ?_
  obtain rfl:=so h
  exact pZ<|pS1 [1] u u (.inl u) u (.box (n:=0) (fs:=aD) (u:=⟨i.Ret,i.V,i.L⟩) u u ⟨u,u,u,tv⟩ t88<|.nil)
theorem cz.okR(h:cz.f a a1=some (.inr r)):FnS PP 192 [.p 70000 0,.d (ki.sig a1)] [.box 70000 204 (L204 a)] [70000] (.d ((kR aD).sig r.2)) [.box 70000 204 (L204 r.1)]:=cz.ok h
theorem cz.okP(h:cz.f a a1=some (.inl n)):FnX PP 192 [.p 70000 0,.d (ki.sig a1)] [.box 70000 204 (L204 a)] (pvv 199 n):=cz.ok h
theorem bE.ok(h:bE.f c=some z):FnZ PP 175 [.p 70000 0] [.box 70000 204 (L204 c)] [70000] 199 (fun(r:aE)=>.d (tup [])) (fun(r:aE)=>[.box 70000 204 (L204 r)]) z:=by
 refine fnIntroZ Tryz.func175 u (by kernel_rfl) fun X H0 w0 pv=>?_
 unfold bE.f at h
 refine wSeq<|wT0<|wTk 0 2 (c2<|.nil) (by kernel_rfl) u ?_
 obtain⟨e,a,h⟩:=bd h
 rcases e with g|b
 ·refine wTx (Γp:=[]) 2 u (oCallX (rest:=[]) [(70000,70000)] [0] [] u (cz.okP a) b192 (oE1 tm (oE1 (cI (by decide)) oE0)) u u) u u (s1 u) tv<|pThenP ?_
  obtain rfl:=so h
  exact pX
 ·refine wTe 2 (cm (oCallS (rest:=[]) (R':=[.box 70000 204 (L204 b.1)]) (out':=.d ((kR aD).sig b.2)) [(70000,70000)] [] [0] [] [0] u (cz.okR a) b192 (oE1 tm (oE1 (cI (by decide)) oE0)) u u u u u u u u) (s1 u)<|c2<|cwn (oStPK (n:=0) (k:=11) (m:=3) (d:=(kR aD)) (u:=b.2) pt88 u u (by kernel_rfl) z88 tm tm) (s2 u u)<|.nil) (by kernel_rfl)<|pSeq<|sx (c4<|c1<|lK 0 6 u u (by kernel_rfl) t33 u<|c4<|cwn (oStK (n:=0) (k:=20) u u u (by kernel_rfl) z3 tm tm) (s2 u u)<|.nil)<|rdx hm (c4<|c1<|lK 0 13 u u (by kernel_rfl) t3 u<|c2<|cp (oIdxA 0 0 u u202 z3 u tm (cI (by decide))) (s1 u)<|cwn (oStK (n:=0) (k:=21) u u u (by kernel_rfl) z3 tm tm) (s2 u u)<|.nil) ?_
  obtain rfl:=so h
  exact pZ<|pSn [0] u u (.inr u) u u (.nil)
theorem bE.okR(h:bE.f a=some (.inr r)):FnS PP 175 [.p 70000 0] [.box 70000 204 (L204 a)] [70000] (.d (tup [])) [.box 70000 204 (L204 r)]:=bE.ok h
theorem bE.okP(h:bE.f a=some (.inl n)):FnX PP 175 [.p 70000 0] [.box 70000 204 (L204 a)] (pvv 199 n):=bE.ok h
theorem cF.ok(h:cF.f e=some z):FnZ PP 176 [.p 70000 0] [.box 70000 204 (L204 e)] [70000] 199 (fun(r:aE)=>.d (tup [])) (fun(r:aE)=>[.box 70000 204 (L204 r)]) z:=by
 refine fnIntroZ Tryz.func176 u (by kernel_rfl) fun X H0 w0 pv=>?_
 unfold cF.f at h
 refine wSeq<|wT0<|wTk 0 1 (c1<|.nil) (by kernel_rfl) u ?_
 obtain⟨g,a,h⟩:=bd h
 rcases g with j|i
 ·refine wTx (Γp:=[]) 1 u (oCallX (rest:=[]) [(70000,70000)] [0] [] u (bE.okP a) b175 (oE1 tm oE0) u u) u u (s1 u) tv<|pThenP ?_
  obtain rfl:=so h
  exact pX
 ·refine wTe 1 (cm (oCallS (rest:=[]) (R':=[.box 70000 204 (L204 i)]) (out':=.d (tup [])) [(70000,70000)] [] [0] [] [0] u (bE.okR a) b175 (oE1 tm oE0) u u u u u u u u) (s1 u)<|.nil) (by kernel_rfl)<|pSeq<|wSeq<|wT0<|wTk 0 2 (c2<|.nil) (by kernel_rfl) u ?_
  obtain⟨z4,b,h⟩:=bd h
  rcases z4 with l|c
  ·refine wTx (Γp:=[]) 2 u (oCallX (rest:=[]) [(70000,70000)] [0] [] u (cz.okP b) b192 (oE1 tm (oE1 (cI (by decide)) oE0)) u u) u u (s1 u) tv<|pThenP ?_
   obtain rfl:=so h
   exact pX
  ·refine wTe 2 (cm (oCallS (rest:=[]) (R':=[.box 70000 204 (L204 c.1)]) (out':=.d ((kR aD).sig c.2)) [(70000,70000)] [] [0] [] [0] u (cz.okR b) b192 (oE1 tm (oE1 (cI (by decide)) oE0)) u u u u u u u u) (s1 u)<|c2<|cwn (oStPK (n:=0) (k:=14) (m:=3) (d:=(kR aD)) (u:=c.2) pt88 u u (by kernel_rfl) z88 tm tm) (s2 u u)<|.nil) (by kernel_rfl)<|pSeq<|sx (c3<|lK 0 20 u u (by kernel_rfl) t3 u<|c3<|cwn (oStK (n:=0) (k:=20) u u u (by kernel_rfl) z3 tm tm) (s2 u u)<|.nil)<|rdx hm (c4<|c1<|lK 0 16 u u (by kernel_rfl) t3 u<|c2<|cp (oIdxA 1 1 u u202 z3 u tm (cI (by decide))) (s1 u)<|cwn (oStK (n:=0) (k:=22) u u u (by kernel_rfl) z3 tm tm) (s2 u u)<|.nil) ?_
   obtain rfl:=so h
   exact pZ<|pSn [0] u u (.inr u) u u (.nil)
theorem cF.okR(h:cF.f a=some (.inr r)):FnS PP 176 [.p 70000 0] [.box 70000 204 (L204 a)] [70000] (.d (tup [])) [.box 70000 204 (L204 r)]:=cF.ok h
theorem cF.okP(h:cF.f a=some (.inl n)):FnX PP 176 [.p 70000 0] [.box 70000 204 (L204 a)] (pvv 199 n):=cF.ok h
theorem cP.ok(h:cP.f a=some z):FnZ PP 193 [.p 70000 0] [.box 70000 204 (L204 a)] [70000] 199 (fun(r:aE×Int)=>.d (ki.sig r.2)) (fun(r:aE×Int)=>[.box 70000 204 (L204 r.1)]) z:=by
 refine fnIntroZ Tryz.func193 u (by kernel_rfl) fun X H0 w0 pv=>?_
 unfold cP.f at h
 refine sx (c1<|.nil) ?_
 obtain⟨j,h,c⟩:=bd h
 refine wJ0 (.inr ()=j) ([(0,.p 70000 0)]) ([.box 70000 204 (L204 a)]) ?_ ?_
 ·obtain⟨b,h⟩|⟨b,h⟩:=ik h
  ·obtain⟨z9,g,h⟩:=bd h
   rcases z9 with l|m
   ·refine rgXD (Γp:=[]) hm (c4<|lK 0 12 u u (by kernel_rfl) t3 u<|c6<|crgB (dT b.1) u u (oLdK (n:=0) (k:=12) u u (by kernel_rfl) t3 tm) (s1 u)<|c4<|crgB (dT b.1) u u (oLdK (n:=0) (k:=5) u u (by kernel_rfl) t32 tm) (s1 u)<|c3<|cb (oCallX (rest:=[.box 70000 204 (L204 a)]) [] [] [0] u (cc.okP g) b155 (oE1 tm oE0) u u) (s1 u)<|.nil) (by kernel_rfl) (by kernel_rfl) tv<|pThenP ?_
    obtain rfl:=so h
    replace h:=c
    obtain rfl:=so h
    exact pX
   ·exact rdx hm (c4<|lK 0 12 u u (by kernel_rfl) t3 u<|c6<|crgB (dT b.1) u u (oLdK (n:=0) (k:=12) u u (by kernel_rfl) t3 tm) (s1 u)<|c4<|crgB (dT b.1) u u (oLdK (n:=0) (k:=5) u u (by kernel_rfl) t32 tm) (s1 u)<|c3<|cm (oCallS (rest:=[.box 70000 204 (L204 a)]) (R':=[.box 70000 204 (L204 a)]) (out':=.d (tup [])) [] [] [] [0] [0] u (cc.okR g) b155 (oE1 tm oE0) u u u u u u u u) (s1 u)<|.nil)<|pJ0 (so h) (sb u) u
  ·obtain⟨i,e,h⟩:=bd h
   rcases i with o|q
   ·refine rgXD (Γp:=[]) hm (c4<|lK 0 12 u u (by kernel_rfl) t3 u<|c12<|c3<|cb (oCallX (rest:=[.box 70000 204 (L204 a)]) [] [] [0] u (cc.okP e) b155 (oE1 tm oE0) u u) (s1 u)<|.nil) (by kernel_rfl) (by kernel_rfl) tv<|pThenP ?_
    obtain rfl:=so h
    replace h:=c
    obtain rfl:=so h
    exact pX
   ·exact rdx hm (c4<|lK 0 12 u u (by kernel_rfl) t3 u<|c12<|c3<|cm (oCallS (rest:=[.box 70000 204 (L204 a)]) (R':=[.box 70000 204 (L204 a)]) (out':=.d (tup [])) [] [] [] [0] [0] u (cc.okR e) b155 (oE1 tm oE0) u u u u u u u u) (s1 u)<|.nil)<|pJ0 (so h) (sb u) u
 ·rintro rfl
  replace h:=c
  refine sx (c4<|lK 0 12 u u (by kernel_rfl) t3 u<|c1<|.nil)<|wRet ?_
  obtain rfl:=so h
  exact pZ<|pS1 [0] u u (.inl u) u (.tmp u<|.nil)
theorem cP.okR(h:cP.f a=some (.inr r)):FnS PP 193 [.p 70000 0] [.box 70000 204 (L204 a)] [70000] (.d (ki.sig r.2)) [.box 70000 204 (L204 r.1)]:=cP.ok h
theorem cP.okP(h:cP.f a=some (.inl n)):FnX PP 193 [.p 70000 0] [.box 70000 204 (L204 a)] (pvv 199 n):=cP.ok h
theorem dG.ok(h:dG.f g=some z):FnZ PP 177 [.p 70000 0] [.box 70000 204 (L204 g)] [70000] 199 (fun(r:aE)=>.d (tup [])) (fun(r:aE)=>[.box 70000 204 (L204 r)]) z:=by
 refine fnIntroZ Tryz.func177 u (by kernel_rfl) fun X H0 w0 pv=>?_
 unfold dG.f at h
 refine wSeq<|wT0<|wTk 0 1 (c1<|.nil) (by kernel_rfl) u ?_
 obtain⟨i,a,h⟩:=bd h
 rcases i with l|j
 ·refine wTx (Γp:=[]) 1 u (oCallX (rest:=[]) [(70000,70000)] [0] [] u (bE.okP a) b175 (oE1 tm oE0) u u) u u (s1 u) tv<|pThenP ?_
  obtain rfl:=so h
  exact pX
 ·refine wTe 1 (cm (oCallS (rest:=[]) (R':=[.box 70000 204 (L204 j)]) (out':=.d (tup [])) [(70000,70000)] [] [0] [] [0] u (bE.okR a) b175 (oE1 tm oE0) u u u u u u u u) (s1 u)<|.nil) (by kernel_rfl)<|pSeq<|wSeq<|wT0<|wTk 0 1 (c1<|.nil) (by kernel_rfl) u ?_
  obtain⟨z4,b,h⟩:=bd h
  rcases z4 with m|c
  ·refine wTx (Γp:=[]) 1 u (oCallX (rest:=[]) [(70000,70000)] [0] [] u (cP.okP b) b193 (oE1 tm oE0) u u) u u (s1 u) tv<|pThenP ?_
   obtain rfl:=so h
   exact pX
  ·refine wTe 1 (cm (oCallS (rest:=[]) (R':=[.box 70000 204 (L204 c.1)]) (out':=.d (ki.sig c.2)) [(70000,70000)] [] [0] [] [0] u (cP.okR b) b193 (oE1 tm oE0) u u u u u u u u) (s1 u)<|c1<|.nil) (by kernel_rfl)<|pSeq<|bx h fun o e h=>rdx hm (c4<|c1<|lK 0 5 u u (by kernel_rfl) t32 u<|c1<|iX u32 z30 e u u<|c4<|cp (oIdxA 1 1 u u202 z3 u tm (cI (by decide))) (s1 u)<|cwn (oStK (n:=0) (k:=22) u u u (by kernel_rfl) z3 tm tm) (s2 u u)<|.nil) ?_
   obtain rfl:=so h
   exact pZ<|pSn [0] u u (.inr u) u u (.nil)
theorem dG.okR(h:dG.f a=some (.inr r)):FnS PP 177 [.p 70000 0] [.box 70000 204 (L204 a)] [70000] (.d (tup [])) [.box 70000 204 (L204 r)]:=dG.ok h
theorem dG.okP(h:dG.f a=some (.inl n)):FnX PP 177 [.p 70000 0] [.box 70000 204 (L204 a)] (pvv 199 n):=dG.ok h
theorem dt.ok(h:dt.f g=some z):FnZ PP 178 [.p 70000 0] [.box 70000 204 (L204 g)] [70000] 199 (fun(r:aE)=>.d (tup [])) (fun(r:aE)=>[.box 70000 204 (L204 r)]) z:=by
 refine fnIntroZ Tryz.func178 u (by kernel_rfl) fun X H0 w0 pv=>?_
 unfold dt.f at h
 refine wSeq<|wT0<|wTk 0 1 (c1<|.nil) (by kernel_rfl) u ?_
 obtain⟨i,a,h⟩:=bd h
 rcases i with l|j
 ·refine wTx (Γp:=[]) 1 u (oCallX (rest:=[]) [(70000,70000)] [0] [] u (cF.okP a) b176 (oE1 tm oE0) u u) u u (s1 u) tv<|pThenP ?_
  obtain rfl:=so h
  exact pX
 ·refine wTe 1 (cm (oCallS (rest:=[]) (R':=[.box 70000 204 (L204 j)]) (out':=.d (tup [])) [(70000,70000)] [] [0] [] [0] u (cF.okR a) b176 (oE1 tm oE0) u u u u u u u u) (s1 u)<|.nil) (by kernel_rfl)<|pSeq<|wSeq<|wT0<|wTk 0 1 (c1<|.nil) (by kernel_rfl) u ?_
  obtain⟨z4,b,h⟩:=bd h
  rcases z4 with m|c
  ·refine wTx (Γp:=[]) 1 u (oCallX (rest:=[]) [(70000,70000)] [0] [] u (cP.okP b) b193 (oE1 tm oE0) u u) u u (s1 u) tv<|pThenP ?_
   obtain rfl:=so h
   exact pX
  ·refine wTe 1 (cm (oCallS (rest:=[]) (R':=[.box 70000 204 (L204 c.1)]) (out':=.d (ki.sig c.2)) [(70000,70000)] [] [0] [] [0] u (cP.okR b) b193 (oE1 tm oE0) u u u u u u u u) (s1 u)<|c1<|.nil) (by kernel_rfl)<|pSeq<|bx h fun o e h=>rdx hm (c4<|c1<|lK 0 5 u u (by kernel_rfl) t32 u<|c1<|iX u32 z30 e u u<|c4<|cp (oIdxA 2 2 u u202 z3 u tm (cI (by decide))) (s1 u)<|cwn (oStK (n:=0) (k:=23) u u u (by kernel_rfl) z3 tm tm) (s2 u u)<|.nil) ?_
   obtain rfl:=so h
   exact pZ<|pSn [0] u u (.inr u) u u (.nil)
theorem dt.okR(h:dt.f a=some (.inr r)):FnS PP 178 [.p 70000 0] [.box 70000 204 (L204 a)] [70000] (.d (tup [])) [.box 70000 204 (L204 r)]:=dt.ok h
theorem dt.okP(h:dt.f a=some (.inl n)):FnX PP 178 [.p 70000 0] [.box 70000 204 (L204 a)] (pvv 199 n):=dt.ok h
theorem df.ok(h:df.f m=some z):FnZ PP 179 [.p 70000 0] [.box 70000 204 (L204 m)] [70000] 199 (fun(r:aE)=>.d (tup [])) (fun(r:aE)=>[.box 70000 204 (L204 r)]) z:=by
 refine fnIntroZ Tryz.func179 u (by kernel_rfl) fun X H0 w0 pv=>?_
 unfold df.f at h
 refine wSeq<|wT0<|wTk 0 1 (c1<|.nil) (by kernel_rfl) u ?_
 obtain⟨o,i,h⟩:=bd h
 rcases o with x|a
 ·refine wTx (Γp:=[]) 1 u (oCallX (rest:=[]) [(70000,70000)] [0] [] u (bE.okP i) b175 (oE1 tm oE0) u u) u u (s1 u) tv<|pThenP ?_
  obtain rfl:=so h
  exact pX
 ·refine wTe 1 (cm (oCallS (rest:=[]) (R':=[.box 70000 204 (L204 a)]) (out':=.d (tup [])) [(70000,70000)] [] [0] [] [0] u (bE.okR i) b175 (oE1 tm oE0) u u u u u u u u) (s1 u)<|.nil) (by kernel_rfl)<|pSeq ?_
  obtain⟨q,h,b⟩:=bd h
  refine wK0 (.inr ()=q) ([]) ([.box 70000 204 (L204 a)]) ?_ ?_
  ·obtain⟨c,h⟩|⟨c,h⟩:=ik h
   ·refine wT0<|wTk 0 14 (c4<|lK 0 12 u u (by kernel_rfl) t3 u<|c6<|crgB (dT c.1) u u (oLdK (n:=0) (k:=12) u u (by kernel_rfl) t3 tm) (s1 u)<|c2<|.nil) (by kernel_rfl) u ?_
    obtain⟨j,e,h⟩:=bd h
    rcases j with s|t
    ·refine wTx (Γp:=[]) 14 u (oCallX (rest:=[.box 70000 204 (L204 a)]) [] [] [0] u (cc.okP e) b155 (oE1 tm oE0) u u) u u (s1 u) tv<|pThenP ?_
     obtain rfl:=so h
     replace h:=b
     obtain rfl:=so h
     exact pX
    ·exact wTe 14 (cm (oCallS (rest:=[.box 70000 204 (L204 a)]) (R':=[.box 70000 204 (L204 a)]) (out':=.d (tup [])) [] [] [] [0] [0] u (cc.okR e) b155 (oE1 tm oE0) u u u u u u u u) (s1 u)<|.nil) (by kernel_rfl)<|pJ0 (so h) tv u
   ·refine wT0<|wTk 0 14 (c4<|lK 0 12 u u (by kernel_rfl) t3 u<|c8<|c1<|.nil) (by kernel_rfl) u ?_
    obtain⟨l,g,h⟩:=bd h
    rcases l with v|w
    ·refine wTx (Γp:=[]) 14 u (oCallX (rest:=[.box 70000 204 (L204 a)]) [] [] [0] u (cc.okP g) b155 (oE1 tm oE0) u u) u u (s1 u) tv<|pThenP ?_
     obtain rfl:=so h
     replace h:=b
     obtain rfl:=so h
     exact pX
    ·exact wTe 14 (cm (oCallS (rest:=[.box 70000 204 (L204 a)]) (R':=[.box 70000 204 (L204 a)]) (out':=.d (tup [])) [] [] [] [0] [0] u (cc.okR g) b155 (oE1 tm oE0) u u u u u u u u) (s1 u)<|.nil) (by kernel_rfl)<|pJ0 (so h) tv u
  ·rintro rfl
   replace h:=b
   obtain rfl:=so h
   exact pZ<|pSn [0] u u (.inr u) u u (.nil)
theorem df.okR(h:df.f a=some (.inr r)):FnS PP 179 [.p 70000 0] [.box 70000 204 (L204 a)] [70000] (.d (tup [])) [.box 70000 204 (L204 r)]:=df.ok h
theorem df.okP(h:df.f a=some (.inl n)):FnX PP 179 [.p 70000 0] [.box 70000 204 (L204 a)] (pvv 199 n):=df.ok h
theorem bK.ok(h:bK.f o=some z):FnZ PP 180 [.p 70000 0] [.box 70000 204 (L204 o)] [70000] 199 (fun(r:aE)=>.d (tup [])) (fun(r:aE)=>[.box 70000 204 (L204 r)]) z:=by
 refine fnIntroZ Tryz.func180 u (by kernel_rfl) fun X H0 w0 pv=>?_
 unfold bK.f at h
 refine wSeq<|wT0<|wTk 0 1 (c1<|.nil) (by kernel_rfl) u ?_
 obtain⟨q,i,h⟩:=bd h
 rcases q with t|l
 ·refine wTx (Γp:=[]) 1 u (oCallX (rest:=[]) [(70000,70000)] [0] [] u (df.okP i) b179 (oE1 tm oE0) u u) u u (s1 u) tv<|pThenP ?_
  obtain rfl:=so h
  exact pX
 ·refine wTe 1 (cm (oCallS (rest:=[]) (R':=[.box 70000 204 (L204 l)]) (out':=.d (tup [])) [(70000,70000)] [] [0] [] [0] u (df.okR i) b179 (oE1 tm oE0) u u u u u u u u) (s1 u)<|.nil) (by kernel_rfl)<|pSeq<|sx (c4<|lK 0 9 u u (by kernel_rfl) t3 u<|c1<|.nil) ?_
  obtain⟨m,h,j⟩:=bd h
  refine wK1 (fun a=>.inr a=m) (fun a=>[]) (fun a=>[.box 70000 204 (L204 a)]) ?_ ?_
  ·refine wBlock (wLoop ?_)
   refine lW (pc2 m (fun c e=>[(0,.p 70000 0),(9,.d (ki.sig l.x_.N)),(10,.d (ki.sig e))]) (fun c e=>[.box 70000 204 (L204 c)]) (bK.l0.partial_correctness l) ?_ _ _ h) ⟨u,u,u,tv⟩ u
   clear h
   intro f' ih c e h
   refine sx (c1<|.nil)<|wSeq<|jx h (fun b h=>?_) fun b h=>?_
   ·refine wd b u<|wSkip<|pSeq<|wSeq<|wBlock<|sx (c2<|.nil)<|wT0<|wTk 0 3 (c3<|.nil) (by kernel_rfl) u ?_
    obtain⟨n,g,h⟩:=bd h
    rcases n with s|k
    ·refine wTx (Γp:=[]) 3 u (oCallX (rest:=[]) [(70000,70000)] [0] [] u (cz.okP g) b192 (oE1 tm (oE1 tm oE0)) u u) u u (s2 u u) tv<|pBlkP<|pThenP<|pThenP<|pBlkP<|pThenP ?_
     obtain rfl:=so h
     replace h:=j
     obtain rfl:=so h
     exact pX
    ·exact wTe 3 (cm (oCallS (rest:=[]) (R':=[.box 70000 204 (L204 k.1)]) (out':=.d ((kR aD).sig k.2)) [(70000,70000)] [] [0] [] [0] u (cz.okR g) b192 (oE1 tm (oE1 tm oE0)) u u u u u u u u) (s2 u u)<|.nil) (by kernel_rfl)<|pBlkN<|pSeq<|rx (c2<|.nil)<|pLoop (lW (ih _ _ h) ⟨u,u,u,tv⟩ u)
   ·exact we b u<|wExit<|pThenX<|pThenX<|pBlkX<|pJ1 _ (so h) tv u
  ·rintro a rfl
   replace h:=j
   obtain rfl:=so h
   exact pZ<|pSn [0] u u (.inr u) u u (.nil)
theorem bK.okR(h:bK.f a=some (.inr r)):FnS PP 180 [.p 70000 0] [.box 70000 204 (L204 a)] [70000] (.d (tup [])) [.box 70000 204 (L204 r)]:=bK.ok h
theorem bK.okP(h:bK.f a=some (.inl n)):FnX PP 180 [.p 70000 0] [.box 70000 204 (L204 a)] (pvv 199 n):=bK.ok h
theorem aY.ok(h:aY.f a=some z):FnZ PP 181 [.p 70000 0] [.box 70000 204 (L204 a)] [70000] 199 (fun(r:aE)=>.d (tup [])) (fun(r:aE)=>[.box 70000 204 (L204 r)]) z:=by
 refine fnIntroZ Tryz.func181 u (by kernel_rfl) fun X H0 w0 pv=>?_
 unfold aY.f at h
 refine sx (c4<|c1<|lK 0 6 u u (by kernel_rfl) t33 u<|c3<|cwn (oStK (n:=0) (k:=20) u u u (by kernel_rfl) z3 tm tm) (s2 u u)<|.nil)<|wSeq<|sx (c4<|lK 0 9 u u (by kernel_rfl) t3 u<|c1<|.nil)<|jx h (fun s h=>?_) fun s h=>?_
 ·refine wd s u<|wT0<|wTk 0 1 (c1<|.nil) (by kernel_rfl) u ?_
  obtain⟨H,y,h⟩:=bd h
  rcases H with R|b
  ·refine wTx (Γp:=[]) 1 u (oCallX (rest:=[]) [(70000,70000)] [0] [] u (bE.okP y) b175 (oE1 tm oE0) u u) u u (s1 u) tv<|pThenP ?_
   obtain rfl:=so h
   exact pX
  ·refine wTe 1 (cm (oCallS (rest:=[]) (R':=[.box 70000 204 (L204 b)]) (out':=.d (tup [])) [(70000,70000)] [] [0] [] [0] u (bE.okR y) b175 (oE1 tm oE0) u u u u u u u u) (s1 u)<|.nil) (by kernel_rfl)<|pSeq<|wB h (fun c=>[(0,.p 70000 0)]) (fun c=>[.box 70000 204 [.d (kL kS) b.l_.Names,.d (kL (kI .u32)) b.l_.Up,.d ki b.s_.Pc.V,.d ki b.s_.Pc.L,.d (kL (kR aH)) b.s_.Code,.d (kL (kR aB)) b.s_.Mem,.d (kL (kR aD)) b.s_.Stack,.d (kL (kR aB)) b.s_.Out,.d ki b.x_.Op,.d ki b.x_.N,.d ki b.x_.L,.d kB b.a_.Ret,.d ki b.a_.V,.d ki b.a_.L,.d kB b.b_.Ret,.d ki b.b_.V,.d ki b.b_.L,.d kB b.r_.Ret,.d ki b.r_.V,.d ki b.r_.L,.d ki c,.d ki b.one_.x0_,.d ki b.one_.x1_,.d ki b.one_.x2_]]) (fun A h=>?_) fun c h=>?_
   ·refine wBlock (wLoop ?_)
    refine lW (pc1 A (fun o=>[(0,.p 70000 0)]) (fun o=>[.box 70000 204 [.d (kL kS) b.l_.Names,.d (kL (kI .u32)) b.l_.Up,.d ki b.s_.Pc.V,.d ki b.s_.Pc.L,.d (kL (kR aH)) b.s_.Code,.d (kL (kR aB)) b.s_.Mem,.d (kL (kR aD)) b.s_.Stack,.d (kL (kR aB)) b.s_.Out,.d ki b.x_.Op,.d ki b.x_.N,.d ki b.x_.L,.d kB b.a_.Ret,.d ki b.a_.V,.d ki b.a_.L,.d kB b.b_.Ret,.d ki b.b_.V,.d ki b.b_.L,.d kB b.r_.Ret,.d ki b.r_.V,.d ki b.r_.L,.d ki o,.d ki b.one_.x0_,.d ki b.one_.x1_,.d ki b.one_.x2_]]) (aY.l0.partial_correctness b) ?_ _ h) ⟨u,tv⟩ u
    clear h
    intro f' ih o h
    refine wSeq<|wB h (fun t=>[(0,.p 70000 0),(39,.d (kB.sig t))]) (fun t=>[.box 70000 204 [.d (kL kS) b.l_.Names,.d (kL (kI .u32)) b.l_.Up,.d ki b.s_.Pc.V,.d ki b.s_.Pc.L,.d (kL (kR aH)) b.s_.Code,.d (kL (kR aB)) b.s_.Mem,.d (kL (kR aD)) b.s_.Stack,.d (kL (kR aB)) b.s_.Out,.d ki b.x_.Op,.d ki b.x_.N,.d ki b.x_.L,.d kB b.a_.Ret,.d ki b.a_.V,.d ki b.a_.L,.d kB b.b_.Ret,.d ki b.b_.V,.d ki b.b_.L,.d kB b.r_.Ret,.d ki b.r_.V,.d ki b.r_.L,.d ki o,.d ki b.one_.x0_,.d ki b.one_.x1_,.d ki b.one_.x2_]]) (fun I h=>?_) fun t h=>?_
    ·refine jx h (fun g h=>?_) fun g h=>?_
     ·exact bx h fun J B h=>rdx hm (c3<|lK 0 20 u u (by kernel_rfl) t3 u<|c6<|crgB (dT g.1) u u (oLdK (n:=0) (k:=6) u u (by kernel_rfl) t33 tm) (s1 u)<|c3<|crgB (dT g.1) u u (oLdK (n:=0) (k:=20) u u (by kernel_rfl) t3 tm) (s1 u)<|c1<|cgB (dT g.1) u u (oIdx u33 z88 B tm tm) (s2 u u)<|c4<|.nil)<|pJ1 _ (so h) (sb u) u
     ·exact rdx hm (c3<|lK 0 20 u u (by kernel_rfl) t3 u<|c12<|c4<|c1<|.nil)<|pJ1 _ (so h) (sb u) u
    ·refine jx h (fun j h=>?_) fun j h=>?_
     ·exact wb j u<|wSkip<|pSeq<|wBlock<|rx (c3<|lK 0 20 u u (by kernel_rfl) t3 u<|c3<|cwn (oStK (n:=0) (k:=20) u u u (by kernel_rfl) z3 tm tm) (s2 u u)<|.nil)<|pBlkN<|pLoop (lW (ih _ h) ⟨u,tv⟩ u)
     ·exact wc j u<|wExit<|pThenX<|pThenX<|pBlkX<|pJ1 _ (so h) (sb u) u
   ·refine wSeq<|wT0<|wTk 0 5 (c3<|lK 0 20 u u (by kernel_rfl) t3 u<|c1<|.nil) (by kernel_rfl) u ?_
    obtain⟨z25,v,h⟩:=bd h
    rcases z25 with K|M
    ·refine wTx (Γp:=[]) 5 u (oCallX (rest:=[.box 70000 204 [.d (kL kS) b.l_.Names,.d (kL (kI .u32)) b.l_.Up,.d ki b.s_.Pc.V,.d ki b.s_.Pc.L,.d (kL (kR aH)) b.s_.Code,.d (kL (kR aB)) b.s_.Mem,.d (kL (kR aD)) b.s_.Stack,.d (kL (kR aB)) b.s_.Out,.d ki b.x_.Op,.d ki b.x_.N,.d ki b.x_.L,.d kB b.a_.Ret,.d ki b.a_.V,.d ki b.a_.L,.d kB b.b_.Ret,.d ki b.b_.V,.d ki b.b_.L,.d kB b.r_.Ret,.d ki b.r_.V,.d ki b.r_.L,.d ki c,.d ki b.one_.x0_,.d ki b.one_.x1_,.d ki b.one_.x2_]]) [] [] [0] u (cc.okP v) b155 (oE1 tm oE0) u u) u u (s1 u) tv<|pThenP ?_
     obtain rfl:=so h
     exact pX
    ·refine wTe 5 (cm (oCallS (rest:=[.box 70000 204 [.d (kL kS) b.l_.Names,.d (kL (kI .u32)) b.l_.Up,.d ki b.s_.Pc.V,.d ki b.s_.Pc.L,.d (kL (kR aH)) b.s_.Code,.d (kL (kR aB)) b.s_.Mem,.d (kL (kR aD)) b.s_.Stack,.d (kL (kR aB)) b.s_.Out,.d ki b.x_.Op,.d ki b.x_.N,.d ki b.x_.L,.d kB b.a_.Ret,.d ki b.a_.V,.d ki b.a_.L,.d kB b.b_.Ret,.d ki b.b_.V,.d ki b.b_.L,.d kB b.r_.Ret,.d ki b.r_.V,.d ki b.r_.L,.d ki c,.d ki b.one_.x0_,.d ki b.one_.x1_,.d ki b.one_.x2_]]) (R':=[.box 70000 204 [.d (kL kS) b.l_.Names,.d (kL (kI .u32)) b.l_.Up,.d ki b.s_.Pc.V,.d ki b.s_.Pc.L,.d (kL (kR aH)) b.s_.Code,.d (kL (kR aB)) b.s_.Mem,.d (kL (kR aD)) b.s_.Stack,.d (kL (kR aB)) b.s_.Out,.d ki b.x_.Op,.d ki b.x_.N,.d ki b.x_.L,.d kB b.a_.Ret,.d ki b.a_.V,.d ki b.a_.L,.d kB b.b_.Ret,.d ki b.b_.V,.d ki b.b_.L,.d kB b.r_.Ret,.d ki b.r_.V,.d ki b.r_.L,.d ki c,.d ki b.one_.x0_,.d ki b.one_.x1_,.d ki b.one_.x2_]]) (out':=.d (tup [])) [] [] [] [0] [0] u (cc.okR v) b155 (oE1 tm oE0) u u u u u u u u) (s1 u)<|.nil) (by kernel_rfl)<|pSeq<|sx (c3<|lK 0 20 u u (by kernel_rfl) t3 u<|c3<|cwn (oStK (n:=0) (k:=20) u u u (by kernel_rfl) z3 tm tm) (s2 u u)<|.nil)<|wSeq<|bx h fun F C h=>rdx hm (c4<|c1<|lK 0 6 u u (by kernel_rfl) t33 u<|c3<|lK 0 20 u u (by kernel_rfl) t3 u<|iX u33 z88 C u u<|c3<|cwn (oStPK (n:=0) (k:=17) (m:=3) (d:=(kR aD)) (u:=F) pt88 u u (by kernel_rfl) z88 tm tm) (s2 u u)<|.nil)<|pSeq<|rdx hm (c4<|c1<|lK 0 19 u u (by kernel_rfl) t3 u<|c2<|cp (oIdxA 1 1 u u202 z3 u tm (cI (by decide))) (s1 u)<|cwn (oStK (n:=0) (k:=22) u u u (by kernel_rfl) z3 tm tm) (s2 u u)<|.nil) ?_
     obtain rfl:=so h
     exact pZ<|pSn [0] u u (.inr u) u u (.nil)
 ·refine we s u<|wSkip<|pSeq<|wB h (fun e=>[(0,.p 70000 0)]) (fun e=>[.box 70000 204 [.d (kL kS) a.l_.Names,.d (kL (kI .u32)) a.l_.Up,.d ki a.s_.Pc.V,.d ki a.s_.Pc.L,.d (kL (kR aH)) a.s_.Code,.d (kL (kR aB)) a.s_.Mem,.d (kL (kR aD)) a.s_.Stack,.d (kL (kR aB)) a.s_.Out,.d ki a.x_.Op,.d ki a.x_.N,.d ki a.x_.L,.d kB a.a_.Ret,.d ki a.a_.V,.d ki a.a_.L,.d kB a.b_.Ret,.d ki a.b_.V,.d ki a.b_.L,.d kB a.r_.Ret,.d ki a.r_.V,.d ki a.r_.L,.d ki e,.d ki a.one_.x0_,.d ki a.one_.x1_,.d ki a.one_.x2_]]) (fun A h=>?_) fun e h=>?_
  ·refine wBlock (wLoop ?_)
   refine lW (pc1 A (fun q=>[(0,.p 70000 0)]) (fun q=>[.box 70000 204 [.d (kL kS) a.l_.Names,.d (kL (kI .u32)) a.l_.Up,.d ki a.s_.Pc.V,.d ki a.s_.Pc.L,.d (kL (kR aH)) a.s_.Code,.d (kL (kR aB)) a.s_.Mem,.d (kL (kR aD)) a.s_.Stack,.d (kL (kR aB)) a.s_.Out,.d ki a.x_.Op,.d ki a.x_.N,.d ki a.x_.L,.d kB a.a_.Ret,.d ki a.a_.V,.d ki a.a_.L,.d kB a.b_.Ret,.d ki a.b_.V,.d ki a.b_.L,.d kB a.r_.Ret,.d ki a.r_.V,.d ki a.r_.L,.d ki q,.d ki a.one_.x0_,.d ki a.one_.x1_,.d ki a.one_.x2_]]) (aY.l1.partial_correctness a) ?_ _ h) ⟨u,tv⟩ u
   clear h
   intro f' ih q h
   refine wSeq<|wB h (fun w=>[(0,.p 70000 0),(39,.d (kB.sig w))]) (fun w=>[.box 70000 204 [.d (kL kS) a.l_.Names,.d (kL (kI .u32)) a.l_.Up,.d ki a.s_.Pc.V,.d ki a.s_.Pc.L,.d (kL (kR aH)) a.s_.Code,.d (kL (kR aB)) a.s_.Mem,.d (kL (kR aD)) a.s_.Stack,.d (kL (kR aB)) a.s_.Out,.d ki a.x_.Op,.d ki a.x_.N,.d ki a.x_.L,.d kB a.a_.Ret,.d ki a.a_.V,.d ki a.a_.L,.d kB a.b_.Ret,.d ki a.b_.V,.d ki a.b_.L,.d kB a.r_.Ret,.d ki a.r_.V,.d ki a.r_.L,.d ki q,.d ki a.one_.x0_,.d ki a.one_.x1_,.d ki a.one_.x2_]]) (fun I h=>?_) fun w h=>?_
   ·refine jx h (fun i h=>?_) fun i h=>?_
    ·exact bx h fun O D h=>rdx hm (c3<|lK 0 20 u u (by kernel_rfl) t3 u<|c6<|crgB (dT i.1) u u (oLdK (n:=0) (k:=6) u u (by kernel_rfl) t33 tm) (s1 u)<|c3<|crgB (dT i.1) u u (oLdK (n:=0) (k:=20) u u (by kernel_rfl) t3 tm) (s1 u)<|c1<|cgB (dT i.1) u u (oIdx u33 z88 D tm tm) (s2 u u)<|c4<|.nil)<|pJ1 _ (so h) (sb u) u
    ·exact rdx hm (c3<|lK 0 20 u u (by kernel_rfl) t3 u<|c12<|c4<|c1<|.nil)<|pJ1 _ (so h) (sb u) u
   ·refine jx h (fun l h=>?_) fun l h=>?_
    ·exact wb l u<|wSkip<|pSeq<|wBlock<|rx (c3<|lK 0 20 u u (by kernel_rfl) t3 u<|c3<|cwn (oStK (n:=0) (k:=20) u u u (by kernel_rfl) z3 tm tm) (s2 u u)<|.nil)<|pBlkN<|pLoop (lW (ih _ h) ⟨u,tv⟩ u)
    ·exact wc l u<|wExit<|pThenX<|pThenX<|pBlkX<|pJ1 _ (so h) (sb u) u
  ·refine wSeq<|wT0<|wTk 0 5 (c3<|lK 0 20 u u (by kernel_rfl) t3 u<|c1<|.nil) (by kernel_rfl) u ?_
   obtain⟨z49,x,h⟩:=bd h
   rcases z49 with P|Q
   ·refine wTx (Γp:=[]) 5 u (oCallX (rest:=[.box 70000 204 [.d (kL kS) a.l_.Names,.d (kL (kI .u32)) a.l_.Up,.d ki a.s_.Pc.V,.d ki a.s_.Pc.L,.d (kL (kR aH)) a.s_.Code,.d (kL (kR aB)) a.s_.Mem,.d (kL (kR aD)) a.s_.Stack,.d (kL (kR aB)) a.s_.Out,.d ki a.x_.Op,.d ki a.x_.N,.d ki a.x_.L,.d kB a.a_.Ret,.d ki a.a_.V,.d ki a.a_.L,.d kB a.b_.Ret,.d ki a.b_.V,.d ki a.b_.L,.d kB a.r_.Ret,.d ki a.r_.V,.d ki a.r_.L,.d ki e,.d ki a.one_.x0_,.d ki a.one_.x1_,.d ki a.one_.x2_]]) [] [] [0] u (cc.okP x) b155 (oE1 tm oE0) u u) u u (s1 u) tv<|pThenP ?_
    obtain rfl:=so h
    exact pX
   ·refine wTe 5 (cm (oCallS (rest:=[.box 70000 204 [.d (kL kS) a.l_.Names,.d (kL (kI .u32)) a.l_.Up,.d ki a.s_.Pc.V,.d ki a.s_.Pc.L,.d (kL (kR aH)) a.s_.Code,.d (kL (kR aB)) a.s_.Mem,.d (kL (kR aD)) a.s_.Stack,.d (kL (kR aB)) a.s_.Out,.d ki a.x_.Op,.d ki a.x_.N,.d ki a.x_.L,.d kB a.a_.Ret,.d ki a.a_.V,.d ki a.a_.L,.d kB a.b_.Ret,.d ki a.b_.V,.d ki a.b_.L,.d kB a.r_.Ret,.d ki a.r_.V,.d ki a.r_.L,.d ki e,.d ki a.one_.x0_,.d ki a.one_.x1_,.d ki a.one_.x2_]]) (R':=[.box 70000 204 [.d (kL kS) a.l_.Names,.d (kL (kI .u32)) a.l_.Up,.d ki a.s_.Pc.V,.d ki a.s_.Pc.L,.d (kL (kR aH)) a.s_.Code,.d (kL (kR aB)) a.s_.Mem,.d (kL (kR aD)) a.s_.Stack,.d (kL (kR aB)) a.s_.Out,.d ki a.x_.Op,.d ki a.x_.N,.d ki a.x_.L,.d kB a.a_.Ret,.d ki a.a_.V,.d ki a.a_.L,.d kB a.b_.Ret,.d ki a.b_.V,.d ki a.b_.L,.d kB a.r_.Ret,.d ki a.r_.V,.d ki a.r_.L,.d ki e,.d ki a.one_.x0_,.d ki a.one_.x1_,.d ki a.one_.x2_]]) (out':=.d (tup [])) [] [] [] [0] [0] u (cc.okR x) b155 (oE1 tm oE0) u u u u u u u u) (s1 u)<|.nil) (by kernel_rfl)<|pSeq<|sx (c3<|lK 0 20 u u (by kernel_rfl) t3 u<|c3<|cwn (oStK (n:=0) (k:=20) u u u (by kernel_rfl) z3 tm tm) (s2 u u)<|.nil)<|wSeq<|bx h fun G E h=>rdx hm (c4<|c1<|lK 0 6 u u (by kernel_rfl) t33 u<|c3<|lK 0 20 u u (by kernel_rfl) t3 u<|iX u33 z88 E u u<|c3<|cwn (oStPK (n:=0) (k:=17) (m:=3) (d:=(kR aD)) (u:=G) pt88 u u (by kernel_rfl) z88 tm tm) (s2 u u)<|.nil)<|pSeq<|rdx hm (c4<|c1<|lK 0 19 u u (by kernel_rfl) t3 u<|c2<|cp (oIdxA 1 1 u u202 z3 u tm (cI (by decide))) (s1 u)<|cwn (oStK (n:=0) (k:=22) u u u (by kernel_rfl) z3 tm tm) (s2 u u)<|.nil) ?_
    obtain rfl:=so h
    exact pZ<|pSn [0] u u (.inr u) u u (.nil)
theorem aY.okR(h:aY.f a=some (.inr r)):FnS PP 181 [.p 70000 0] [.box 70000 204 (L204 a)] [70000] (.d (tup [])) [.box 70000 204 (L204 r)]:=aY.ok h
theorem aY.okP(h:aY.f a=some (.inl n)):FnX PP 181 [.p 70000 0] [.box 70000 204 (L204 a)] (pvv 199 n):=aY.ok h
end Go.Proofs.YtmjcpkmongafnaaGreatDoor.TT
