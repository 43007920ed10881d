/- Part of the proofs: an abstract program logic, plain models and contracts of functions. -/
import Derived.Shelf.SlIterI.Nil
import Derived.Shelf.SortM.Plain
import Derived.Shelf.SortM.SortNone
import Derived.Ground.GgzProg
import Derived.Ground.SlgmProg
import Derived.Test.YtboammbpdaoojaaGreatProg
import Derived.Test.YtboammbpdaoojaaGreatPe
import Derived.Test.YtboammbpdaoojaaGreatPb
import Derived.Test.YtboammbpdaoojaaGreatPf
import Derived.Test.YtboammbpdaoojaaGreatPd
import Derived.Test.YtboammbpdaoojaaGreatPc
set_option linter.unusedVariables false
set_option linter.unusedSimpArgs false
set_option maxRecDepth 100000
namespace Go.Proofs
open Go.Shelf
def Tryz.keysA_ren:Go.Shelf.Ren:=⟨fun | 7=>193 | 10=>199 | n=>n,fun | 23=>229 | 26=>3 | 3=>3 | 28=>240 | 0=>0 | 27=>239 | 33=>245 | 4=>4 | n=>n,fun | n=>n⟩
theorem Tryz.keysA:Go.Proofs.SlLaysZI.n7 Tryz.prog Tryz.keysA_ren:={
 mixed:=by kernel_rfl
 f7:=⟨Tryz.f193.name,by decide,Tryz.func193.trans (congrArg some As)⟩
 f10:=⟨Tryz.f199.name,by decide,Tryz.func199.trans (congrArg some As)⟩
 t0:=Tryz.underlying0
 a0:=Tryz.isAgg0
 z0:=Tryz.sizeOf0
 v0:=Tryz.zeroValue0
 t4:=Tryz.underlying4
 a4:=Tryz.isAgg4
 z4:=Tryz.sizeOf4
 v4:=Tryz.zeroValue4
 t23:=Tryz.underlying229
 a23:=Tryz.isAgg229
 z23:=Tryz.sizeOf229
 v23:=Tryz.zeroValue229
 t26:=Tryz.underlying3
 a26:=Tryz.isAgg3
 z26:=Tryz.sizeOf3
 v26:=Tryz.zeroValue3
 t27:=Tryz.underlying239
 a27:=Tryz.isAgg239
 z27:=Tryz.sizeOf239
 v27:=Tryz.zeroValue239
 t28:=Tryz.underlying240
 a28:=Tryz.isAgg240
 z28:=Tryz.sizeOf240
 v28:=Tryz.zeroValue240
 t33:=Tryz.underlying245
 a33:=Tryz.isAgg245
 z33:=Tryz.sizeOf245
 v33:=Tryz.zeroValue245 }
def Tryz.sortedA_ren:Go.Shelf.Ren:=⟨fun | 6=>192 | 8=>197 | 9=>198 | 11=>201 | 13=>203 | 12=>202 | 23=>213 | 24=>214 | 14=>204 | 15=>205 | 16=>206 | 17=>207 | 18=>208 | 19=>209 | 20=>210 | 21=>211 | 22=>212 | 25=>215 | 26=>216 | 27=>217 | 28=>218 | 29=>219 | 30=>220 | 31=>221 | n=>n,fun | 26=>3 | 28=>240 | 24=>137 | 0=>0 | 3=>3 | 37=>250 | 48=>260 | 50=>262 | 4=>4 | 40=>253 | 39=>252 | 45=>45 | 5=>5 | 9=>9 | 51=>263 | 55=>267 | 57=>269 | 58=>110 | 33=>245 | n=>n,fun | n=>n⟩
theorem Tryz.sortedA:Go.Proofs.SlLaysZI.n6 Tryz.prog Tryz.sortedA_ren:={
 mixed:=by kernel_rfl
 f6:=⟨Tryz.f192.name,by decide,Tryz.func192.trans (congrArg some As)⟩
 f8:=⟨Tryz.f197.name,by decide,Tryz.func197.trans (congrArg some As)⟩
 f11:=⟨Tryz.f201.name,by decide,Tryz.func201.trans (congrArg some As)⟩
 t0:=Tryz.underlying0
 a0:=Tryz.isAgg0
 z0:=Tryz.sizeOf0
 v0:=Tryz.zeroValue0
 t24:=Tryz.underlying137
 a24:=Tryz.isAgg137
 z24:=Tryz.sizeOf137
 v24:=Tryz.zeroValue137
 t26:=Tryz.underlying3
 a26:=Tryz.isAgg3
 z26:=Tryz.sizeOf3
 v26:=Tryz.zeroValue3
 t28:=Tryz.underlying240
 a28:=Tryz.isAgg240
 z28:=Tryz.sizeOf240
 v28:=Tryz.zeroValue240
 i26:=by kernel_rfl }
def Tryz.sortA_ren:Go.Shelf.Ren:=⟨fun | 5=>198 | 8=>203 | 7=>202 | 19=>213 | 20=>214 | 10=>204 | 11=>205 | 12=>206 | 13=>207 | 14=>208 | 15=>209 | 16=>210 | 17=>211 | 18=>212 | 30=>215 | 31=>216 | 32=>217 | 33=>218 | 34=>219 | 35=>220 | 40=>221 | n=>n,fun | 23=>137 | 25=>3 | 3=>3 | 32=>250 | 22=>137 | 0=>0 | 44=>260 | 46=>262 | 4=>4 | 36=>253 | 35=>252 | 41=>45 | 5=>5 | 9=>9 | 53=>263 | 57=>267 | 63=>269 | 64=>110 | n=>n,fun | n=>n⟩
theorem Tryz.sortA:Go.Proofs.SlLaysM.n5 Tryz.prog Tryz.sortA_ren:={
 mixed:=by kernel_rfl
 f5:=⟨Tryz.f198.name,by decide,Tryz.func198.trans (congrArg some As)⟩
 f7:=⟨Tryz.f202.name,by decide,Tryz.func202.trans (congrArg some As)⟩
 f8:=Tryz.func203.trans (congrArg some As)
 f10:=⟨Tryz.f204.name,by decide,Tryz.func204.trans (congrArg some As)⟩
 f11:=⟨Tryz.f205.name,by decide,Tryz.func205.trans (congrArg some As)⟩
 f12:=⟨Tryz.f206.name,by decide,Tryz.func206.trans (congrArg some As)⟩
 f13:=⟨Tryz.f207.name,by decide,Tryz.func207.trans (congrArg some As)⟩
 f14:=⟨Tryz.f208.name,by decide,Tryz.func208.trans (congrArg some As)⟩
 f15:=⟨Tryz.f209.name,by decide,Tryz.func209.trans (congrArg some As)⟩
 f16:=⟨Tryz.f210.name,by decide,Tryz.func210.trans (congrArg some As)⟩
 f17:=⟨Tryz.f211.name,by decide,Tryz.func211.trans (congrArg some As)⟩
 f18:=⟨Tryz.f212.name,by decide,Tryz.func212.trans (congrArg some As)⟩
 f19:=Tryz.func213.trans (congrArg some As)
 f20:=Tryz.func214.trans (congrArg some As)
 f30:=⟨Tryz.f215.name,by decide,Tryz.func215.trans (congrArg some As)⟩
 f31:=Tryz.func216.trans (congrArg some As)
 f32:=Tryz.func217.trans (congrArg some As)
 f33:=⟨Tryz.f218.name,by decide,Tryz.func218.trans (congrArg some As)⟩
 f34:=⟨Tryz.f219.name,by decide,Tryz.func219.trans (congrArg some As)⟩
 f35:=⟨Tryz.f220.name,by decide,Tryz.func220.trans (congrArg some As)⟩
 f40:=⟨Tryz.f221.name,by decide,Tryz.func221.trans (congrArg some As)⟩
 t0:=Tryz.underlying0
 a0:=Tryz.isAgg0
 z0:=Tryz.sizeOf0
 v0:=Tryz.zeroValue0
 t3:=Tryz.underlying3
 a3:=Tryz.isAgg3
 z3:=Tryz.sizeOf3
 v3:=Tryz.zeroValue3
 t4:=Tryz.underlying4
 a4:=Tryz.isAgg4
 z4:=Tryz.sizeOf4
 v4:=Tryz.zeroValue4
 t5:=Tryz.underlying5
 a5:=Tryz.isAgg5
 z5:=Tryz.sizeOf5
 v5:=Tryz.zeroValue5
 t9:=Tryz.underlying9
 a9:=Tryz.isAgg9
 z9:=Tryz.sizeOf9
 v9:=Tryz.zeroValue9
 t22:=Tryz.underlying137
 a22:=Tryz.isAgg137
 z22:=Tryz.sizeOf137
 v22:=Tryz.zeroValue137
 t23:=Tryz.underlying137
 a23:=Tryz.isAgg137
 z23:=Tryz.sizeOf137
 v23:=Tryz.zeroValue137
 t25:=Tryz.underlying3
 a25:=Tryz.isAgg3
 z25:=Tryz.sizeOf3
 v25:=Tryz.zeroValue3
 t32:=Tryz.underlying250
 a32:=Tryz.isAgg250
 z32:=Tryz.sizeOf250
 v32:=Tryz.zeroValue250
 t35:=Tryz.underlying252
 a35:=Tryz.isAgg252
 z35:=Tryz.sizeOf252
 v35:=Tryz.zeroValue252
 t36:=Tryz.underlying253
 a36:=Tryz.isAgg253
 z36:=Tryz.sizeOf253
 v36:=Tryz.zeroValue253
 t41:=Tryz.underlying45
 a41:=Tryz.isAgg45
 z41:=Tryz.sizeOf45
 v41:=Tryz.zeroValue45
 t44:=Tryz.underlying260
 a44:=Tryz.isAgg260
 z44:=Tryz.sizeOf260
 v44:=Tryz.zeroValue260
 t46:=Tryz.underlying262
 a46:=Tryz.isAgg262
 z46:=Tryz.sizeOf262
 v46:=Tryz.zeroValue262
 t53:=Tryz.underlying263
 a53:=Tryz.isAgg263
 z53:=Tryz.sizeOf263
 v53:=Tryz.zeroValue263
 t57:=Tryz.underlying267
 a57:=Tryz.isAgg267
 z57:=Tryz.sizeOf267
 v57:=Tryz.zeroValue267
 t63:=Tryz.underlying269
 a63:=Tryz.isAgg269
 z63:=Tryz.sizeOf269
 v63:=Tryz.zeroValue269
 t64:=Tryz.underlying110
 a64:=Tryz.isAgg110
 z64:=Tryz.sizeOf110
 v64:=Tryz.zeroValue110 }
end Go.Proofs
namespace Go.Proofs
open Go.RowKit Go.Maps Go.Sort Go.Shelf
theorem Tryz.sortsA (m:Nat):AnyZI.SortsIn Tryz.prog Tryz.sortedA_ren Fence.wide m :=
 ⟨fun blk off cap ss W hH hblk hsz=>callsIn_wide.2 (AnyM.slices_Sort_int Tryz.sortA blk off cap ss W hH hblk hsz),
  fun p cap W=>callsIn_wide.2 (AnyM.slices_Sort_int_none Tryz.sortA p cap W)⟩
set_option maxHeartbeats 1000000 in
theorem Tryz.sortedKeys {H:Type}(Bm b nn:Nat) (D0:DataW H) (R:Value→Option (DataW H×List MemPlace)) (w:World) (hBm:Bm<w.heap.size) (hcell:w.cell? ⟨Bm,0,none⟩=some (.map (some b))) (hown:w.ownsMap Tryz.prog 3 R b nn D0) (hmax:Maps.size D0≤maxLen) (hbytes:Maps.size D0*8≤140737488355328) :
  Calls Tryz.prog 192 #[.func (.func 199) #[] #[.pointer (some ⟨Bm,0,none⟩)]] w fun e w'=>∃(v:Value) (ss:List Int),e= .returned v∧ss.Perm (intKeys D0) ∧
   w'.ownsRow w.heap.size 3 1 v ss.length ((ss.mergeSort (fun x y=>decide (x≤y))).map encZ)∧(v= .slice none 0 0↔ss=[])∧Below w.heap.size w w':=by
 refine(callsIn_wide (n:=5)).1 ?_;have hseq:SeqGives Fence.wide 2 Tryz.prog 199 #[.pointer (some ⟨Bm,0,none⟩)] encZ (fun ss=>ss.Perm (intKeys D0)) (Maps.size D0) w :=
  AnyZI.keys_gives (ρ:=Tryz.keysA_ren) { Tryz.keysA with } Fence.wide _ trivial rfl Ax Bm b nn D0 w hBm hcell hown
 exact AnyZI.sorted_in Tryz.sortedA Fence.wide 5 Az Az Az Az O Ax (Tryz.sortsA _) (enters_of Tryz.func198 As O) 199 #[.pointer (some ⟨Bm,0,none⟩)] Az (enters_of Tryz.func199 As O) _ _ hmax hbytes _ hseq
end Go.Proofs
namespace Go.Proofs.YtboammbpdaoojaaGreat
open Go.Abs Go.Eu
theorem iN:∀(m:Nat),B2 Tryz.prog 193 [.map m] [] (eY (fun b=> .fn (.func 199) [] [.ptr b 0]) [.map m]):=by
 intro m;refine BF Tryz.func193 O p9 (n:=4) O O (A6 (BO O (Ba O) fun b1=>A1 A7 1 [] O (A3 A7 2 [] O (A9 (⟨O,_,_,⟨_,_,O,O,O⟩,(CC (is:=[0]) O),?_⟩)))));exact⟨_,O,O⟩
theorem bN:∀(b m:Nat) (M:List (Int×Int)),M.length<1000000→(∀k∈M.map Prod.fst,-65536≤k∧k<8)→B2 Tryz.prog 192 [.fn (.func 199) [] [.ptr b 0]] [.box b [.map m],.map m (Ea (G5 M))] (Gj (.p (.lst ((Fe (M.map Prod.fst)).map FT))) [.box b [.map m],.map m (Ea (G5 M))]):=fun b m M h1 h2=>QR (kT:=3) (eT:=3) As As (fun Bm b nn D0 R w g1 g2 g3 g4 g5=>Tryz.sortedKeys Bm b nn D0 R w g1 g2 g3 g4 g5) b m M h1 h2
theorem Z6:∀(s m:Nat) (M:List (Int×Int)) (C:Int),(YX (M,C))→B2 Tryz.prog 186 [.ptr s 0] [.box s [.map m,.p (I C)],.map m (Ea (G5 M))] (Gj (.tup [.agg ((B9 ((Je ⟨C,HB M⟩).1)).map .p),.p (I ((Je ⟨C,HB M⟩).2))]) [.box s [.map m,.p (I C)],.map m (Ea (G5 M))]):=by
 intro s m M C h1;have hkl:(Fe (M.map Prod.fst)).length=M.length:=by simp[TE]
 have hml:M.length≤65544:=h1.len;refine BF Tryz.func186 O nV (n:=41) O O (A6 (BO O (BG Ed O) fun b2=>A1 A7 1 [] O (A6 (A5 A7 5 [1] O (BO O (BG Ed O) fun b4=>A1 A7 1 [0,0] O (A2 (A6 (Bx (IH (i:=0) O (YR (aw (we O) (aw (JN) (FM))))) (Bx (IB (sz:=2)) (A5 A7 4 [3] O (Y2 O O O (.inl ⟨O,O,O⟩) (iN m) (Dg _) fun bk=>A0 O (CF [0,5] O (.inl ⟨O,O,O⟩) (bN bk m M Ax h1.r) ⟨_,_,O,O,⟨_,_,O,O,O⟩⟩ Aw O (.inl O)) (A0 O (BT Fp O (List.length_map _)) (A1 A7 1 [] O (BJ ?_))))))))))))));refine Bn (α:=Nat×Option Nat×Nat) (fun(i,o,cp)=>⟨41,mk [(0,.ptr s 0),(2,.ptr b2 0),(4,.ptr b4 0),(17,.p (.lst (List.map FT (Fe (M.map Prod.fst))))),(18,.p (I ((Fe (M.map Prod.fst)).length:Nat))),(19,.p (I (i:Int)))],[.vec o 2 (List.map ED (((Fe (M.map Prod.fst)).take i).map (QQ M))) cp,.box b4 [.p (I C),.vs o (List.map ED (((Fe (M.map Prod.fst)).take i).map (QQ M))).length cp],.box b2 [.p (I 0),.p (.nils)],.box s [.map m,.p (I C)],.map m (Ea (G5 M))],[]⟩) (fun(i,o,cp)=>(Fe (M.map Prod.fst)).length - i) (fun(i,o,cp)=>i≤(Fe (M.map Prod.fst)).length) ⟨0,none,0⟩ AW ?_ ?_
 ·exact Bh ⟨we O,we O,we O,we O,we O,we O,Az⟩ (leH (is:=[1,2,3,4,5]) O (wl (oe O) (wl (oe O) (wl (oe O) (wl (oe O) (wl (oe O) (DJ)))))))
 rintro⟨i,o,cp⟩ hC
 try simp only at hC
 have hi:=hC;refine A3 A7 1 [] O (A2 (A4 O (fun c=>?_) (fun c=>?_)))
 ·(try simp only[sd,se] at c);refine BA (A2 (BJ (A6 ?_)));obtain⟨x,hx⟩:=BE (l:=Fe (M.map Prod.fst)) (i:=i) Ax;refine A0 O (BD Fp O O Ax (Jh hx) (O)) (A1 A7 2 [] O (B0 (fun k=>Nat.beq k 11) Dt (BZ A7 8 [1,3] O ?_)));refine CY (j:=4) O O O (fun H i hi=>Wq (i:=i) cY cH (fun _ _=>by simp[CW,Cb]) rfl rfl hi (Vv _ _)) AB trivial ?_;refine BP O (fun _=>Ca kQ GF O) Az (BP O (fun _=>Br Ch GF O O O O O) Az (JZ [] O O (CE (i:=0) (rows':=List.map ED [(CS.mk x ((mg x M).getD 0))]) Ch Ch GF O O O O O O (Gb _) AF (FX (f:=ED) (((Fe (M.map Prod.fst)).take i).map (QQ M)) [(CS.mk x ((mg x M).getD 0))])) As fun o1 cp1=>⟨AB,Az,?_⟩));refine Bt A7 2 [1,0] O (BC (A1 A7 2 [] O ?_));refine⟨⟨i+1,o1,cp1⟩,Ac,by omega,Bh ⟨we rfl,we rfl,we rfl,we rfl,we rfl,we rfl,trivial⟩ (leH (is:=[0,1,2,3,4]) rfl (wl (Ei (f:=ED) (((Fe (M.map Prod.fst)).take i).map (QQ M)++[(CS.mk x ((mg x M).getD 0))]) (by rw[List.take_add_one,hx];simp[QQ])) (wl (YR (aw (we rfl) (aw (we (FI (f:=ED) (((Fe (M.map Prod.fst)).take i).map (QQ M)++[(CS.mk x ((mg x M).getD 0))]) (by rw[List.take_add_one,hx];simp[QQ]))) (FM)))) (wl (oe rfl) (wl (oe rfl) (wl (oe rfl) (DJ)))))))⟩
 (try simp only[sd,se] at c);refine Bo (A6 (Bx (Db (i:=0) (j:=1) (q:=1) [] O O O (Ds Az)) (A0 O (Bf (i:=0) Dp O O O) (A0 O (BL O O (Xf (Ci.mk C (((Fe (M.map Prod.fst)).take i).map (QQ M))) (by simp only[List.length_map,List.length_take,Dq];omega)) O) (A1 A7 4 [1,1] O (A9 (⟨O,_,_,⟨_,_,O,(BI (i:=1) Dp O O Ao),⟨_,_,O,O,O⟩⟩,(CC (is:=[2,3]) O),?_⟩)))))))
 all_goals exact⟨by show (.tup [.agg ((B9 ((Je (Ci.mk C (((Fe (M.map Prod.fst)).take i).map (QQ M)))).1)).map .p),.p (I ((Je (Ci.mk C (((Fe (M.map Prod.fst)).take i).map (QQ M)))).2))]:AV)=_;rw[show ((Fe (M.map Prod.fst)).take i).map (QQ M)=HB M from Xo Ax],rfl⟩
theorem bp:∀(l:Ci) (ps:List Ci),(M6 l)→(ps.length<Dq)→(∀p∈ps,M6 p)→Ep Tryz.prog 166 [.agg ((B9 l).map .p),.p (.lst (List.map B9 ps))] (.tup [.agg ((B9 ((Iy l ps).1)).map .p),.p (I ((Iy l ps).2))]):=by
 intro l ps h1 h2 h3;have hl:=h1.vars;have hl2:=h2;simp only[Dq] at hl hl2;refine BF Tryz.func166 O qJ (n:=63) O O (A6 (BO O (Ba O) fun b2=>BO O (BG Ed O) fun b4=>A1 A7 1 [] O (A2 (A2 (Be [1,2,4] 16 (fun y=>y= .p (.bool ((!(CL l))||(!(ps.all CL))))) ?_ ?_)))))
 ·refine BC (A0 O (Bf (i:=1) Dp O O Ao) (A0 O (BL O O (Rj l h1) O) (A5 A7 2 [] O (BY 12 O (fun g=>?_) (fun g=>?_)))))
  ·(try simp only[sd,se] at g);exact A1 A7 4 [] O (⟨O,O,AP,AJ,⟨O,O,O,Az⟩⟩)
  (try simp only[sd,se] at g);exact BK O (Bi O) (BK O (BL O O (Wx ps h2 h3) O) (A1 A7 2 [] O (⟨O,O,AP,AJ,⟨O,O,O,Az⟩⟩)))
 rintro _ rfl;refine A4 O (fun c=>?_) (fun c=>?_)
 ·(try simp only[sd,se] at c);refine A3 A7 3 [0,0] O (BQ (Bd (i:=0) O) (A9 (⟨O,_,_,⟨_,_,O,(BI (i:=0) Dp O O O),⟨_,_,O,O,O⟩⟩,(List.nil_sublist _),?_⟩)))
  all_goals exact⟨by show (.tup [.agg [.p (I 0),.p (.lst [])],.p (I 3)]:AV)=_;rw[show Iy l ps=(Ft,3) by rw[Iy,if_pos (by simpa using c)]];rfl,rfl⟩
 (try simp only[sd,se] at c);have hv:CL l=true∧ps.all CL=true:=by simpa using c
 refine BA (A2 (A6 (A0 O (Bf (i:=1) Dp O O Ao) (A0 O (BL O O (bQ l h1) O) (B3 O (A0 O (BT Em O (List.length_map _)) (A1 A7 1 [] O (A4 O (fun c1=>?_) (fun c1=>?_)))))))))
 ·(try simp only[sd,se] at c1);refine A3 A7 3 [0,0] O (BQ (Bd (i:=0) O) (A9 (⟨O,_,_,⟨_,_,O,(BI (i:=0) Dp O O O),⟨_,_,O,O,O⟩⟩,(List.nil_sublist _),?_⟩)))
  all_goals exact⟨by show (.tup [.agg [.p (I 0),.p (.lst [])],.p (I 24)]:AV)=_;rw[show Iy l ps=(Ft,24) by rw[Iy,if_neg (by simp[hv]),if_pos c1]];rfl,rfl⟩
 (try simp only[sd,se] at c1);have hpl:¬(Gk l > ps.length):=by omega
 refine BA (A6 (Zc O O O (.inl ⟨O,O,O⟩) dU (Dg _) fun bs=>?_));obtain⟨bs,mm⟩:=bs;refine A1 A7 1 [] O (A3 A7 6 [3,0,0] O (A2 (A6 (A5 A7 2 [3] O (A0 O (BT Ch O (List.length_map _)) (A1 A7 1 [] O (BJ (Bn (α:=Nat) (fun i=>⟨63,mk [(1,.p (.lst (List.map B9 ps))),(4,.ptr b4 0),(6,.ptr bs 0),(31,.p (.lst (List.map ED l.vars))),(32,.p (I (l.vars.length:Nat))),(33,.p (I (i:Int)))],[.box bs [.map mm,.p (I (((l.vars.take i).foldl (EL ps) ([],l.const)).2))],.map mm (Ea (G5 ((l.vars.take i).foldl (EL ps) ([],l.const)).1)),.box b4 [.p (I 0),.p (.nils)]],[]⟩) (fun i=>l.vars.length - i) (fun i=>i≤l.vars.length) 0 AW ?_ ?_))))))))
 ·exact Bh ⟨we O,we O,we O,we O,we O,we O,Az⟩ (leH (is:=[0,1,2]) O (wl (oe O) (wl (oe O) (wl (oe O) (DJ)))))
 rintro i hC
 try simp only at hC
 have hi:=hC;refine A3 A7 1 [] O (A2 (A4 O (fun c2=>?_) (fun c2=>?_)))
 ·(try simp only[sd,se] at c2);refine BA (A2 (BJ (A6 ?_)));obtain⟨x,hx⟩:=BE (l:=l.vars) (i:=i) Ax;have hw:=LA hv.1 hx;have hpi:=cm hv.1 hpl hx;refine A0 O (BD Ch O O Ax (Ct hx) (O)) (A0 O (BU My O (O)) (BO O (BG GF O) fun b8=>A1 A7 1 [0,1] O (A3 A7 3 [0] O (A4 O (fun c3=>?_) (fun c3=>?_)))))
  ·(try simp only[sd,se] at c3);refine B0 (fun k=>false) Dt (BZ A7 8 [1,0,0] O (FH O O (CF [2] O (.inl ⟨O,O,O⟩) (Vi mm (((l.vars.take i).foldl (EL ps) ([],l.const)).1) x.index x.plus) ⟨_,_,O,O,O⟩ Aw O (.inl O)) AB Az (Hg O As (BC (A1 A7 2 [] O ?_)))));refine⟨(i+1),Ac,by omega,Bh ⟨we rfl,we rfl,we rfl,we rfl,we rfl,we rfl,trivial⟩ (leH (is:=[1,2,3]) rfl (wl (ob (by first | (simp only[step_take hx,UU c3];done) | (simp only[step_take hx,Ux c3 hx1];done))) (wl (om (by first | (simp only[step_take hx,UU c3];done) | (simp only[step_take hx,Ux c3 hx1];done))) (wl (oe rfl) (DJ)))))⟩
  (try simp only[sd,se] at c3);refine B0 (fun k=>false) Dt (BZ A7 4 [0] O ?_);obtain⟨x1,hx1⟩:=BE (l:=ps) (i:=(x.index:Int).toNat) Ax;refine BP O (fun _=>BD Em O O Ax (GD hx1) (D1 _)) Az (BZ A7 3 [0] O (FH O O (CF [1,2] O (.inl ⟨O,O,O⟩) (ji bs mm (((l.vars.take i).foldl (EL ps) ([],l.const)).1) (((l.vars.take i).foldl (EL ps) ([],l.const)).2) x1 x.plus (JO.of (List.all_eq_true.1 hv.2 _ (List.mem_of_getElem? hx1))) hw.1.1 hw.1.2) ⟨_,_,O,O,⟨_,_,O,O,O⟩⟩ Aw O (.inl O)) AB Az (Hg O As (BC (A1 A7 2 [] O ?_)))));refine⟨(i+1),Ac,by omega,Bh ⟨we rfl,we rfl,we rfl,we rfl,we rfl,we rfl,trivial⟩ (leH (is:=[1,2,3]) rfl (wl (ob (by first | (simp only[step_take hx,UU c3];done) | (simp only[step_take hx,Ux c3 hx1];done))) (wl (om (by first | (simp only[step_take hx,UU c3];done) | (simp only[step_take hx,Ux c3 hx1];done))) (wl (oe rfl) (DJ)))))⟩
 (try simp only[sd,se] at c2);refine Bo (A6 ?_);have hfin:YX ((l.vars.take i).foldl (EL ps) ([],l.const)):=YX.fold (List.all_eq_true.1 hv.2) _ _ (YX.zero _) (fun x hx=>by
  obtain⟨j,hj⟩:=List.mem_iff_getElem?.1 (List.mem_of_mem_take hx);exact⟨LA hv.1 hj,cm hv.1 hpl hj⟩)
 refine B3 O (A0 O (CF [0,1] O (.inl ⟨O,O,O⟩) (Z6 bs mm (((l.vars.take i).foldl (EL ps) ([],l.const)).1) (((l.vars.take i).foldl (EL ps) ([],l.const)).2) hfin) ⟨_,_,O,O,⟨_,_,O,O,O⟩⟩ Aw O (.inl O)) (A1 A7 4 [2,1] O (A9 (⟨O,_,_,⟨_,_,O,(BI (i:=2) Dp O O Ao),⟨_,_,O,O,O⟩⟩,(List.nil_sublist _),?_⟩))))
 all_goals exact⟨by show (.tup [.agg ((B9 ((Je ⟨(((l.vars.take i).foldl (EL ps) ([],l.const)).2),HB (((l.vars.take i).foldl (EL ps) ([],l.const)).1)⟩).1)).map .p),.p (I ((Je ⟨(((l.vars.take i).foldl (EL ps) ([],l.const)).2),HB (((l.vars.take i).foldl (EL ps) ([],l.const)).1)⟩).2))]:AV)=_;rw[show Iy l ps=Je ⟨(l.vars.foldl (EL ps) ([],l.const)).2,HB (l.vars.foldl (EL ps) ([],l.const)).1⟩ by rw[Iy,if_neg (by simp[hv]),if_neg hpl]];rw[show l.vars.take i=l.vars from List.take_of_length_le Ax],rfl⟩
theorem _root_.Go.Ap {α:Prop}(h:α:=by simp[BM]):α:=h
theorem EH:∀(f:Tm) (xs:List Tm),(xs.length<Dq)→Ep Tryz.prog 24 [.agg ((Bb f).map .p),.p (.lst (BN xs))] (.agg ((Bb (apply f xs)).map .p)):=by
 intro f xs h1;simp only[Dq] at h1;refine BF Tryz.func24 O qz (n:=20) O O (A6 (BO O (Ba O) fun b2=>BO O (BG B4 O) fun b4=>Bq O (A2 (A3 A7 1 [] O (BJ (Bn (α:=Nat) (fun i=>⟨20,mk [(1,.p (.lst (BN xs))),(2,.ptr b2 0),(4,.ptr b4 0),(5,.p (I (i:Int)))],[.box b4 [.p (I 0),.p (I 0),.p (.str ⟨#[]⟩),.p (.nils),.p (.nils)],.box b2 ((Bb (apply f (xs.take i))).map .p)],[]⟩) (fun i=>xs.length - i) (fun i=>i≤xs.length) 0 AW ?_ ?_))))))
 ·exact Bh ⟨we O,we O,we O,we O,Az⟩ (leH (is:=[0,1]) O (wl (oe O) (wl (oe O) (DJ))))
 rintro i hC
 try simp only at hC
 have hi:=hC;refine A2 (A6 (A5 A7 2 [] O (A0 O (BT Bk O (Bc _)) (A1 A7 1 [] O (A4 O (fun c=>?_) (fun c=>?_))))))
 ·(try simp only[sd,se] at c);refine BA (A2 (BJ (B0 (fun k=>false) Dt (BZ A7 3 [1] O ?_))));obtain⟨x,hx⟩:=BE (l:=xs) (i:=i) Ax;refine BP O (fun _=>BD Bk O O Ax (Bj hx) (BM _)) Az (BP O (fun _=>BU Bg O (BM _)) Az ?_);generalize hz:(apply f (xs.take i))=z;obtain⟨zk,zi,zn,zl,zs⟩:=z;obtain⟨xk,xi,xn,xl,xs1⟩:=x;refine BP O (fun _=>Br Bk B4 O O O O O) Az (Bt A7 2 [1,0] O (BC (A1 A7 3 [] O ?_)));refine⟨(i+1),Ac,by omega,Bh ⟨we rfl,we rfl,we rfl,we rfl,trivial⟩ (leH (is:=[0,1]) rfl (wl (oe rfl) (wl (on (by rw[RV hx,hz];rfl)) (DJ))))⟩
 (try simp only[sd,se] at c);refine Bo (A3 A7 2 [1,0,1] O (A9 (⟨O,_,_,⟨_,_,O,(BI (i:=0) Bg O O Ap),O⟩,(List.nil_sublist _),?_⟩)))
 all_goals exact⟨by show (.agg ((Bb (apply f (xs.take i))).map .p):AV)=_;rw[show i=xs.length by omega,List.take_length],rfl⟩
theorem _root_.Go.Ai {α:Prop}(h:α:=by simp only[Dq];omega):α:=h
theorem aq:∀(n:Nat) (t:Tm),(size t≤n)→(n<Dq)→B2 Tryz.prog 21 [.agg ((Bb t).map .p)] [] (bh (fun v=> .tup [.agg ((Bb ((BH t).1)).map .p),v]) 5 (BN ((BH t).2))):=by
 intro n
 induction n with
 | zero=>intro t h;cases t;simp[size] at h
 | succ n ih =>
  intro t h1 h2;simp only[Dq] at h2;refine BF Tryz.func21 O qZ (n:=32) O O (A6 (BO O (Ba O) fun b1=>BO O (BG B4 O) fun b2=>A1 A7 1 [] O (A2 (A2 ?_))));obtain⟨tk,ti,tn,tl,ts⟩:=t;simp only[size] at h1;refine Be [1,2] 14 (fun y=>y= .p (.bool (((tk:Int) !=(4:Int))||(((ts.length:Nat):Int) !=(2:Int))))) ?_ ?_
  ·refine BC (A5 A7 4 [1] O (BY 9 O (fun g=>?_) (fun g=>?_)))
   ·(try simp only[sd,se] at g);exact A1 A7 5 [] O (⟨O,O,AP,AJ,⟨O,O,Az⟩⟩)
   (try simp only[sd,se] at g);exact A5 A7 2 [1] O (BK O (BT Bk O (Bc _)) (A1 A7 2 [] O (⟨O,O,AP,AJ,⟨O,O,Az⟩⟩)))
  rintro _ rfl;refine A4 O (fun c=>?_) (fun c=>?_)
  ·(try simp only[sd,se] at c);refine A3 A7 3 [1,0,0] O (BQ (DS (t:=3) (sz:=5) O) (A9 (⟨O,_,_,⟨_,_,O,(BI (i:=1) Bg O O O),⟨_,_,O,O,O⟩⟩,(CC (is:=[0]) O),?_⟩)));rw[Rk c]
   all_goals exact⟨_,_,rfl,rfl⟩
  (try simp only[sd,se] at c);refine BA (A6 (A5 A7 2 [1] O ?_));obtain⟨x,hx⟩:=BE (l:=ts) (i:=0) Ax;refine A0 O (BD Bk O O Ax (Bj hx) (BM _)) (A0 O (BU Bg O (BM _)) (NO O O O (.inl ⟨O,O,O⟩) (ih x (by have:=Co hx;omega) Ai) (.inl O) fun o cp=>A5 A7 3 [] O (BO O (BG B4 O) fun b4=>A1 A7 2 [0,1] O (A2 (B0 (fun k=>Nat.beq k 7) Dt (BZ A7 4 [0,3] O ?_))))));obtain⟨x1,hx1⟩:=BE (l:=ts) (i:=1) Ax;refine BP O (fun _=>BD Bk O O Ax (Bj hx1) (BM _)) Az (BP O (fun _=>BU Bg O (BM _)) Az ?_);obtain⟨x1k,x1i,x1n,x1l,x1s⟩:=x1;refine BP O (fun _=>Br Bk B4 O O O O O) Az (JZ [] O O (CE (i:=1) (rows':=BN [(.mk x1k x1i x1n x1l x1s:Tm)]) Bk Bk B4 O O O O O O (B1 _) (by have:=PN x;have:=Co hx;simp[Bc];omega) (Hk ((BH x).2) [(.mk x1k x1i x1n x1l x1s:Tm)])) As fun o1 cp1=>⟨AB,Az,?_⟩);refine Bt A7 2 [2,1] O (A9 (⟨O,_,_,⟨_,_,O,(BI (i:=2) Bg O O Ap),⟨_,_,O,O,O⟩⟩,(CC (is:=[1]) O),?_⟩));rw[Tl c hx hx1]
  all_goals exact⟨_,_,rfl,rfl⟩
theorem Nu:∀(n:Nat) (t:Tm),size t≤n→n<Dq→Ep Tryz.prog 21 [TV t] (.tup [TV (BH t).1,nL (BH t).2]) :=
 fun n t h1 h2=>Xu (pre:=[_]) (post:=[]) (aq n t h1 h2) (fun x _=>V9 x)
theorem Mo:∀(n:Nat) (t:Tm),(size t≤n)→(Nd t)→Ep Tryz.prog 77 [.agg ((Bb t).map .p)] (.p (I (E6 t))):=by
 intro n
 induction n with
 | zero=>intro t h;cases t;simp[size] at h
 | succ n ih =>
  intro t h1 h2;obtain⟨tk,ti,tn,tl,ts⟩:=t;simp only[size] at h1;simp only[Nd,Dq] at h2;refine BF Tryz.func77 O rh (n:=21) O O (A6 (BO O (Ba O) fun b1=>A1 A7 1 [] O (A3 A7 1 [] O (A2 (A3 A7 1 [] O (BJ (Bn (α:=Nat×Int) (fun(i,m)=>⟨21,mk [(1,.ptr b1 0),(3,.p (I m)),(4,.p (I (i:Int)))],[.box b1 [.p (I tk),.p (I ti),.p (.str tn),.p (.lst (List.map B9 tl)),.p (.lst (BN ts))]],[]⟩) (fun(i,m)=>ts.length - i) (fun(i,m)=>i≤ts.length∧(K7 m (ts.drop i)=K7 1 ts)) ⟨0,1⟩ Ay ?_ ?_)))))))
  ·exact Bh ⟨we O,we O,we O,Az⟩ (leH (is:=[0]) O (wl (oe O) (DJ)))
  rintro⟨i,m⟩ hC
  try simp only at hC
  obtain⟨hi,hC⟩:=hC;refine A2 (A6 (A5 A7 3 [0] O (A0 O (BT Bk O (Bc _)) (A1 A7 1 [] O (A4 O (fun c=>?_) (fun c=>?_))))))
  ·(try simp only[sd,se] at c);refine BA (A2 (BJ (BC (A5 A7 4 [0] O ?_))));obtain⟨x,hx⟩:=BE (l:=ts) (i:=i) Ax;refine A0 O (BD Bk O O Ax (Bj hx) (BM _)) (A0 O (BU Bg O (BM _)) (A0 O (BL O O (ih x (by have:=Co hx;omega) (Df h2.2.2.2.2.1 hx)) O) (A0 O (ES O O) (A1 A7 1 [] O (BC (A1 A7 3 [] O ?_))))));refine⟨⟨i+1,wr (m+E6 x)⟩,Ac,⟨by omega,by rw[←hC,Cu hx];rfl⟩,Bh ⟨we rfl,we rfl,we rfl,trivial⟩ (leH (is:=[0]) rfl (wl (oe rfl) (DJ)))⟩
  (try simp only[sd,se] at c);refine Bo (A3 A7 2 [] O (A9 (⟨O,_,_,⟨_,_,O,O,O⟩,(List.nil_sublist _),?_⟩)))
  all_goals exact⟨pI (by rw[show E6 (.mk tk ti tn tl ts)=K7 1 ts from rfl,←hC,show i=ts.length by omega,List.drop_length];rfl),rfl⟩
theorem Om:∀(n:Nat) (t:Tm),(size t≤n)→(Nd t)→Ep Tryz.prog 93 [.agg ((Bb t).map .p)] (.p (I (En t))):=by
 intro n
 induction n with
 | zero=>intro t h;cases t;simp[size] at h
 | succ n ih =>
  intro t h1 h2;obtain⟨tk,ti,tn,tl,ts⟩:=t;simp only[size] at h1;simp only[Nd,Dq] at h2;refine BF Tryz.func93 O su (n:=22) O O (A6 (BO O (Ba O) fun b1=>A1 A7 1 [] O (A3 A7 1 [] O (A2 (A3 A7 1 [] O (BJ (Bn (α:=Nat×Int) (fun(i,m)=>⟨22,mk [(1,.ptr b1 0),(3,.p (I m)),(4,.p (I (i:Int)))],[.box b1 [.p (I tk),.p (I ti),.p (.str tn),.p (.lst (List.map B9 tl)),.p (.lst (BN ts))]],[]⟩) (fun(i,m)=>ts.length - i) (fun(i,m)=>i≤ts.length∧(HJ m (ts.drop i)=HJ 0 ts)) ⟨0,0⟩ Ay ?_ ?_)))))))
  ·exact Bh ⟨we O,we O,we O,Az⟩ (leH (is:=[0]) O (wl (oe O) (DJ)))
  rintro⟨i,m⟩ hC
  try simp only at hC
  obtain⟨hi,hC⟩:=hC;refine A2 (A6 (A5 A7 3 [0] O (A0 O (BT Bk O (Bc _)) (A1 A7 1 [] O (A4 O (fun c=>?_) (fun c=>?_))))))
  ·(try simp only[sd,se] at c);refine BA (A2 (BJ (BC (A5 A7 4 [0] O ?_))));obtain⟨x,hx⟩:=BE (l:=ts) (i:=i) Ax;refine A0 O (BD Bk O O Ax (Bj hx) (BM _)) (A0 O (BU Bg O (BM _)) (A0 O (BL O O (ih x (by have:=Co hx;omega) (Df h2.2.2.2.2.1 hx)) O) (A0 O (Fi O O) (A1 A7 1 [] O (BC (A1 A7 3 [] O ?_))))));refine⟨⟨i+1,max m (En x)⟩,Ac,⟨by omega,by rw[←hC,Cu hx];rfl⟩,Bh ⟨we rfl,we rfl,we rfl,trivial⟩ (leH (is:=[0]) rfl (wl (oe rfl) (DJ)))⟩
  (try simp only[sd,se] at c);refine Bo (A6 (B3 O (A0 O (ES O O) (A1 A7 1 [] O (A9 (⟨O,_,_,⟨_,_,O,O,O⟩,(List.nil_sublist _),?_⟩))))))
  all_goals exact⟨pI (by rw[show En (.mk tk ti tn tl ts)=wr (HJ 0 ts+1) from rfl,←hC,show i=ts.length by omega,List.drop_length];rfl),rfl⟩
theorem Yi:∀(b:Nat) (er nd e:Int),B2 Tryz.prog 141 [.ptr b 0,.p (I e)] [.box b [.p (I er),.p (I nd)]] (Gj (.tup []) [.box b [.p (I (Gn er e)),.p (I nd)]]):=by
 intro b er nd e;refine BF Tryz.func141 O ma (n:=13) O O (A3 A7 5 [0] O (A4 O (fun c=>?_) (fun c=>?_)))
 ·(try simp only[sd,se] at c);refine BC (A1 A7 5 [0,0] O ⟨O,_,_,O,(CC (is:=[0]) O),?_⟩);refine⟨O,?_⟩;show ([.box b [.p (I e),.p (I nd)]]:List BR)=_;simp[Gn,c]
 (try simp only[sd,se] at c);refine BA ⟨O,_,_,O,(CC (is:=[0]) O),?_⟩;refine⟨O,?_⟩;show ([.box b [.p (I er),.p (I nd)]]:List BR)=_;simp[Gn,c]
theorem Qv:∀(b:Nat) (er nd i:Int),B2 Tryz.prog 126 [.ptr b 0,.p (I i)] [.box b [.p (I er),.p (I nd)]] (Gj (.agg ((Bb (Pr i)).map .p)) [.box b [.p (I (Nc er i)),.p (I nd)]]):=by
 intro b er nd i;refine BF Tryz.func126 O nw (n:=11) O O (A6 (BO O (BG B4 O) fun b4=>Bq O (A2 (A3 A7 2 [] O (A4 O (fun c=>?_) (fun c=>?_))))))
 ·(try simp only[sd,se] at c);refine BC (B3 O (A0 O (CF [1] O (.inl ⟨O,O,O⟩) (Yi b er nd 24) ⟨_,_,O,O,O⟩ Aw O (.inl O)) (Bq O (A3 A7 3 [0,0] O (BQ (Bd (i:=0) O) (A9 (⟨O,_,_,⟨_,_,O,(BI (i:=0) Bg O O O),O⟩,(CC (is:=[1]) O),?_⟩)))))));refine⟨O,?_⟩;show ([.box b [.p (I (Gn er 24)),.p (I nd)]]:List BR)=_;simp[Nc,show i > 65535 by omega]
 (try simp only[sd,se] at c);refine BA (A3 A7 3 [0,0] O (BQ (Bd (i:=0) O) (A9 (⟨O,_,_,⟨_,_,O,(BI (i:=0) Bg O O O),O⟩,(CC (is:=[1]) O),?_⟩))));refine⟨O,?_⟩;show ([.box b [.p (I er),.p (I nd)]]:List BR)=_;simp[Nc,show ¬i > 65535 by omega]
theorem _root_.Go.AD {α:Prop}(h:α:=by simp only[Bc,List.length_map,List.length_cons,List.length_nil,List.nil_append,List.length_append];omega):α:=h
theorem Za:∀(n:Nat) (t:Tm) (b:Nat) (by' fr d er nd:Int),(size t≤n)→(Nd t)→(0≤d)→(d+n<2 ^ 62)→B2 Tryz.prog 125 [.ptr b 0,.agg ((Bb t).map .p),.p (I by'),.p (I fr),.p (I d)] [.box b [.p (I er),.p (I nd)]] (Gj (.agg ((Bb ((Cs by' fr d er t).1)).map .p)) [.box b [.p (I ((Cs by' fr d er t).2)),.p (I nd)]]):=by
 intro n
 induction n with
 | zero=>intro t b by' fr d er nd h;cases t;simp[size] at h
 | succ n ih =>
  intro t b by' fr d er nd h1 h2 h3 h4
  obtain⟨tk,ti,tn,tl,ts⟩:=t;simp only[size] at h1;simp only[Nd,Dq] at h2;refine BF Tryz.func125 O m7 (n:=68) O O (A6 (BO O (Ba O) fun b6=>BO O (BG B4 O) fun b10=>Bq O (A2 (A3 A7 3 [1] O (A4 O (fun c=>?_) (fun c=>?_))))))
  ·(try simp only[sd,se] at c);refine A2 (A6 (A5 A7 4 [1] O (A0 O (ES O O) (A1 A7 1 [] O (A4 O (fun c1=>?_) (fun c1=>?_))))))
   ·(try simp only[sd,se] at c1);refine A3 A7 2 [1,0,0] O (A9 (⟨O,_,_,⟨_,_,O,(BI (i:=0) Bg O O O),O⟩,(CC (is:=[2]) O),?_⟩));refine⟨by show (.agg [.p (I tk),.p (I ti),.p (.str tn),.p (.lst (List.map B9 tl)),.p (.lst (BN ts))]:AV)=_;rw[Cs,if_pos c,if_pos c1];rfl,?_⟩;show ([.box b [.p (I er),.p (I nd)]]:List BR)=_;rw[Cs,if_pos c,if_pos c1]
   (try simp only[sd,se] at c1);refine BA (A2 (A6 (A5 A7 3 [1] O (A0 O (ES O O) (A5 A7 2 [] O (A0 O (ES O O) (A1 A7 1 [] O (A4 O (fun c2=>?_) (fun c2=>?_)))))))))
   ·(try simp only[sd,se] at c2);refine A6 (B3 O (A0 O (CF [2] O (.inl ⟨O,O,O⟩) (Yi b er nd 24) ⟨_,_,O,O,O⟩ Aw O (.inl O)) (Bq O (A3 A7 2 [1,0,0] O (A9 (⟨O,_,_,⟨_,_,O,(BI (i:=0) Bg O O O),O⟩,(CC (is:=[2]) O),?_⟩))))));refine⟨by show (.agg [.p (I tk),.p (I ti),.p (.str tn),.p (.lst (List.map B9 tl)),.p (.lst (BN ts))]:AV)=_;rw[Cs,if_pos c,if_neg Ax,if_pos c2];rfl,?_⟩;show ([.box b [.p (I (Gn er 24)),.p (I nd)]]:List BR)=_;rw[Cs,if_pos c,if_neg Ax,if_pos c2]
   (try simp only[sd,se] at c2);refine BA (A6 (A5 A7 4 [1] O (A0 O (ES O O) (A0 O (CF [2] O (.inl ⟨O,O,O⟩) (Qv b er nd (wr ((ti:Int)+(by':Int)))) ⟨_,_,rfl,rfl,rfl⟩ Aw rfl (.inl rfl)) (A1 A7 1 [0,1] O (A9 (⟨O,_,_,⟨_,_,O,(BI (i:=0) Bg O O Ap),O⟩,(CC (is:=[2]) O),?_⟩)))))));refine⟨by show (.agg ((Bb (Pr (wr ((ti:Int)+(by':Int))))).map .p):AV)=_;rw[Cs,if_pos c,if_neg Ax,if_neg Ax],?_⟩;show ([.box b [.p (I (Nc er (wr ((ti:Int)+(by':Int))))),.p (I nd)]]:List BR)=_;rw[Cs,if_pos c,if_neg Ax,if_neg Ax]
  (try simp only[sd,se] at c);refine BA (A3 A7 1 [] O (A2 (A3 A7 1 [] O (BJ (BQ (DS (t:=11) (sz:=5) O) (Bn (α:=Nat×List Tm×Int×Option Nat×Nat) (fun(i,ys,e,o,cp)=>⟨68,mk [(0,.ptr b 0),(2,.p (I by')),(3,.p (I fr)),(4,.p (I d)),(6,.ptr b6 0),(10,.ptr b10 0),(11,.vs o (BN ys).length cp),(12,.p (I (i:Int)))],[.vec o 5 (BN ys) cp,.box b10 [.p (I 0),.p (I 0),.p (.str ⟨#[]⟩),.p (.nils),.p (.nils)],.box b6 [.p (I tk),.p (I ti),.p (.str tn),.p (.lst (List.map B9 tl)),.p (.lst (BN ts))],.box b [.p (I e),.p (I nd)]],[]⟩) (fun(i,ys,e,o,cp)=>ts.length - i) (fun(i,ys,e,o,cp)=>i≤ts.length∧(ys.length=i∧(ys++(DR by' fr tk d i e (ts.drop i)).1,(DR by' fr tk d i e (ts.drop i)).2)=DR by' fr tk d 0 er ts)) ⟨0,[],er,none,0⟩ Ay ?_ ?_))))))
  ·exact Bh ⟨we O,we O,we O,we O,we O,we O,we O,we O,Az⟩ (leH (is:=[0,1,2,3]) O (wl (oe O) (wl (oe O) (wl (oe O) (wl (oe O) (DJ))))))
  rintro⟨i,ys,e,o,cp⟩ hC
  try simp only at hC
  obtain⟨hi,hl,hC⟩:=hC;refine A2 (A6 (A5 A7 3 [2] O (A0 O (BT Bk O (Bc _)) (A1 A7 1 [] O (A4 O (fun c1=>?_) (fun c1=>?_))))))
  ·(try simp only[sd,se] at c1);refine BA (A2 (BJ (B0 (fun k=>Nat.beq k 17) Dt (BZ A7 5 [2] O ?_))));obtain⟨x,hx⟩:=BE (l:=ts) (i:=i) Ax;refine BP O (fun _=>BD Bk O O Ax (Bj hx) (BM _)) Az (BZ A7 7 [2] O (BP O (fun _=>BL O O (UT tk (i:Int)) O) Az (BP O (fun _=>Kr O O (by have:=DF tk i;omega) (by have:=DF tk i;omega)) Az (FH O O (CF [3] O (.inl ⟨O,O,O⟩) (ih x b by' fr ((d:Int)+(below tk (i:Int):Int)) e nd (by have:=Co hx;omega) (Df h2.2.2.2.2.1 hx) (by have:=DF tk i;omega) (by have:=DF tk i;omega)) ⟨_,_,rfl,rfl,rfl⟩ Aw rfl (.inl rfl)) AB trivial ?_))));generalize hz:(Cs by' fr ((d:Int)+(below tk (i:Int):Int)) e x).1=z;obtain⟨zk,zi,zn,zl,zs⟩:=z;refine BP O (fun _=>Br Bk B4 O O O O O) Az (JZ [] O O (CE (i:=0) (rows':=BN [(.mk zk zi zn zl zs:Tm)]) Bk Bk B4 O O O O O O (B1 _) AD (Hk ys [(.mk zk zi zn zl zs:Tm)])) As fun o1 cp1=>⟨AB,Az,?_⟩);refine Bt A7 1 [] O (BC (A1 A7 3 [] O ?_));refine⟨⟨i+1,ys++[(Cs by' fr (d+below tk i) e x).1],(Cs by' fr (d+below tk i) e x).2,o1,cp1⟩,Ac,⟨by omega,⟨by simp[hl],by rw[←hC,Cu hx];simp[DR]⟩⟩,Bh ⟨we rfl,we rfl,we rfl,we rfl,we rfl,we rfl,we (IA (ys++[(.mk zk zi zn zl zs:Tm)]) (by rw[hz])),we rfl,trivial⟩ (leH (is:=[0,1,2,3]) rfl (wl (HR (ys++[(.mk zk zi zn zl zs:Tm)]) (by rw[hz])) (wl (oe rfl) (wl (oe rfl) (wl (oe rfl) (DJ))))))⟩
  (try simp only[sd,se] at c1);refine Bo (A6 (A5 A7 2 [] O (Bx (Cf (i:=0) [11,65] O (Ds ⟨O,O,Az⟩)) (A1 A7 1 [1,0] O (A3 A7 2 [1,0,0] O (A9 (⟨O,_,_,⟨_,_,O,(BI (i:=0) Bg O O O),O⟩,(CC (is:=[2]) O),?_⟩)))))));refine⟨by show (.agg [.p (I tk),.p (I ti),.p (.str tn),.p (.lst (List.map B9 tl)),.p (.lst (BN ys))]:AV)=_;rw[Cs,if_neg c];rw[show i=ts.length by omega,List.drop_length] at hC;rw[←hC];simp[DR];rfl,?_⟩;show ([.box b [.p (I e),.p (I nd)]]:List BR)=_;rw[Cs,if_neg c];rw[show i=ts.length by omega,List.drop_length] at hC;rw[←hC];simp[DR]
theorem j7:∀(n:Nat) (t:Tm) (vs:List Tm) (b:Nat) (d er nd:Int),(size t≤n)→(Nd t)→(Lx vs)→(Bl vs+d+n<2 ^ 62)→(0≤d)→B2 Tryz.prog 94 [.ptr b 0,.agg ((Bb t).map .p),.p (.lst (BN vs)),.p (I d)] [.box b [.p (I er),.p (I nd)]] (Gj (.agg ((Bb ((CR vs d er nd t).1)).map .p)) [.box b [.p (I ((CR vs d er nd t).2.1)),.p (I ((CR vs d er nd t).2.2))]]):=by
 intro n
 induction n with
 | zero=>intro t vs b d er nd h;cases t;simp[size] at h
 | succ n ih =>
  intro t vs b d er nd h1 h2 h3 h4 h5;obtain⟨tk,ti,tn,tl,ts⟩:=t;simp only[size] at h1;simp only[Nd,JB,Dq] at h2;have hvl:=Hn vs;refine BF Tryz.func94 O qY (n:=105) O O (A6 (BO O (Ba O) fun b5=>BO O (BG B4 O) fun b8=>Bq O (A2 (A3 A7 5 [2] O (A4 O (fun c=>?_) (fun c=>?_))))))
  ·(try simp only[sd,se] at c);refine A3 A7 2 [1,0,0] O (A9 (⟨O,_,_,⟨_,_,O,(BI (i:=0) Bg O O O),O⟩,(CC (is:=[2]) O),?_⟩));refine⟨by show (.agg [.p (I tk),.p (I ti),.p (.str tn),.p (.lst (List.map B9 tl)),.p (.lst (BN ts))]:AV)=_;rw[CR,if_pos Ax];rfl,?_⟩;show ([.box b [.p (I er),.p (I nd)]]:List BR)=_;rw[CR,if_pos Ax]
  (try simp only[sd,se] at c);refine BA (A2 (A2 (Be [0,2,3,5,8] 35 (fun y=>y= .p (.bool ((((tk:Int)==(0:Int))&&(decide ((ti:Int)≥(d:Int))))&&(decide (((ti:Int) - (d:Int):Int)<((vs.length:Nat):Int)))))) ?_ ?_)))
  ·refine BC (A5 A7 4 [1] O (BY 21 O (fun g=>?_) (fun g=>?_)))
   ·(try simp only[sd,se] at g);refine A5 A7 6 [1] O (BY 27 O (fun g1=>?_) (fun g1=>?_))
    ·(try simp only[sd,se] at g1);exact A5 A7 5 [1] O (BK O (BT Bk O (Bc _)) (A1 A7 2 [] O (⟨O,O,AP,AJ,⟨O,O,O,O,O,Az⟩⟩)))
    (try simp only[sd,se] at g1);exact A1 A7 8 [] O (⟨O,O,AP,AJ,⟨O,O,O,O,O,Az⟩⟩)
   (try simp only[sd,se] at g);exact A1 A7 14 [] O (⟨O,O,AP,AJ,⟨O,O,O,O,O,Az⟩⟩)
  rintro _ rfl;refine A4 O (fun c1=>?_) (fun c1=>?_)
  ·(try simp only[sd,se] at c1);refine A6 (A5 A7 5 [1] O ?_);obtain⟨x,hx⟩:=BE (l:=vs) (i:=((ti:Int) - (d:Int):Int).toNat) Ax;refine A0 O (BD Bk O O Ax (Bj hx) (BM _)) (A0 O (BU Bg O (BM _)) (BO O (BG B4 O) fun b9=>A1 A7 1 [0,1] O (A2 (B0 (fun k=>false) Dt (BZ A7 5 [3,0] O (BP O (fun _=>BL O O (Mo _ x (Nat.le_refl _) (Df h3 hx)) O) Az (BP O (fun _=>ES O O) Az (Bt A7 3 [3,0] O (A6 (A5 A7 3 [0] O (A0 O (CF [3] O (.inl ⟨O,O,O⟩) (Za _ x b d 0 0 er (wr ((nd:Int)+(E6 x:Int))) (Nat.le_refl _) (Df h3 hx) Ax (by have:=Co hx;omega)) ⟨_,_,O,O,O⟩ Aw O (.inl O)) (A1 A7 1 [1,1] O (A9 (⟨O,_,_,⟨_,_,O,(BI (i:=1) Bg O O Ap),O⟩,(CC (is:=[3]) O),?_⟩))))))))))))));refine⟨by show (.agg ((Bb ((Cs d 0 0 er x).1)).map .p):AV)=_;rw[CR,if_neg Ax,if_pos Ax,Oq hx],?_⟩;show ([.box b [.p (I ((Cs d 0 0 er x).2)),.p (I (wr ((nd:Int)+(E6 x:Int))))]]:List BR)=_;rw[CR,if_neg Ax,if_pos Ax,Oq hx]
  (try simp only[sd,se] at c1);refine BA (A6 (A5 A7 4 [2] O (A0 O (ES O O) (A1 A7 3 [2,0] O (A2 (A3 A7 3 [1] O (A4 O (fun c2=>?_) (fun c2=>?_))))))))
  ·(try simp only[sd,se] at c2);refine A2 (A3 A7 4 [1] O (A4 O (fun c3=>?_) (fun c3=>?_)))
   ·(try simp only[sd,se] at c3);refine A6 (A5 A7 4 [1] O (A0 O (BT Bk O (Bc _)) (A0 O (JW O O) (A0 O (CF [2] O (.inl ⟨O,O,O⟩) (Qv b er (wr ((nd:Int)+(1:Int))) (wr ((ti:Int) - ((vs.length:Nat):Int)))) ⟨_,_,O,O,O⟩ Aw O (.inl O)) (A1 A7 1 [0,1] O (A9 (⟨O,_,_,⟨_,_,O,(BI (i:=0) Bg O O Ap),O⟩,(CC (is:=[2]) O),?_⟩)))))));refine⟨by show (.agg ((Bb (Pr (wr ((ti:Int) - ((vs.length:Nat):Int))))).map .p):AV)=_;rw[CR,if_neg Ax,if_neg Ax,if_pos Ax,if_pos Ax],?_⟩;show ([.box b [.p (I (Nc er (wr ((ti:Int) - ((vs.length:Nat):Int))))),.p (I (wr ((nd:Int)+(1:Int))))]]:List BR)=_;rw[CR,if_neg Ax,if_neg Ax,if_pos Ax,if_pos Ax]
   (try simp only[sd,se] at c3);refine BA (A3 A7 2 [1,0,0] O (A9 (⟨O,_,_,⟨_,_,O,(BI (i:=0) Bg O O O),O⟩,(CC (is:=[2]) O),?_⟩)));refine⟨by show (.agg [.p (I tk),.p (I ti),.p (.str tn),.p (.lst (List.map B9 tl)),.p (.lst (BN ts))]:AV)=_;rw[CR,if_neg Ax,if_neg Ax,if_pos Ax,if_neg Ax];rfl,?_⟩;show ([.box b [.p (I er),.p (I (wr ((nd:Int)+(1:Int))))]]:List BR)=_;rw[CR,if_neg Ax,if_neg Ax,if_pos Ax,if_neg Ax]
  (try simp only[sd,se] at c2);refine BA (A3 A7 1 [] O (A2 (A3 A7 1 [] O (BJ (BQ (DS (t:=10) (sz:=5) O) (Bn (α:=Nat×List Tm×Int×Int×Option Nat×Nat) (fun(i,ys,e,m,o,cp)=>⟨105,mk [(0,.ptr b 0),(2,.p (.lst (BN vs))),(3,.p (I d)),(5,.ptr b5 0),(8,.ptr b8 0),(10,.vs o (BN ys).length cp),(11,.p (I (i:Int)))],[.vec o 5 (BN ys) cp,.box b8 [.p (I 0),.p (I 0),.p (.str ⟨#[]⟩),.p (.nils),.p (.nils)],.box b5 [.p (I tk),.p (I ti),.p (.str tn),.p (.lst (List.map B9 tl)),.p (.lst (BN ts))],.box b [.p (I e),.p (I m)]],[]⟩) (fun(i,ys,e,m,o,cp)=>ts.length - i) (fun(i,ys,e,m,o,cp)=>i≤ts.length∧(ys.length=i∧(ys++(Cp vs tk d i e m (ts.drop i)).1,(Cp vs tk d i e m (ts.drop i)).2)=Cp vs tk d 0 er (wr (nd+1)) ts)) ⟨0,[],er,wr (nd+1),none,0⟩ Ay ?_ ?_))))))
  ·exact Bh ⟨we O,we O,we O,we O,we O,we O,we O,Az⟩ (leH (is:=[0,1,2,3]) O (wl (oe O) (wl (oe O) (wl (oe O) (wl (oe O) (DJ))))))
  rintro⟨i,ys,e,m,o,cp⟩ hC
  try simp only at hC
  obtain⟨hi,hl,hC⟩:=hC;refine A2 (A6 (A5 A7 3 [2] O (A0 O (BT Bk O (Bc _)) (A1 A7 1 [] O (A4 O (fun c3=>?_) (fun c3=>?_))))))
  ·(try simp only[sd,se] at c3);refine BA (A2 (BJ (B0 (fun k=>Nat.beq k 16) Dt (BZ A7 5 [2] O ?_))));obtain⟨x,hx⟩:=BE (l:=ts) (i:=i) Ax;refine BP O (fun _=>BD Bk O O Ax (Bj hx) (BM _)) Az (BZ A7 6 [2] O (BP O (fun _=>BL O O (UT tk (i:Int)) O) Az (BP O (fun _=>Kr O O (by have:=DF tk i;omega) (by have:=DF tk i;omega)) Az (FH O O (CF [3] O (.inl ⟨O,O,O⟩) (ih x vs b ((d:Int)+(below tk (i:Int):Int)) e m (by have:=Co hx;omega) (Df h2.2.2.2.2.1 hx) h3 (by have:=DF tk i;omega) (by have:=DF tk i;omega)) ⟨_,_,O,O,O⟩ Aw O (.inl O)) AB Az ?_))));generalize hz:(CR vs ((d:Int)+(below tk (i:Int):Int)) e m x).1=z;obtain⟨zk,zi,zn,zl,zs⟩:=z;refine BP O (fun _=>Br Bk B4 O O O O O) Az (JZ [] O O (CE (i:=0) (rows':=BN [(.mk zk zi zn zl zs:Tm)]) Bk Bk B4 O O O O O O (B1 _) AD (Hk ys [(.mk zk zi zn zl zs:Tm)])) As fun o1 cp1=>⟨AB,Az,?_⟩);refine Bt A7 1 [] O (BC (A1 A7 3 [] O ?_));refine⟨⟨i+1,ys++[(CR vs (d+below tk i) e m x).1],(CR vs (d+below tk i) e m x).2.1,(CR vs (d+below tk i) e m x).2.2,o1,cp1⟩,Ac,⟨by omega,⟨by simp[hl],by rw[←hC,Cu hx];simp[Cp]⟩⟩,Bh ⟨we rfl,we rfl,we rfl,we rfl,we rfl,we (IA (ys++[(.mk zk zi zn zl zs:Tm)]) (by rw[hz])),we rfl,trivial⟩ (leH (is:=[0,1,2,3]) rfl (wl (HR (ys++[(.mk zk zi zn zl zs:Tm)]) (by rw[hz])) (wl (oe rfl) (wl (oe rfl) (wl (oe rfl) (DJ))))))⟩
  (try simp only[sd,se] at c3);refine Bo (A6 (A5 A7 2 [] O (Bx (Cf (i:=0) [10,102] O (Ds ⟨O,O,Az⟩)) (A1 A7 1 [1,0] O (A3 A7 2 [1,0,0] O (A9 (⟨O,_,_,⟨_,_,O,(BI (i:=0) Bg O O O),O⟩,(CC (is:=[2]) O),?_⟩)))))));refine⟨by show (.agg [.p (I tk),.p (I ti),.p (.str tn),.p (.lst (List.map B9 tl)),.p (.lst (BN ys))]:AV)=_;rw[CR,if_neg Ax,if_neg Ax,if_neg Ax];rw[show i=ts.length by omega,List.drop_length] at hC;rw[←hC];simp[Cp];rfl,?_⟩;show ([.box b [.p (I e),.p (I m)]]:List BR)=_;rw[CR,if_neg Ax,if_neg Ax,if_neg Ax];rw[show i=ts.length by omega,List.drop_length] at hC;rw[←hC];simp[Cp]
theorem ck:∀(t:Tm) (vs:List Tm) (d:Int),(size t<2 ^ 60)→(Nd t)→(Lx vs)→(Bl vs<2 ^ 60)→(0≤d)→Ep Tryz.prog 59 [.agg ((Bb t).map .p),.p (.lst (BN vs)),.p (I d)] (.tup [.agg ((Bb ((CT t vs d).1)).map .p),.p (I ((CT t vs d).2))]):=by
 intro t vs d h1 h2 h3 h4 h5;generalize hr:CR vs (min d 65536) 0 0 t=r;refine BF Tryz.func59 O sH (n:=42) O O (A6 (BO O (Ba O) fun b3=>BO O (BG B4 O) fun b6=>A1 A7 1 [] O (A2 (A3 A7 2 [] O (A4 O (fun c=>?_) (fun c=>?_))))))
 ·(try simp only[sd,se] at c);exact A3 A7 3 [0,0] O (BQ (Bd (i:=0) O) (A9 (absurd c Ax)))
 (try simp only[sd,se] at c);refine BA (A6 (A0 O (Ca gN eO O) (BO O (Ba O) fun b14=>A1 A7 1 [] O (A6 (A5 A7 4 [2] O (A0 O (Zj O O) (A0 O (CF [0] O (.inl ⟨O,O,O⟩) (j7 _ t vs b14 (min (d:Int) (65536:Int)) 0 0 (Nat.le_refl _) h2 h3 Ax Ax) ⟨_,_,O,O,O⟩ Aw O (.inl O)) (BO O (BG B4 O) fun b9=>A1 A7 1 [0,1] O (A2 (A3 A7 5 [1] O (A4 O (fun c1=>?_) (fun c1=>?_))))))))))))
 ·(try simp only[sd,se] at c1);refine A3 A7 3 [2,0] O (BQ (Bd (i:=2) O) (A9 (⟨O,_,_,⟨_,_,O,(BI (i:=2) Bg O O O),⟨_,_,O,O,O⟩⟩,(List.nil_sublist _),?_⟩)));unfold CT;rw[if_pos (by simpa using c1)]
  all_goals exact⟨rfl,rfl⟩
 (try simp only[sd,se] at c1);refine BA (A2 (A3 A7 5 [1] O (A4 O (fun c2=>?_) (fun c2=>?_))))
 ·(try simp only[sd,se] at c2);refine A2 (B0 (fun k=>false) Dt (Bt A7 7 [1,2,0] O (BQ (Bd (i:=2) O) (A9 (⟨O,_,_,⟨_,_,O,(BI (i:=2) Bg O O O),⟨_,_,O,O,O⟩⟩,(List.nil_sublist _),?_⟩)))));unfold CT;rw[if_neg Ax,if_pos c2]
  all_goals exact⟨rfl,rfl⟩
 (try simp only[sd,se] at c2);refine BA (A2 (A6 (A0 O (Bf (i:=0) Bg O O Ap) (A0 O (BL O O (Om _ ((CR vs (min (d:Int) (65536:Int)) 0 0 t).1) (Nat.le_refl _) (Ph t vs _ _ _ h2 h3)) O) (A1 A7 1 [] O (A4 O (fun c3=>?_) (fun c3=>?_)))))))
 ·(try simp only[sd,se] at c3);refine A3 A7 3 [2,0] O (BQ (Bd (i:=2) O) (A9 (⟨O,_,_,⟨_,_,O,(BI (i:=2) Bg O O O),⟨_,_,O,O,O⟩⟩,(List.nil_sublist _),?_⟩)));unfold CT;rw[if_neg Ax,if_neg (by simpa using c2),if_pos c3]
  all_goals exact⟨rfl,rfl⟩
 (try simp only[sd,se] at c3);refine BA (A3 A7 3 [0,2,1] O (A9 (⟨O,_,_,⟨_,_,O,(BI (i:=2) Bg O O Ap),⟨_,_,O,O,O⟩⟩,(List.nil_sublist _),?_⟩)));unfold CT;rw[if_neg Ax,if_neg (by simpa using c2),if_neg Ax]
 all_goals exact⟨rfl,rfl⟩
theorem Kg:∀(t:Tm) (vs:List Tm),(size t<2 ^ 60)→(Nd t)→(Lx vs)→(Bl vs<2 ^ 60)→Ep Tryz.prog 23 [.agg ((Bb t).map .p),.p (.lst (BN vs))] (.tup [.agg ((Bb ((CT t vs 0).1)).map .p),.p (I ((CT t vs 0).2))]):=by
 intro t vs h1 h2 h3 h4;refine BF Tryz.func23 O rV (n:=11) O O (A6 (BO O (Ba O) fun b2=>BO O (BG B4 O) fun b4=>A1 A7 1 [] O (A6 (A5 A7 2 [1] O (A0 O (BL O O (ck t vs 0 h1 h2 h3 h4 Ax) O) (A1 A7 4 [0,1] O (A9 (⟨O,_,_,⟨_,_,O,(BI (i:=0) Bg O O Ap),⟨_,_,O,O,O⟩⟩,(List.nil_sublist _),?_⟩))))))))
 all_goals exact⟨rfl,rfl⟩
theorem gy:∀(b:Nat) (c:EK) (t:Tm) (e:Int),(Nd t)→B2 Tryz.prog 78 [.ptr b 0,.agg ((Bb t).map .p),.p (I e)] [.box b ((He c).map .p)] (Gj (.tup []) [.box b ((He (c.form t e)).map .p)]):=by
 intro b c t e h1;refine BF Tryz.func78 O s3 (n:=65) O O (A6 (BO O (Ba O) fun b4=>Bq O (A2 (B0 (fun k=>false) Dt (BZ A7 5 [1,0] O (BP O (fun _=>BL O O (Mo _ t (Nat.le_refl _) h1) O) Az (BP O (fun _=>ES O O) Az (Bt A7 3 [1,0] O (A2 (Be [0] 61 (fun y=>y= .p (.bool (((((((e:Int) !=(0:Int))||(decide ((c.steps:Int) > (c.limit:Int))))||(decide ((c.nodes:Int) > (wr ((2:Int)*(c.limit:Int)):Int))))||(decide ((wr ((c.forms:Int)+(E6 t:Int)):Int) > (wr ((40:Int)*(c.limit:Int)):Int))))||(decide ((E6 t:Int) > (2000:Int))))||(decide ((En t:Int) > (95:Int)))))) ?_ ?_))))))))))
 ·refine B0 (fun k=>false) Dt (BZ A7 3 [] O (D9 17 O (fun g=>?_) (fun g=>?_)))
  ·(try simp only[sd,se] at g);exact Bt A7 44 [] O (⟨O,O,AP,AJ,⟨O,Az⟩⟩)
  (try simp only[sd,se] at g);refine BZ A7 11 [1,1] O (D9 28 O (fun g1=>?_) (fun g1=>?_))
  ·(try simp only[sd,se] at g1);exact Bt A7 33 [] O (⟨O,O,AP,AJ,⟨O,Az⟩⟩)
  (try simp only[sd,se] at g1);refine BZ A7 8 [1,1] O (Cm O (fun _=>XF O O) Az (BZ A7 3 [] O (D9 40 O (fun g2=>?_) (fun g2=>?_))))
  ·(try simp only[sd,se] at g2);exact Bt A7 21 [] O (⟨O,O,AP,AJ,⟨O,Az⟩⟩)
  (try simp only[sd,se] at g2);refine BZ A7 8 [1,1] O (Cm O (fun _=>XF O O) Az (BZ A7 3 [] O (D9 52 O (fun g3=>?_) (fun g3=>?_))))
  ·(try simp only[sd,se] at g3);exact Bt A7 9 [] O (⟨O,O,AP,AJ,⟨O,Az⟩⟩)
  (try simp only[sd,se] at g3);refine BZ A7 1 [0] O (Cm O (fun _=>BL O O (Mo _ t (Nat.le_refl _) h1) O) Az (BZ A7 3 [] O (D9 57 O (fun g4=>?_) (fun g4=>?_))))
  ·(try simp only[sd,se] at g4);exact Bt A7 4 [] O (⟨O,O,AP,AJ,⟨O,Az⟩⟩)
  (try simp only[sd,se] at g4);exact BZ A7 1 [0] O (Cm O (fun _=>BL O O (Om _ t (Nat.le_refl _) h1) O) Az (Bt A7 2 [] O (⟨O,O,AP,AJ,⟨O,Az⟩⟩)))
 rintro _ rfl;refine A4 O (fun c1=>?_) (fun c1=>?_)
 ·have c1R:=c1;(try simp only[sd,se] at c1);refine BC (A1 A7 4 [1,0] O ⟨O,_,_,O,(CC (is:=[1]) O),?_⟩);refine⟨O,?_⟩;show ([.box b [.p (I c.steps),.p (I c.nodes),.p (I (wr ((c.forms:Int)+(E6 t:Int)))),.p (I c.limit),.p (.bool true)]]:List BR)=_;simp only[EK.form,He,List.map_cons,List.map_nil];rw[c1R];simp
 have c1R:=c1;(try simp only[sd,se] at c1);refine BA ⟨O,_,_,O,(CC (is:=[1]) O),?_⟩;refine⟨O,?_⟩;show ([.box b [.p (I c.steps),.p (I c.nodes),.p (I (wr ((c.forms:Int)+(E6 t:Int)))),.p (I c.limit),.p (.bool c.over)]]:List BR)=_;simp only[EK.form,He,List.map_cons,List.map_nil];rw[c1R];simp
theorem jN:∀{σ:Type}(st:σ→Int→Tm→σ×Bool) (Inv:Nat→σ→Prop) (HP:Bool→σ→List BR→Prop) (l b2 b3 b4:Nat) (hI:∀m s d t,Inv (m+1) s→Inv m (st s d t).1) (hy:∀m s d t T,Nd t→Inv (m+1) s→HP true s T→MB Tryz.prog l [.p (I d),TV t] T (V7 (.p (.bool (st s d t).2)) (HP (st s d t).2 (st s d t).1))) (n:Nat) (t:Tm) (d:Int) (s:σ) (T0:List BR) (m:Nat),size t≤n→Nd t→0≤d→d+n<4611686018427387904→Inv (m+size t) s→HP true s T0→B2 Tryz.prog 114 [TV t,.p (I d),.ptr b2 0,.ptr b3 0,.ptr b4 0] (.box b2 [.fn (.yield l) [] []]:: .box b3 Pv:: .box b4 [.fn (.func 114) [] [.ptr b2 0,.ptr b3 0,.ptr b4 0]]::T0) (V7 (.p (.bool (Et st t d s).2)) (fun H=>∃T,HP (Et st t d s).2 (Et st t d s).1 T∧H= .box b2 [.fn (.yield l) [] []]:: .box b3 Pv:: .box b4 [.fn (.func 114) [] [.ptr b2 0,.ptr b3 0,.ptr b4 0]]::T)):=by
 intro σ st Inv HP l b2 b3 b4 hI hy n
 induction n with
 | zero=>intro t d s T0 m h;cases t;simp[size] at h
 | succ n ih =>
  intro t d s T0 m h1 h2 h3 h4 h5 h6;obtain⟨tk,ti,tn,tl,ts⟩:=t;have h2':=h2;simp only[size] at h1 h5;simp only[Nd,JB,Dq] at h2;refine BF Tryz.func114 O oM (n:=50) O O (A6 (BO O (Ba O) fun b5=>A1 A7 1 [] O (A2 (A6 (A5 A7 3 [1,0] O (JP [_,_,_,_] O O O O (hy (m+Bl ts) _ _ _ _ h2' (by rw[Nat.add_assoc,Nat.add_comm (Bl ts)];exact h5) h6) O ?_ (fun _ _ h=>h.elim)))))));rintro _ T ⟨rfl,hT⟩;refine A1 A7 1 [] O (A4 O (fun c=>?_) (fun c=>?_))
  ·(try simp only[sd,se] at c);refine A3 A7 1 [] O (A9 (⟨O,_,_,⟨_,_,O,O,O⟩,(G2 [1,2,3] [_,_,_,_] O),?_⟩));rw[WU c];rw[c] at hT;exact⟨O,_,hT,O⟩
  (try simp only[sd,se] at c);rw[c] at hT;refine BA (A3 A7 1 [] O (A2 (A2 (Be [1,3,4,5,8] 24 (fun y=>y= .p (.bool ((decide ((tk:Int)≥(0:Int)))&&(decide ((tk:Int)<(13:Int)))))) ?_ ?_))))
  ·refine BC (A5 A7 4 [0] O (BY 20 O (fun g=>?_) (fun g=>?_)))
   ·(try simp only[sd,se] at g);exact A1 A7 4 [0] O (⟨O,O,AP,AJ,⟨O,O,O,O,O,Az⟩⟩)
   (try simp only[sd,se] at g);exact A1 A7 4 [] O (⟨O,O,AP,AJ,⟨O,O,O,O,O,Az⟩⟩)
  rintro _ rfl;refine A4 O (fun c1=>?_) (fun c1=>?_)
  ·(try simp only[sd,se] at c1);refine BC (A5 A7 2 [0] O (A0 O (Rl kP kV O O Ax Ax) (A0 O (A8 mn O O) (A0 O (CG (i:=2) DO O O (dY Ax)) (A1 A7 1 [] O (A2 (A6 (A5 A7 2 [0] O (A0 O (BT Bk O (Bc _)) (A1 A7 1 [] O (BJ ?_)))))))))));refine Bn (α:=Nat×σ×List BR) (fun(i,q,U)=>⟨50,mk [(1,.p (I d)),(4,.ptr b4 0),(8,.p (I (Jq tk))),(31,.p (.lst (BN ts))),(32,.p (I (ts.length:Nat))),(33,.p (I (i:Int)))],(.box b2 [.fn (.yield l) [] []]:: .box b3 Pv:: .box b4 [.fn (.func 114) [] [.ptr b2 0,.ptr b3 0,.ptr b4 0]]::U),[]⟩) (fun(i,q,U)=>ts.length - i) (fun(i,q,U)=>i≤ts.length∧(Ev st tk d i q (ts.drop i)=Ev st tk d 0 (st s d (.mk tk ti tn tl ts)).1 ts∧Inv (m+Bl (ts.drop i)) q∧HP true q U)) ⟨0,(st s d (.mk tk ti tn tl ts)).1,T⟩ (⟨by omega,by simp,by simpa using hI _ _ _ _ (by rw[Nat.add_assoc,Nat.add_comm (Bl ts)];exact h5),by assumption⟩) ?_ ?_
   ·exact Bh ⟨we O,we O,we O,we O,we O,we O,Az⟩ (Zx [1,2,3] [_,_,_,_] (l':=[_,_,_]) O (wl (oe O) (wl (oe O) (wl (oe O) (DJ)))))
   rintro⟨i,q,U⟩ hC
   try simp only at hC
   obtain⟨hi,hC,hJ,hK⟩:=hC;refine A3 A7 1 [] O (A2 (A4 O (fun c2=>?_) (fun c2=>?_)))
   ·(try simp only[sd,se] at c2);refine BA (A2 (BJ (A6 (B3 O ?_))));obtain⟨x,hx⟩:=BE (l:=ts) (i:=i) Ax;refine A0 O (BD Bk O O Ax (Bj hx) (BM _)) (A0 O (BU Bg O (BM _)) (BO O (BG B4 O) fun b10=>A1 A7 2 [0,1] O (A3 A7 2 [] O (A2 (A3 A7 3 [] O (A4 O (fun c3=>?_) (fun c3=>?_)))))))
    ·(try simp only[sd,se] at c3);refine BC (A1 A7 3 [] O (BQ (Cj (t:=11) (x:= .p (I (d+below tk i))) (pI (by have:=WG (k:=tk) (i:=i) Ax Ax;omega))) (A6 (A5 A7 3 [3,0] O (IZ [_] O O O (.inr O) (ih x (d+below tk i) q _ (m+Bl (ts.drop (i+1))) (by have:=Co hx;omega) (Df h2.2.2.2.2.1 hx) (by have:=DF tk i;omega) (by have:=DF tk i;omega) (by rw[Cu hx,Bl] at hJ;rw[Nat.add_assoc,Nat.add_comm (Bl _)];exact hJ) hK) (aw (we O) (aw (we O) (aw (we O) (aw (we O) (aw (we O) (FM)))))) ?_ (fun _ _ h=>h.elim))))));rintro _ _ ⟨rfl,T1,hT1,rfl⟩;refine A1 A7 1 [] O (A4 O (fun c4=>?_) (fun c4=>?_))
     ·(try simp only[sd,se] at c4);refine A3 A7 1 [] O (A9 (⟨O,_,_,⟨_,_,O,O,O⟩,(G2 [1,2,3] [_,_,_,_] O),?_⟩));rw[H7 Au,←hC,JI hx c4];rw[c4] at hT1;exact⟨O,_,hT1,O⟩
     (try simp only[sd,se] at c4);rw[c4] at hT1;refine BA (BC (A1 A7 2 [] O ?_));refine⟨⟨i+1,(Et st x (d+below tk i) q).1,T1⟩,Ac,⟨by omega,⟨by rw[←hC];exact(Kn hx Au).symm,by rw[Cu hx,Bl] at hJ;exact Ja hI x _ _ _ (by rw[Nat.add_assoc,Nat.add_comm (Bl _)];exact hJ) Au,by assumption⟩⟩,Bh ⟨we rfl,we rfl,we rfl,we rfl,we rfl,we rfl,trivial⟩ (Zx [1,2,3] [_,_,_,_] (l':=[_,_,_]) rfl (wl (oe rfl) (wl (oe rfl) (wl (oe rfl) (DJ)))))⟩
    (try simp only[sd,se] at c3);refine BA (BQ (Cj (t:=11) (x:= .p (I (d+below tk i))) (pI (by have:=S6 (k:=tk) (i:=i) Ax;omega))) (A6 (A5 A7 3 [3,0] O (IZ [_] O O O (.inr O) (ih x (d+below tk i) q _ (m+Bl (ts.drop (i+1))) (by have:=Co hx;omega) (Df h2.2.2.2.2.1 hx) (by have:=DF tk i;omega) (by have:=DF tk i;omega) (by rw[Cu hx,Bl] at hJ;rw[Nat.add_assoc,Nat.add_comm (Bl _)];exact hJ) hK) (aw (we O) (aw (we O) (aw (we O) (aw (we O) (aw (we O) (FM)))))) ?_ (fun _ _ h=>h.elim)))));rintro _ _ ⟨rfl,T1,hT1,rfl⟩;refine A1 A7 1 [] O (A4 O (fun c4=>?_) (fun c4=>?_))
    ·(try simp only[sd,se] at c4);refine A3 A7 1 [] O (A9 (⟨O,_,_,⟨_,_,O,O,O⟩,(G2 [1,2,3] [_,_,_,_] O),?_⟩));rw[H7 Au,←hC,JI hx c4];rw[c4] at hT1;exact⟨O,_,hT1,O⟩
    (try simp only[sd,se] at c4);rw[c4] at hT1;refine BA (BC (A1 A7 2 [] O ?_));refine⟨⟨i+1,(Et st x (d+below tk i) q).1,T1⟩,Ac,⟨by omega,⟨by rw[←hC];exact(Kn hx Au).symm,by rw[Cu hx,Bl] at hJ;exact Ja hI x _ _ _ (by rw[Nat.add_assoc,Nat.add_comm (Bl _)];exact hJ) Au,by assumption⟩⟩,Bh ⟨we rfl,we rfl,we rfl,we rfl,we rfl,we rfl,trivial⟩ (Zx [1,2,3] [_,_,_,_] (l':=[_,_,_]) rfl (wl (oe rfl) (wl (oe rfl) (wl (oe rfl) (DJ)))))⟩
   (try simp only[sd,se] at c2);refine Bo (A3 A7 1 [] O (A9 (⟨O,_,_,⟨_,_,O,O,O⟩,(G2 [0,1,2] [_,_,_] O),?_⟩)));rw[H7 Au,←hC,show i=ts.length by omega,List.drop_length];exact⟨O,_,hK,O⟩
  (try simp only[sd,se] at c1);have hbx:=Vs (k:=tk) Ax;refine BA (A2 (A6 (A5 A7 2 [0] O (A0 O (BT Bk O (Bc _)) (A1 A7 1 [] O (BJ ?_))))));refine Bn (α:=Nat×σ×List BR) (fun(i,q,U)=>⟨50,mk [(1,.p (I d)),(4,.ptr b4 0),(8,.p (I (-1))),(31,.p (.lst (BN ts))),(32,.p (I (ts.length:Nat))),(33,.p (I (i:Int)))],(.box b2 [.fn (.yield l) [] []]:: .box b3 Pv:: .box b4 [.fn (.func 114) [] [.ptr b2 0,.ptr b3 0,.ptr b4 0]]::U),[]⟩) (fun(i,q,U)=>ts.length - i) (fun(i,q,U)=>i≤ts.length∧(Ev st tk d i q (ts.drop i)=Ev st tk d 0 (st s d (.mk tk ti tn tl ts)).1 ts∧Inv (m+Bl (ts.drop i)) q∧HP true q U)) ⟨0,(st s d (.mk tk ti tn tl ts)).1,T⟩ (⟨by omega,by simp,by simpa using hI _ _ _ _ (by rw[Nat.add_assoc,Nat.add_comm (Bl ts)];exact h5),by assumption⟩) ?_ ?_
  ·exact Bh ⟨we O,we O,we O,we O,we O,we O,Az⟩ (Zx [1,2,3] [_,_,_,_] (l':=[_,_,_]) O (wl (oe O) (wl (oe O) (wl (oe O) (DJ)))))
  rintro⟨i,q,U⟩ hC
  try simp only at hC
  obtain⟨hi,hC,hJ,hK⟩:=hC;refine A3 A7 1 [] O (A2 (A4 O (fun c2=>?_) (fun c2=>?_)))
  ·(try simp only[sd,se] at c2);refine BA (A2 (BJ (A6 (B3 O ?_))));obtain⟨x,hx⟩:=BE (l:=ts) (i:=i) Ax;refine A0 O (BD Bk O O Ax (Bj hx) (BM _)) (A0 O (BU Bg O (BM _)) (BO O (BG B4 O) fun b10=>A1 A7 2 [0,1] O (A3 A7 2 [] O (A2 (A3 A7 3 [] O (A4 O (fun c3=>?_) (fun c3=>?_)))))))
   ·(try simp only[sd,se] at c3);refine BC (A1 A7 3 [] O (BQ (Cj (t:=11) (x:= .p (I (d+below tk i))) (pI (by have:=WG (k:=tk) (i:=i) Ax Ax;omega))) (A6 (A5 A7 3 [3,0] O (IZ [_] O O O (.inr O) (ih x (d+below tk i) q _ (m+Bl (ts.drop (i+1))) (by have:=Co hx;omega) (Df h2.2.2.2.2.1 hx) (by have:=DF tk i;omega) (by have:=DF tk i;omega) (by rw[Cu hx,Bl] at hJ;rw[Nat.add_assoc,Nat.add_comm (Bl _)];exact hJ) hK) (aw (we O) (aw (we O) (aw (we O) (aw (we O) (aw (we O) (FM)))))) ?_ (fun _ _ h=>h.elim))))));rintro _ _ ⟨rfl,T1,hT1,rfl⟩;refine A1 A7 1 [] O (A4 O (fun c4=>?_) (fun c4=>?_))
    ·(try simp only[sd,se] at c4);refine A3 A7 1 [] O (A9 (⟨O,_,_,⟨_,_,O,O,O⟩,(G2 [1,2,3] [_,_,_,_] O),?_⟩));rw[H7 Au,←hC,JI hx c4];rw[c4] at hT1;exact⟨O,_,hT1,O⟩
    (try simp only[sd,se] at c4);rw[c4] at hT1;refine BA (BC (A1 A7 2 [] O ?_));refine⟨⟨i+1,(Et st x (d+below tk i) q).1,T1⟩,Ac,⟨by omega,⟨by rw[←hC];exact(Kn hx Au).symm,by rw[Cu hx,Bl] at hJ;exact Ja hI x _ _ _ (by rw[Nat.add_assoc,Nat.add_comm (Bl _)];exact hJ) Au,by assumption⟩⟩,Bh ⟨we rfl,we rfl,we rfl,we rfl,we rfl,we rfl,trivial⟩ (Zx [1,2,3] [_,_,_,_] (l':=[_,_,_]) rfl (wl (oe rfl) (wl (oe rfl) (wl (oe rfl) (DJ)))))⟩
   (try simp only[sd,se] at c3);refine BA (BQ (Cj (t:=11) (x:= .p (I (d+below tk i))) (pI (by have:=S6 (k:=tk) (i:=i) Ax;omega))) (A6 (A5 A7 3 [3,0] O (IZ [_] O O O (.inr O) (ih x (d+below tk i) q _ (m+Bl (ts.drop (i+1))) (by have:=Co hx;omega) (Df h2.2.2.2.2.1 hx) (by have:=DF tk i;omega) (by have:=DF tk i;omega) (by rw[Cu hx,Bl] at hJ;rw[Nat.add_assoc,Nat.add_comm (Bl _)];exact hJ) hK) (aw (we O) (aw (we O) (aw (we O) (aw (we O) (aw (we O) (FM)))))) ?_ (fun _ _ h=>h.elim)))));rintro _ _ ⟨rfl,T1,hT1,rfl⟩;refine A1 A7 1 [] O (A4 O (fun c4=>?_) (fun c4=>?_))
   ·(try simp only[sd,se] at c4);refine A3 A7 1 [] O (A9 (⟨O,_,_,⟨_,_,O,O,O⟩,(G2 [1,2,3] [_,_,_,_] O),?_⟩));rw[H7 Au,←hC,JI hx c4];rw[c4] at hT1;exact⟨O,_,hT1,O⟩
   (try simp only[sd,se] at c4);rw[c4] at hT1;refine BA (BC (A1 A7 2 [] O ?_));refine⟨⟨i+1,(Et st x (d+below tk i) q).1,T1⟩,Ac,⟨by omega,⟨by rw[←hC];exact(Kn hx Au).symm,by rw[Cu hx,Bl] at hJ;exact Ja hI x _ _ _ (by rw[Nat.add_assoc,Nat.add_comm (Bl _)];exact hJ) Au,by assumption⟩⟩,Bh ⟨we rfl,we rfl,we rfl,we rfl,we rfl,we rfl,trivial⟩ (Zx [1,2,3] [_,_,_,_] (l':=[_,_,_]) rfl (wl (oe rfl) (wl (oe rfl) (wl (oe rfl) (DJ)))))⟩
  (try simp only[sd,se] at c2);refine Bo (A3 A7 1 [] O (A9 (⟨O,_,_,⟨_,_,O,O,O⟩,(G2 [0,1,2] [_,_,_] O),?_⟩)));rw[H7 Au,←hC,show i=ts.length by omega,List.drop_length];exact⟨O,_,hK,O⟩
theorem kx:Ep Tryz.prog 113 [] (.agg Pv):=by
 refine BF Tryz.func113 O ox (n:=15) O O (A6 (BO O (BG fP O) fun b0=>Bq O (A6 (A5 A7 13 [] O (A0 O (Ef kP kV fP O) (A1 A7 1 [0,0] O (A9 (⟨O,_,_,⟨_,_,O,(BI (i:=0) nM O O O),O⟩,(List.nil_sublist _),?_⟩))))))))
 all_goals exact⟨rfl,rfl⟩
theorem dQ:∀(t:Tm),B2 Tryz.prog 82 [.agg ((Bb t).map .p)] [] (fun r H'=>∃b,r= .val (.fn (.func 112) [] [.ptr b 0])∧H'=[.box b ((Bb t).map .p)]):=by
 intro t;refine BF Tryz.func82 O qb (n:=4) O O (A6 (BO O (Ba O) fun b1=>A1 A7 1 [] O (A3 A7 2 [] O (A9 (⟨O,_,_,⟨_,_,O,O,O⟩,(CC (is:=[0]) O),?_⟩)))));exact⟨_,O,O⟩
theorem ca:∀{σ:Type}(st:σ→Int→Tm→σ×Bool) (Inv:Nat→σ→Prop) (HP:Bool→σ→List BR→Prop) (l b1:Nat) (hI:∀m s d t,Inv (m+1) s→Inv m (st s d t).1) (hy:∀m s d t T,Nd t→Inv (m+1) s→HP true s T→MB Tryz.prog l [.p (I d),TV t] T (V7 (.p (.bool (st s d t).2)) (HP (st s d t).2 (st s d t).1))) (t:Tm) (s:σ) (T0:List BR) (m:Nat),Nd t→size t<4611686018427387904→Inv (m+size t) s→HP true s T0→B2 Tryz.prog 112 [.fn (.yield l) [] [],.ptr b1 0] (.box b1 ((Bb t).map .p)::T0) (V7 (.tup []) (fun H=>∃T,HP (Et st t 0 s).2 (Et st t 0 s).1 T∧H= .box b1 ((Bb t).map .p)::T)):=by
 intro σ st Inv HP l b1 hI hy t s T0 m h1 h2 h3 h4;refine BF Tryz.func112 O og (n:=10) O O (A6 (BO O (Ba O) fun b2=>Bq O (A6 (A0 O (BL O O (kx ) O) (BO O (BG fP O) fun b3=>A1 A7 1 [0,0] O (A6 (BO O (BG p4 O) fun b4=>Bq O (A3 A7 2 [0,0] O (BC (A5 A7 2 [0,3] O (Lo ((List.reverse_perm [_,_,_,_]).symm.append_right _) (IZ [_] O O O (.inr O) (jN st Inv HP l b2 b3 b4 hI hy _ t 0 s T0 m (Nat.le_refl _) h1 Ax Ax h3 h4) (aw (we O) (aw (we O) (aw (we O) (aw (we O) (aw (we O) (FM)))))) ?_ (fun _ _ h=>h.elim)))))))))))));rintro _ _ ⟨rfl,T,hT,rfl⟩;refine Bq O ⟨O,_,_,O,(G2 [0] [_,_,_,_] O),?_⟩;exact⟨O,_,hT,O⟩
theorem ZS:∀(t:Tm),(Nd t)→(size t<1152921504606846976)→Ep Tryz.prog 45 [.agg ((Bb t).map .p)] (.p (I (size t:Nat))):=by
 intro t h1 h2;refine Fl Tryz.func45 O qp (n:=11) O O (A6 (BO O (Ba O) fun b1=>A1 A7 1 [] O (A6 (BO O (BG cH O) fun b3=>A1 A7 1 [0,0] O (A2 (A6 (A0 O (Bf (i:=1) Bg O O Ap) ?_)))))));refine dk [] O O O (.inl ⟨O,O,O⟩) (dQ t) O Ay (aw (we O) FM) ?_ (fun _ _ ⟨_,h,_⟩=>by cases h);rintro _ _ ⟨bn,h,rfl⟩;cases h;refine Bq O (BJ (RP (.inr O) fun dd l L hL=>⟨_,_,Di (is:=[2,0,3]) Aw ⟨_,_,O,O,⟨_,_,O,O,⟨_,_,O,O,O⟩⟩⟩,?_⟩));have hy:∀(m:Nat) (s:Int) (d:Int) (t:Tm) (T:List BR),Nd t→(fun _ _=>True) (m+1) s→(fun(_:Bool) (s:Int) (T:List BR)=>T=[.loop l L,.box b3 [.p (I s)]]) true s T→MB Tryz.prog l [.p (I d),TV t] T (V7 (.p (.bool (Yf s d t).2)) ((fun(_:Bool) (s:Int) (T:List BR)=>T=[.loop l L,.box b3 [.p (I s)]]) (Yf s d t).2 (Yf s d t).1)):=by
  rintro m s d tt T hnd hinv rfl;subst hL;refine UF (i:=0) O O O O (BA ⟨O,0,O,?_⟩);refine BJ (BC (A0 O (CG (i:=1) DO O O O) (A0 O (ES O O) (A1 A7 1 [1,0] O ⟨0,_,O,CC (is:=[0,1]) O,?_⟩))));exact⟨O,O⟩
 refine(ca Yf (fun _ _=>True) (fun(_:Bool) (s:Int) (T:List BR)=>T=[.loop l L,.box b3 [.p (I s)]]) l bn (fun _ _ _ _ _=>Az) hy t 0 _ 0 (h1) Ax (Az) O).mono ?_;rintro(v | v) H' hR
 rotate_left
 ·exact hR.elim
 obtain⟨rfl,_,rfl,rfl⟩:=hR;subst hL;refine⟨1,_,O,Ay,?_⟩;refine A3 A7 2 [1] O (A9 (⟨2,O,_,_,⟨_,_,O,O,O⟩,(List.nil_sublist _),?_⟩))
 all_goals exact⟨pI (by rw[Wa 4611686018427387904 (Int.le_refl _) t 0 0 Ax Ax];simp),rfl⟩
theorem Wf:∀(n:Nat) (t:Tm),(size t≤n)→(Nd t)→Ep Tryz.prog 46 [.agg ((Bb t).map .p)] (.p (I (En t))):=by
 intro n
 induction n with
 | zero=>intro t h;cases t;simp[size] at h
 | succ n ih =>
  intro t h1 h2;obtain⟨tk,ti,tn,tl,ts⟩:=t;simp only[size] at h1;simp only[Nd,Dq] at h2;refine BF Tryz.func46 O sL (n:=20) O O (A6 (BO O (Ba O) fun b1=>A1 A7 1 [] O (A3 A7 1 [] O (A2 (A6 (A5 A7 2 [0] O (A0 O (BT Bk O (Bc _)) (A1 A7 1 [] O (BJ (Bn (α:=Nat×Int) (fun(i,m)=>⟨20,mk [(3,.p (I m)),(7,.p (.lst (BN ts))),(8,.p (I (ts.length:Nat))),(9,.p (I (i:Int)))],[],[]⟩) (fun(i,m)=>ts.length - i) (fun(i,m)=>i≤ts.length∧(HJ m (ts.drop i)=HJ 0 ts)) ⟨0,0⟩ Ay ?_ ?_))))))))))
  ·exact Bh ⟨we O,we O,we O,we O,Az⟩ (leH (is:=[]) O (DJ))
  rintro⟨i,m⟩ hC
  try simp only at hC
  obtain⟨hi,hC⟩:=hC;refine A3 A7 1 [] O (A2 (A4 O (fun c=>?_) (fun c=>?_)))
  ·(try simp only[sd,se] at c);refine BA (A2 (BJ (A6 ?_)));obtain⟨x,hx⟩:=BE (l:=ts) (i:=i) Ax;refine A0 O (BD Bk O O Ax (Bj hx) (BM _)) (A0 O (BU Bg O (BM _)) (BO O (BG B4 O) fun b5=>A1 A7 1 [0,1] O (BC (A5 A7 2 [0] O (A0 O (BL O O (ih x (by have:=Co hx;omega) (Df h2.2.2.2.2.1 hx)) O) (A0 O (Fi O O) (A1 A7 1 [] O (BC (A1 A7 2 [] O ?_)))))))));refine⟨⟨i+1,max m (En x)⟩,Ac,⟨by omega,by rw[←hC,Cu hx];rfl⟩,Bh ⟨we rfl,we rfl,we rfl,we rfl,trivial⟩ (leH (is:=[]) rfl (DJ))⟩
  (try simp only[sd,se] at c);refine Bo (A6 (B3 O (A0 O (ES O O) (A1 A7 1 [] O (A9 (⟨O,_,_,⟨_,_,O,O,O⟩,(List.nil_sublist _),?_⟩))))))
  all_goals exact⟨pI (by rw[show En (.mk tk ti tn tl ts)=wr (HJ 0 ts+1) from rfl,←hC,show i=ts.length by omega,List.drop_length];rfl),rfl⟩
theorem Ec:∀(f:Tm) (xs:List Tm),(xs.length<Dq)→Ep Tryz.prog 73 [.agg ((Bb f).map .p),.p (.lst (BN xs))] (.agg ((Bb (apply f xs)).map .p)):=by
 intro f xs h1;simp only[Dq] at h1;refine BF Tryz.func73 O sw (n:=19) O O (A6 (BO O (Ba O) fun b2=>BO O (BG B4 O) fun b4=>Bq O (A2 (A6 (B3 O (A0 O (BT Bk O (Bc _)) (A1 A7 1 [] O (BJ (Bn (α:=Nat) (fun i=>⟨19,mk [(2,.ptr b2 0),(4,.ptr b4 0),(7,.p (.lst (BN xs))),(8,.p (I (xs.length:Nat))),(9,.p (I (i:Int)))],[.box b4 [.p (I 0),.p (I 0),.p (.str ⟨#[]⟩),.p (.nils),.p (.nils)],.box b2 ((Bb (apply f (xs.take i))).map .p)],[]⟩) (fun i=>xs.length - i) (fun i=>i≤xs.length) 0 AW ?_ ?_)))))))))
 ·exact Bh ⟨we O,we O,we O,we O,we O,Az⟩ (leH (is:=[0,1]) O (wl (oe O) (wl (oe O) (DJ))))
 rintro i hC
 try simp only at hC
 have hi:=hC;refine A3 A7 1 [] O (A2 (A4 O (fun c=>?_) (fun c=>?_)))
 ·(try simp only[sd,se] at c);refine BA (A2 (BJ (A6 ?_)));obtain⟨x,hx⟩:=BE (l:=xs) (i:=i) Ax;refine A0 O (BD Bk O O Ax (Bj hx) (BM _)) (A0 O (BU Bg O (BM _)) (BO O (BG B4 O) fun b6=>A1 A7 1 [0,1] O (BC (A5 A7 2 [2,0] O ?_))));generalize hz:(apply f (xs.take i))=z;obtain⟨zk,zi,zn,zl,zs⟩:=z;obtain⟨xk,xi,xn,xl,xs1⟩:=x;refine A0 O (Br Bk B4 O O O O O) (A1 A7 2 [2,0] O (BC (A1 A7 2 [] O ?_)));refine⟨(i+1),Ac,by omega,Bh ⟨we rfl,we rfl,we rfl,we rfl,we rfl,trivial⟩ (leH (is:=[1,2]) rfl (wl (oe rfl) (wl (on (by rw[RV hx,hz];rfl)) (DJ))))⟩
 (try simp only[sd,se] at c);refine Bo (A3 A7 2 [1,0,1] O (A9 (⟨O,_,_,⟨_,_,O,(BI (i:=0) Bg O O Ap),O⟩,(List.nil_sublist _),?_⟩)))
 all_goals exact⟨by show (.agg ((Bb (apply f (xs.take i))).map .p):AV)=_;rw[show i=xs.length by omega,List.take_length],rfl⟩
theorem _root_.Go.AQ {α:Prop}(h:α:=by simp only[Bc,List.length_map,List.length_set];omega):α:=h
theorem _root_.Go.Af {α:Prop}(h:α:=by simp only[Bc];omega):α:=h
theorem _root_.Go.Ah {α:Prop}(h:α:=by simp[Bc];omega):α:=h
theorem cw:∀(xs:List Tm) (o0:Option Nat) (c0:Nat),(xs.length<Dq)→B2 Tryz.prog 98 [.vs o0 (BN xs).length c0] [.vec o0 5 (BN xs) c0] (Gj (.tup []) [.vec o0 5 (BN xs.reverse) c0]):=by
 intro xs o0 c0 h1;simp only[Dq] at h1;refine BF Tryz.func98 O r8 (n:=28) O O (A6 (B3 O (A0 O (Jf Bk O (Bc _)) (A1 A7 3 [] O (BJ (Bn (α:=Nat×List Tm×Option Nat×Nat) (fun(i,ys,o,cp)=>⟨28,mk [(0,.vs o (BN ys).length cp),(2,.p (I (i:Int))),(3,.p (I ((xs.length:Int) - 1 - (i:Int))))],[.vec o 5 (BN ys) cp],[]⟩) (fun(i,ys,o,cp)=>xs.length - i) (fun(i,ys,o,cp)=>i≤xs.length∧Vg xs ys i∧o=o0∧cp=c0) ⟨0,xs,o0,c0⟩ (⟨by omega,YE xs,rfl,rfl⟩) ?_ ?_))))))
 ·exact Bh ⟨we O,we O,we (pI Ax),Az⟩ (leH (is:=[0]) O (wl (oe O) (DJ)))
 rintro⟨i,ys,o,cp⟩ hC
 try simp only at hC
 obtain⟨hi,hR,ho,hcp⟩:=hC;have hyl:=hR.1;have hjn:((xs.length:Int) - 1 - (i:Int)).toNat=xs.length - 1 - i:=by omega
 refine A2 (A3 A7 3 [] O (A4 O (fun c=>?_) (fun c=>?_)))
 ·(try simp only[sd,se] at c);refine BA (A2 (BJ (Ib (i:=0) O Ah fun b hb=>?_)));subst hb;refine B0 (fun k=>false) Dt (BZ A7 6 [] O (BP O (fun _=>Cg Bk O O Ax Af) Az ?_));obtain⟨y,hy⟩:=BE (l:=ys) (i:=((xs.length:Int) - 1 - (i:Int):Int).toNat) Ax;refine CY (j:=0) O O O (fun H i hi=>Da (i:=i) Bg O hi (Bj hy)) AB Az (BZ A7 2 [] O (BP O (fun _=>Cg Bk O O Ax Af) Az ?_));obtain⟨y1,hy1⟩:=BE (l:=ys) (i:=i) Ax;refine CY (j:=0) O O O (fun H i hi=>Da (i:=i) Bg O hi (Bj hy1)) AB Az (BP O (fun _=>Cg Bk O O Ax Af) Az (FH O O (Dj (i:=0) (j:=i) Bg O O O AQ O (Ht _) (BM _) (FD _) (Ow ys i y)) AB Az (BP O (fun _=>Cg Bk O O Ax Af) Az (FH O O (Dj (i:=0) (j:=(((xs.length:Int) - 1 - (i:Int):Int).toNat)) Bg O O O AQ O (Ht _) (BM _) (FD _) (Ow ((ys).set i y) (((xs.length:Int) - 1 - (i:Int):Int).toNat) y1)) AB Az (Hg O As (BC (A1 A7 6 [] O ?_)))))));refine⟨⟨i+1,(ys.set i y).set (xs.length - 1 - i) y1,(some b),cp⟩,Ac,⟨by omega,X3 hR Ax hy1 (hjn▸hy),ho,hcp⟩,Bh ⟨we (Cn ys Ay),we rfl,we (pI Ax),trivial⟩ (leH (is:=[0]) rfl (wl (HR (((ys).set i y).set (((xs.length:Int) - 1 - (i:Int):Int).toNat) y1) (by rw[hjn])) (DJ)))⟩
 (try simp only[sd,se] at c);refine Bo ⟨O,_,_,O,(CC (is:=[0]) O),?_⟩;refine⟨O,?_⟩;show ([.vec o 5 (BN ys) cp]:List BR)=_;rw[X6 hR Ax,ho,hcp]
theorem MC:∀(t:Tm),(Nd t)→(size t<Dq)→Ep Tryz.prog 72 [.agg ((Bb t).map .p)] (.tup [.agg ((Bb ((BH t).1)).map .p),.p (.lst (BN ((BH t).2)))]):=by
 intro t h1 h2;simp only[Dq] at h2;refine BF Tryz.func72 O rm (n:=29) O O (A6 (BO O (Ba O) fun b1=>BO O (BG B4 O) fun b2=>A1 A7 1 [] O (A3 A7 1 [] O (A2 (BJ (BQ (DS (t:=4) (sz:=5) O) ?_))))));refine Bn (α:=Tm×List Tm×Option Nat×Nat) (fun(tt,ys,o,cp)=>⟨29,mk [(1,.ptr b1 0),(2,.ptr b2 0),(4,.vs o (BN ys).length cp)],[.vec o 5 (BN ys) cp,.box b2 [.p (I 0),.p (I 0),.p (.str ⟨#[]⟩),.p (.nils),.p (.nils)],.box b1 ((Bb tt).map .p)],[]⟩) (fun(tt,ys,o,cp)=>size tt) (fun(tt,ys,o,cp)=>BH t=((BH tt).1,(BH tt).2++ys.reverse)∧Nd tt∧size tt+ys.length≤size t) ⟨t,[],none,0⟩ (⟨by simp,h1,by simp⟩) ?_ ?_
 ·exact Bh ⟨we O,we O,we O,Az⟩ (leH (is:=[0,1,2]) O (wl (oe O) (wl (oe O) (wl (oe O) (DJ)))))
 rintro⟨tt,ys,o,cp⟩ hC
 try simp only at hC
 obtain⟨hS,hN,hL⟩:=hC;refine A2 (A2 ?_);obtain⟨ttk,tti,ttn,ttl,tts⟩:=tt;simp only[size] at hL;refine Be [1,2,4] 13 (fun y=>y= .p (.bool (((ttk:Int)==(4:Int))&&(((tts.length:Nat):Int)==(2:Int))))) ?_ ?_
 ·refine BC (A5 A7 4 [2] O (BY 8 O (fun g=>?_) (fun g=>?_)))
  ·(try simp only[sd,se] at g);exact A5 A7 2 [2] O (BK O (BT Bk O (Bc _)) (A1 A7 2 [] O (⟨O,O,AP,AJ,⟨O,O,O,Az⟩⟩)))
  (try simp only[sd,se] at g);exact A1 A7 5 [] O (⟨O,O,AP,AJ,⟨O,O,O,Az⟩⟩)
 rintro _ rfl;refine A4 O (fun c=>?_) (fun c=>?_)
 ·(try simp only[sd,se] at c);refine BA (BJ (A6 (A5 A7 3 [2] O ?_)));obtain⟨x,hx⟩:=BE (l:=tts) (i:=1) Ax;refine A0 O (BD Bk O O Ax (Bj hx) (BM _)) (A0 O (BU Bg O (BM _)) ?_);obtain⟨xk,xi,xn,xl,xs⟩:=x;refine A0 O (Br Bk B4 O O O O O) (EN O O (CE (i:=0) (rows':=BN [(.mk xk xi xn xl xs:Tm)]) Bk Bk B4 O O O O O O (B1 _) AD (Hk ys [(.mk xk xi xn xl xs:Tm)])) fun o1 cp1=>A1 A7 1 [] O (BC (A5 A7 2 [2] O ?_)));obtain⟨x1,hx1⟩:=BE (l:=tts) (i:=0) Ax;refine A0 O (BD Bk O O Ax (Bj hx1) (BM _)) (A1 A7 2 [2,1] O ?_);refine⟨⟨x1,ys++[.mk xk xi xn xl xs],o1,cp1⟩,(by have:=Co hx1;simp only[size];omega),⟨by rw[hS,Tl c hx1 hx];simp,Df hN.2.2.2.2.1 hx1,by have:=Co hx1;simp;omega⟩,Bh ⟨we rfl,we rfl,we rfl,trivial⟩ (leH (is:=[0,1,2]) rfl (wl (oe rfl) (wl (oe rfl) (wl (oe rfl) (DJ)))))⟩
 (try simp only[sd,se] at c);refine Bo (A6 (B3 O (A0 O (CF [0] O (.inl ⟨O,O,O⟩) (cw ys o cp Ai) ⟨_,_,O,O,O⟩ Aw O (.inl O)) (Bq O (A3 A7 4 [2,1,0] O (BQ (Cj (t:=4) (x:= .vs o (BN ys.reverse).length cp) (Cn ys (l':=ys.reverse) Ay)) (BQ (Cj (t:=25) (x:= .vs o (BN ys.reverse).length cp) (Cn ys (l':=ys.reverse) Ay)) (BQ (Cj (t:=28) (x:= .vs o (BN ys.reverse).length cp) (Cn ys (l':=ys.reverse) Ay)) (BQ (Cj (t:=3) (x:= .vs o (BN ys.reverse).length cp) (Cn ys (l':=ys.reverse) Ay)) (BQ (Cf (i:=0) [4,25,28,3] O (Ds ⟨O,O,O,O,Az⟩)) (A9 (⟨O,_,_,⟨_,_,O,(BI (i:=0) Bg O O O),⟨_,_,O,O,O⟩⟩,(List.nil_sublist _),?_⟩))))))))))));rw[hS,Rk (Classical.or_iff_not_imp_left.2 fun h=>by simp at h;exact fun e=>absurd (c h) (by simp[e]))]
 all_goals exact⟨rfl,rfl⟩
theorem Qg:∀(e:Int),B2 Tryz.prog 174 [.p (I e)] [] (VE (.p (.iface 223 (I e))) []):=by
 intro e;exact BF Tryz.func174 O pQ (n:=4) O O (BC (B3 O (A0 O (Sr ka (by intro ms h;cases h) O) (OV O O (Mu O) (⟨O,_,List.nil_sublist _,⟨O,O⟩⟩)))))
theorem TR:∀(e:Int),Ep Tryz.prog 154 [.p (.iface 223 (I e))] (.p (I e)):=by
 intro e;refine BF Tryz.func154 O qP (n:=14) O O (A3 A7 1 [] O (A6 (B3 O (A0 O (RD ka O O) (A1 A7 5 [] O (A2 (A3 A7 2 [] O ?_)))))));refine A4 O (fun c=>by cases c) (fun c=>?_);refine BA (A3 A7 2 [] O (A9 (⟨O,_,_,⟨_,_,O,O,O⟩,(List.nil_sublist _),?_⟩)))
 all_goals exact⟨rfl,rfl⟩
theorem eF:∀(k i:Int),Ep Tryz.prog 175 [.p (I k),.p (I i)] (.p (I (below k i))):=by
 intro k i;refine BF Tryz.func175 O mi (n:=26) O O (A3 A7 1 [] O (A2 (BJ (A2 (A2 (Be [0,1] 5 (fun y=>y= .p (.bool (((i:Int)==(1:Int))&&((((k:Int)==(5:Int))||((k:Int)==(6:Int)))||((k:Int)==(7:Int)))))) ?_ ?_))))))
 ·refine BC (A5 A7 3 [] O (BY 8 O (fun g=>?_) (fun g=>?_)))
  ·(try simp only[sd,se] at g);refine A5 A7 3 [] O (BY 11 O (fun g1=>?_) (fun g1=>?_))
   ·(try simp only[sd,se] at g1);exact A1 A7 9 [] O (⟨O,O,AP,AJ,⟨O,O,Az⟩⟩)
   (try simp only[sd,se] at g1);refine A5 A7 4 [] O (BY 15 O (fun g2=>?_) (fun g2=>?_))
   ·(try simp only[sd,se] at g2);exact A1 A7 5 [] O (⟨O,O,AP,AJ,⟨O,O,Az⟩⟩)
   (try simp only[sd,se] at g2);exact A1 A7 5 [] O (⟨O,O,AP,AJ,⟨O,O,Az⟩⟩)
  (try simp only[sd,se] at g);exact A1 A7 12 [] O (⟨O,O,AP,AJ,⟨O,O,Az⟩⟩)
 rintro _ rfl;refine A4 O (fun c=>?_) (fun c=>?_)
 ·(try simp only[sd,se] at c);refine BA (A4 O (fun c1=>?_) (fun c1=>?_))
  ·(try simp only[sd,se] at c1);refine A3 A7 1 [] O (A9 (⟨O,_,_,⟨_,_,O,O,O⟩,(List.nil_sublist _),?_⟩))
   all_goals exact⟨pI (by unfold below;simp_all),rfl⟩
  (try simp only[sd,se] at c1);refine BA (A3 A7 1 [] O (A9 (⟨O,_,_,⟨_,_,O,O,O⟩,(List.nil_sublist _),?_⟩)))
  all_goals exact⟨pI (by unfold below;simp_all),rfl⟩
 (try simp only[sd,se] at c);refine Be [] 5 (fun y=>y= .p (.bool (((i:Int)==(2:Int))&&((k:Int)==(11:Int))))) ?_ ?_
 ·refine BC (A5 A7 3 [] O (BY 22 O (fun g=>?_) (fun g=>?_)))
  ·(try simp only[sd,se] at g);exact A1 A7 4 [] O ⟨O,O,AP,AJ,Az⟩
  (try simp only[sd,se] at g);exact A1 A7 4 [] O ⟨O,O,AP,AJ,Az⟩
 rintro _ rfl;refine A4 O (fun c1=>?_) (fun c1=>?_)
 ·(try simp only[sd,se] at c1);refine A3 A7 1 [] O (A9 (⟨O,_,_,⟨_,_,O,O,O⟩,(List.nil_sublist _),?_⟩))
  all_goals exact⟨pI (by unfold below;simp_all),rfl⟩
 (try simp only[sd,se] at c1);refine BA (A3 A7 1 [] O (A9 (⟨O,_,_,⟨_,_,O,O,O⟩,(List.nil_sublist _),?_⟩)))
 all_goals exact⟨pI (by unfold below;simp_all),rfl⟩
theorem Vz:∀(i:Int),B2 Tryz.prog 163 [.p (I i)] [] (Kq (fun(r:Tm)=>TV r) (fun e=> .p (.iface 223 (I e))) (fun r H'=>H'=[]) (Iv i)):=by
 intro i;refine BF Tryz.func163 O oN (n:=8) O O (A6 (BO O (BG B4 O) fun b2=>Bq O (A2 (A3 A7 2 [] O (A4 O (fun c=>?_) (fun c=>?_))))))
 ·(try simp only[sd,se] at c);refine BC (Ot O O O (.inl ⟨O,O,O⟩) (Qg 24) (aw (we O) (FM)) ?_);exact⟨O,_,List.nil_sublist _,⟨_,by unfold Iv;rw[if_pos Ax],rfl⟩⟩
 (try simp only[sd,se] at c);refine BA (A3 A7 3 [0,0] O (BQ (Bd (i:=0) O) (A9 (⟨O,_,_,⟨_,_,O,(BI (i:=0) Bg O O O),O⟩,(List.nil_sublist _),?_⟩))));exact⟨(.mk 0 i ⟨#[]⟩ [] []:Tm),by unfold Iv;rw[if_neg Ax];rfl,rfl,rfl⟩
theorem dP:∀(bc:Nat) (n m:Int),B2 Tryz.prog 157 [.ptr bc 0,.p (I m)] [.box bc [.p (I n)]] (Kq (fun(r:Int)=> .tup []) (fun e=> .p (.iface 223 (I e))) (fun r H'=>H'=[.box bc [.p (I r)]]) (W0 n m)):=by
 intro bc n m;refine BF Tryz.func157 O pK (n:=18) O O (A6 (A5 A7 5 [0] O (A0 O (ES O O) (A1 A7 3 [0,0] O (A3 A7 5 [0] O (A4 O (fun c=>?_) (fun c=>?_)))))))
 ·(try simp only[sd,se] at c);refine BC (Ot O O O (.inl ⟨O,O,O⟩) (Qg 5) (aw (we O) (FM)) ?_);exact⟨O,_,List.nil_sublist _,⟨_,by unfold W0;rw[if_pos Ax],rfl⟩⟩
 (try simp only[sd,se] at c);refine BA ⟨O,_,_,O,(CC (is:=[0]) O),?_⟩;exact⟨(wr (n+m)),by unfold W0;rw[if_neg Ax],rfl,rfl⟩
theorem _root_.Go.AM {α:Prop}(h:α:=by simp only[List.length_map,List.length_take,List.length_cons,List.length_nil];omega):α:=h
theorem RY:∀(t:Tm),(Nd t)→Ep Tryz.prog 162 [.agg ((Bb t).map .p)] (.agg ((Bb (Pt t)).map .p)):=by
 intro t h1;obtain⟨tk,ti,tn,tl,ts⟩:=t;simp only[Nd,Dq] at h1;refine BF Tryz.func162 O kn (n:=33) O O (A6 (BO O (Ba O) fun b1=>BO O (BG B4 O) fun b2=>Bq O (A6 (A5 A7 7 [1,1,1] O (BO O (BG B4 O) fun b3=>A1 A7 1 [0,0] O (A2 (A6 (Bx (IH (i:=0) O (YR (aw (we O) (aw (we O) (aw (we O) (aw (JN) (aw (we O) (FM)))))))) (Bx (IB (sz:=2)) (A5 A7 2 [3] O (A0 O (BT Em O (List.length_map _)) (A1 A7 1 [] O (BJ ?_)))))))))))));refine Bn (α:=Nat×Option Nat×Nat) (fun(i,o,cp)=>⟨33,mk [(2,.ptr b2 0),(3,.ptr b3 0),(14,.p (.lst (List.map B9 tl))),(15,.p (I (tl.length:Nat))),(16,.p (I (i:Int)))],[.vec o 2 (List.map B9 (tl.take i)) cp,.box b3 [.p (I tk),.p (I ti),.p (.str tn),.vs o (List.map B9 (tl.take i)).length cp,.p (.nils)],.box b2 [.p (I 0),.p (I 0),.p (.str ⟨#[]⟩),.p (.nils),.p (.nils)]],[]⟩) (fun(i,o,cp)=>tl.length - i) (fun(i,o,cp)=>i≤tl.length) ⟨0,none,0⟩ AW ?_ ?_
 ·exact Bh ⟨we O,we O,we O,we O,we O,Az⟩ (leH (is:=[0,1,2]) O (wl (oe O) (wl (oe O) (wl (oe O) (DJ)))))
 rintro⟨i,o,cp⟩ hC
 try simp only at hC
 have hi:=hC;refine A3 A7 1 [] O (A2 (A4 O (fun c=>?_) (fun c=>?_)))
 ·(try simp only[sd,se] at c);refine BA (A2 (BJ (A6 ?_)));obtain⟨x,hx⟩:=BE (l:=tl) (i:=i) Ax;refine A0 O (BD Em O O Ax (GD hx) (D1 _)) (A0 O (BU Dp O (D1 _)) (BO O (BG Ed O) fun b5=>A1 A7 1 [0,0] O (B0 (fun k=>Nat.beq k 9) Dt (BZ A7 6 [2,0,0] O (BP O (fun _=>MA (rows':=List.map ED x.vars) Ch Ch GF O O (fun _ _ _ h=>Uh h) O (Gb _) (by have:=h1.2.2.1 x (List.mem_of_getElem? hx);have:=this.1;simp only[Dq] at this;simp only[List.length_map];omega)) Az (BP O (fun _=>Ca S1 Ed O) Az (BP O (fun _=>Br Em Ed O O O O O) Az (JZ [] O O (CE (i:=1) (rows':=List.map B9 [(Ci.mk x.const x.vars)]) Em Em Ed O O O O O O (Mj _) AM (FX (f:=B9) (tl.take i) [(Ci.mk x.const x.vars)])) As fun o1 cp1=>⟨AB,Az,?_⟩))))))));refine Bt A7 2 [2,0] O (BC (A1 A7 2 [] O ?_));refine⟨⟨i+1,o1,cp1⟩,Ac,by omega,Bh ⟨we rfl,we rfl,we rfl,we rfl,we rfl,trivial⟩ (leH (is:=[1,2,3]) rfl (wl (Ei (f:=B9) (tl.take i++[(Ci.mk x.const x.vars)]) (by rw[List.take_add_one,hx];rfl)) (wl (YR (aw (we rfl) (aw (we rfl) (aw (we rfl) (aw (we (FI (f:=B9) (tl.take i++[(Ci.mk x.const x.vars)]) (by rw[List.take_add_one,hx];rfl))) (aw (we rfl) (FM))))))) (wl (oe rfl) (DJ)))))⟩
 (try simp only[sd,se] at c);refine Bo (A6 (Bx (Db (i:=0) (j:=1) (q:=3) [] O O O (Ds Az)) (A1 A7 2 [0,1,0] O (BQ (Bd (i:=1) O) (A9 (⟨O,_,_,⟨_,_,O,(BI (i:=1) Bg O O O),O⟩,(List.nil_sublist _),?_⟩))))))
 all_goals exact⟨by show (.agg [.p (I tk),.p (I ti),.p (.str tn),.p (.lst (List.map B9 (tl.take i))),.p (.lst [])]:AV)=_;rw[show i=tl.length by omega,List.take_length];rfl,rfl⟩
theorem Oo:∀{σ:Type}(vis:σ→Tm→Int→Except Int ((Tm×Bool)×σ)) (HP:σ→List BR→Prop) (fid:Nat) (caps:List AV) (hv:∀(s:σ) (t:Tm) (d:Int) (T:List BR),Nd t→Vp t→0≤d→d<Dq→HP s T→B2 Tryz.prog fid ([TV t,.p (I d)]++caps) T (Kq (fun(r:(Tm×Bool)×σ)=> .tup [TV r.1.1,.p (.bool r.1.2)]) (fun e=> .p (.iface 223 (I e))) (fun r=>HP r.2) (vis s t d))) (n:Nat) (t:Tm) (d:Int) (s:σ) (T0:List BR),size t≤n→Nd t→Vp t→0≤d→d+size t<Dq→HP s T0→B2 Tryz.prog 158 [.agg [.fn (.func fid) [] caps],TV t,.p (I d)] T0 (Kq (fun(r:Tm×σ)=>TV r.1) (fun e=> .p (.iface 223 (I e))) (fun r=>HP r.2) (EI vis t d s)):=by
 intro σ vis HP fid caps hv n
 induction n with
 | zero=>intro t d s T0 h1;exact absurd h1 (by have:=size_pos t;omega)
 | succ n ih =>
  intro t d s T0 h1 h2 h3 h4 h5 h6;simp only[Dq] at h5;refine BF Tryz.func158 O ny (n:=54) O O (A6 (BO O (Ba O) fun b3=>BO O (Ba O) fun b4=>BO O (BG B4 O) fun b6=>Bq O (A6 (A5 A7 4 [2,1] O (kS [_,_,_] O O O (.inr O) (hv s t d T0 h2 h3 h4 (by simp only[Dq];have:=size_pos t;omega) h6) (Dg _) ?_ ?_)))))
  rotate_left
  ·intro e _ he;exact⟨O,_,List.nil_sublist _,⟨_,IC he,O⟩⟩
  rintro⟨⟨z,dn⟩,q⟩ T hz hT;refine A5 A7 3 [] O (BO O (BG B4 O) fun b7=>A1 A7 2 [0,1] O (A2 (A3 A7 1 [] O (A4 O (fun c=>?_) (fun c=>?_)))))
  ·(try simp only[sd,se] at c);refine A3 A7 2 [0,1,1] O (A9 (⟨O,_,_,⟨_,_,O,(BI (i:=1) Bg O O Ap),O⟩,(G2 [] [_,_,_,_] O),?_⟩));exact⟨⟨z,q⟩,GY (by rw[hz,c]),O,hT⟩
  (try simp only[sd,se] at c);refine BA (A6 (A0 O (A8 HA O O) ?_));obtain⟨zk,zi,zn,zl,zs⟩:=z;refine A1 A7 1 [0,0] O (A2 (A6 (A0 O (A8 HA O O) ?_)));obtain⟨tk,ti,tn,tl,ts⟩:=t;simp only[size] at h1 h5;have hn2:=h2;simp only[Nd,Dq] at hn2;refine A0 O (CG (i:=2) Gu O O O) (A0 O (BT Bk O (Bc _)) (A1 A7 1 [] O (A4 O (fun c1=>?_) (fun c1=>?_))))
  ·(try simp only[sd,se] at c1);refine A6 (A5 A7 2 [2] O (A0 O (BT Bk O (Bc _)) (Qy O O (L7 Bk B4 O O Aw O O O Ax Ax Ax (mz (((ts.length:Nat):Int).toNat) (.mk 0 0 ⟨#[]⟩ [] []:Tm))) fun b29 cp=>A1 A7 2 [1,0] O (A6 (A5 A7 2 [3] O (A0 O (BT Bk O (Bc _)) (A1 A7 1 [] O (BJ ?_))))))));refine Bn (α:=Nat×List Tm×σ×List BR×Option Nat×Nat) (fun(i,ys,q1,U,o,cp1)=>⟨54,mk [(2,.p (I d)),(3,.ptr b3 0),(4,.ptr b4 0),(6,.ptr b6 0),(7,.ptr b7 0),(32,.p (.lst (BN ts))),(33,.p (I (ts.length:Nat))),(34,.p (I (i:Int)))],(.vec o 5 (BN (ys++List.replicate (ts.length - i) Bp)) cp1:: .box b7 [.p (I zk),.p (I zi),.p (.str zn),.p (.lst (List.map B9 zl)),.vs o (BN (ys++List.replicate (ts.length - i) Bp)).length cp1]:: .box b6 [.p (I 0),.p (I 0),.p (.str ⟨#[]⟩),.p (.nils),.p (.nils)]:: .box b4 [.p (I tk),.p (I ti),.p (.str tn),.p (.lst (List.map B9 tl)),.p (.lst (BN ts))]:: .box b3 [.fn (.func fid) [] caps]::U),[]⟩) (fun(i,ys,q1,U,o,cp1)=>ts.length - i) (fun(i,ys,q1,U,o,cp1)=>i≤ts.length∧(R9 vis tk ts d q i ys q1∧HP q1 U)) ⟨0,[],q,T,(some b29),cp⟩ (⟨by omega,R9.zero _ _ _ _,hT⟩) ?_ ?_
   ·exact Bh ⟨we O,we O,we O,we O,we O,we O,we O,we O,Az⟩ (Zx [0,1,2,3,4] [_,_,_,_,_] (l':=[_,_,_,_,_]) O (wl (oe O) (wl (oe O) (wl (oe O) (wl (oe O) (wl (oe O) (DJ)))))))
   rintro⟨i,ys,q1,U,o,cp1⟩ hC
   try simp only at hC
   obtain⟨hi,hB,hU⟩:=hC;have hbl:=DF tk i;refine A3 A7 1 [] O (A2 (A4 O (fun c2=>?_) (fun c2=>?_)))
   ·(try simp only[sd,se] at c2);refine BA (A2 (BJ (A6 (B3 O ?_))));obtain⟨x,hx⟩:=BE (l:=ts) (i:=i) Ax;refine A0 O (BD Bk O O Ax (Bj hx) (BM _)) (A0 O (BU Bg O (BM _)) (BO O (BG B4 O) fun b10=>A1 A7 2 [0,1] O (Ib (i:=1) O Ah fun b hb=>?_)));subst hb;refine B0 (fun k=>Nat.beq k 11) Dt (BZ A7 9 [2,5,0,4] O (BP O (fun _=>BL O O (eF tk (i:Int)) O) Az (BZ A7 1 [] O (mj [_,_,_,_,_,_] O O O (.inl ⟨O,O,O⟩) (ih x (d+below tk i) q1 U (by have:=Co hx;omega) (Df h2.2.2.2.2.1 hx) (MW h3.2 hx) (by have:=(DF tk i).1;omega) (by have:=Co hx;have:=DF tk i;simp only[Dq];omega) hU) (Dg _) As As O AB ?_ ?_))))
    rotate_left
    ·intro e he _ _ hτ;exact⟨O,_,List.nil_sublist _,⟨_,Jr (by rw[hz,c]) (hB.err hx he),O⟩⟩
    rintro⟨y,q2⟩ T1 hz1 hT1;refine⟨AB,Az,?_⟩;refine BP O (fun _=>Cg Bk O O Ax (by simp only[Bc,List.length_append,List.length_replicate,hB.1];omega)) Az (FH O O (Dj (i:=1) (j:=i) Bg O O O (by simp only[Bc,List.length_append,List.length_replicate,hB.1];omega) O (Ht _) (BM _) (FD _) (Ow (ys++List.replicate (ts.length - i) Bp) i y)) AB Az (Hg O As (BC (A1 A7 2 [] O ?_))));refine⟨⟨i+1,ys++[y],q2,T1,(some b),cp1⟩,Ac,⟨by omega,⟨hB.succ hx hz1,hT1⟩⟩,Bh ⟨we rfl,we rfl,we rfl,we rfl,we rfl,we rfl,we rfl,we rfl,trivial⟩ (Zx [1,2,3,4,5] [_,_,_,_,_,_] (l':=[_,_,_,_,_]) rfl (wl (HR ((ys++List.replicate (ts.length - i) Bp).set i y) (by rw[fJ hB.1 Ax];congr 2)) (wl (YR (aw (we rfl) (aw (we rfl) (aw (we rfl) (aw (we rfl) (aw (we (Cn (ys++List.replicate (ts.length - i) Bp) Ar)) (FM))))))) (wl (oe rfl) (wl (oe rfl) (wl (oe rfl) (DJ)))))))⟩
   (try simp only[sd,se] at c2);refine Bo (A6 (Bx (Db (i:=0) (j:=1) (q:=4) [] O O O (Ds Az)) (A1 A7 2 [0,1,0] O (A9 (⟨O,_,_,⟨_,_,O,(BI (i:=1) Bg O O O),O⟩,(G2 [] [_,_,_,_] O),?_⟩)))));rw[show ts.length - i=0 by omega,List.replicate_zero,List.append_nil];exact⟨⟨.mk zk zi zn zl ys,q1⟩,Im (by rw[hz,c]) (hB.fin Ax),O,hU⟩
  (try simp only[sd,se] at c1);refine BA (A3 A7 2 [0,1,0] O (BQ (Bd (i:=1) O) (A9 (⟨O,_,_,⟨_,_,O,(BI (i:=1) Bg O O O),O⟩,(G2 [] [_,_,_,_] O),?_⟩))));exact⟨⟨.mk zk zi zn zl [],q⟩,Im (o:= .mk zk zi zn zl zs) (q:=q) (ys:=[]) (by rw[hz,c]) (by rw[show ts=[] by (cases ts with | nil=>rfl | cons a b=>simp at c1;omega)];rfl),O,hT⟩
theorem dE:∀(t:Tm),(Nd t)→B2 Tryz.prog 162 [.agg ((Bb t).map .p)] [] (gx (fun p:Option Nat×Nat=> .agg [.p (I t.kind),.p (I t.index),.p (.str t.name),.vs p.1 (List.map B9 t.levels).length p.2,.p (.lst [])]) (fun p=>[.vec p.1 2 (List.map B9 t.levels) p.2])):=by
 intro t h1;obtain⟨tk,ti,tn,tl,ts⟩:=t;simp only[Nd,Dq] at h1;refine BF Tryz.func162 O kn (n:=33) O O (A6 (BO O (Ba O) fun b1=>BO O (BG B4 O) fun b2=>Bq O (A6 (A5 A7 7 [1,1,1] O (BO O (BG B4 O) fun b3=>A1 A7 1 [0,0] O (A2 (A6 (Bx (IH (i:=0) O (YR (aw (we O) (aw (we O) (aw (we O) (aw (JN) (aw (we O) (FM)))))))) (Bx (IB (sz:=2)) (A5 A7 2 [3] O (A0 O (BT Em O (List.length_map _)) (A1 A7 1 [] O (BJ ?_)))))))))))));refine Bn (α:=Nat×Option Nat×Nat) (fun(i,o,cp)=>⟨33,mk [(2,.ptr b2 0),(3,.ptr b3 0),(14,.p (.lst (List.map B9 tl))),(15,.p (I (tl.length:Nat))),(16,.p (I (i:Int)))],[.vec o 2 (List.map B9 (tl.take i)) cp,.box b3 [.p (I tk),.p (I ti),.p (.str tn),.vs o (List.map B9 (tl.take i)).length cp,.p (.nils)],.box b2 [.p (I 0),.p (I 0),.p (.str ⟨#[]⟩),.p (.nils),.p (.nils)]],[]⟩) (fun(i,o,cp)=>tl.length - i) (fun(i,o,cp)=>i≤tl.length) ⟨0,none,0⟩ AW ?_ ?_
 ·exact Bh ⟨we O,we O,we O,we O,we O,Az⟩ (leH (is:=[0,1,2]) O (wl (oe O) (wl (oe O) (wl (oe O) (DJ)))))
 rintro⟨i,o,cp⟩ hC
 try simp only at hC
 have hi:=hC;refine A3 A7 1 [] O (A2 (A4 O (fun c=>?_) (fun c=>?_)))
 ·(try simp only[sd,se] at c);refine BA (A2 (BJ (A6 ?_)));obtain⟨x,hx⟩:=BE (l:=tl) (i:=i) Ax;refine A0 O (BD Em O O Ax (GD hx) (D1 _)) (A0 O (BU Dp O (D1 _)) (BO O (BG Ed O) fun b5=>A1 A7 1 [0,0] O (B0 (fun k=>Nat.beq k 9) Dt (BZ A7 6 [2,0,0] O (BP O (fun _=>MA (rows':=List.map ED x.vars) Ch Ch GF O O (fun _ _ _ h=>Uh h) O (Gb _) (by have:=h1.2.2.1 x (List.mem_of_getElem? hx);have:=this.1;simp only[Dq] at this;simp only[List.length_map];omega)) Az (BP O (fun _=>Ca S1 Ed O) Az (BP O (fun _=>Br Em Ed O O O O O) Az (JZ [] O O (CE (i:=1) (rows':=List.map B9 [(Ci.mk x.const x.vars)]) Em Em Ed O O O O O O (Mj _) AM (FX (f:=B9) (tl.take i) [(Ci.mk x.const x.vars)])) As fun o1 cp1=>⟨AB,Az,?_⟩))))))));refine Bt A7 2 [2,0] O (BC (A1 A7 2 [] O ?_));refine⟨⟨i+1,o1,cp1⟩,Ac,by omega,Bh ⟨we rfl,we rfl,we rfl,we rfl,we rfl,trivial⟩ (leH (is:=[1,2,3]) rfl (wl (Ei (f:=B9) (tl.take i++[(Ci.mk x.const x.vars)]) (by rw[List.take_add_one,hx];rfl)) (wl (YR (aw (we rfl) (aw (we rfl) (aw (we rfl) (aw (we (FI (f:=B9) (tl.take i++[(Ci.mk x.const x.vars)]) (by rw[List.take_add_one,hx];rfl))) (aw (we rfl) (FM))))))) (wl (oe rfl) (DJ)))))⟩
 (try simp only[sd,se] at c);refine Bo (A3 A7 2 [1,2,0] O (BQ (Bd (i:=2) O) (A9 (⟨O,_,_,⟨_,_,O,(BI (i:=2) Bg O O O),O⟩,(CC (is:=[0]) O),?_⟩))));have htk:tl.take i=tl:=List.take_of_length_le Ax;exact⟨(o,cp),by rw[htk];simp[Tm.kind,Tm.index,Tm.name,Tm.levels,splice,dn],by rw[htk];rfl⟩
theorem fe:∀(tk ti:Int) (tn:ByteArray) (tl:List Ci) (ts:List Tm),Nd (.mk tk ti tn tl ts)→B2 Tryz.prog 162 [TV (.mk tk ti tn tl ts)] [] (gx (fun p:Option Nat×Nat=> .agg [.p (I tk),.p (I ti),.p (.str tn),.vs p.1 (List.map B9 tl).length p.2,.p (.lst [])]) (fun p=>[.vec p.1 2 (List.map B9 tl) p.2])):=fun tk ti tn tl ts h=>dE _ h
theorem mP:∀(l:Ci) (ps:List Ci),(M6 l)→(ps.length<Dq)→(∀p∈ps,M6 p)→Ep Tryz.prog 165 [.agg ((B9 l).map .p),.ref [.lst (List.map B9 ps)]] (.tup [.agg ((B9 ((C7 l ps).1)).map .p),.p (I ((C7 l ps).2))]):=by
 intro l ps h1 h2 h3;refine BF Tryz.func165 O nG (n:=10) O O (A6 (BO O (Ba O) fun b2=>BO O (BG Ed O) fun b3=>A1 A7 1 [] O (A6 (A5 A7 2 [1] O (A0 O (BL O O (bp l ps h1 h2 h3) O) (A1 A7 4 [0,1] O (A9 (⟨O,_,_,⟨_,_,O,(BI (i:=0) Dp O O Ao),⟨_,_,O,O,O⟩⟩,(List.nil_sublist _),?_⟩))))))))
 all_goals exact⟨by show (.tup [.agg ((B9 ((Iy l ps).1)).map .p),.p (I ((Iy l ps).2))]:AV)=_;rw[Z7],rfl⟩
theorem lM:∀(bR:Nat) (ps:List Ci) (s:Unit) (t:Tm) (d:Int),(Nd t)→(ps.length<Dq)→(∀p∈ps,M6 p)→B2 Tryz.prog 179 [.agg ((Bb t).map .p),.p (I d),.ptr bR 0] [.box bR [.fn (.func 165) [] [.ref [.lst (List.map B9 ps)]]]] (Kq (fun(r:(Tm×Bool)×Unit)=> .tup [TV r.1.1,.p (.bool r.1.2)]) (fun e=> .p (.iface 223 (I e))) (fun r H'=>H'=[.box bR [.fn (.func 165) [] [.ref [.lst (List.map B9 ps)]]]]) (U7 ps s t d)):=by
 intro bR ps s t d h1 h2 h3;obtain⟨tk,ti,tn,tl,ts⟩:=t;have hn:=h1;simp only[Nd,Dq] at hn;refine BF Tryz.func179 O nQ (n:=39) O O (A6 (BO O (Ba O) fun b3=>BO O (BG B4 O) fun b5=>A1 A7 1 [] O (A6 (A0 O (Bf (i:=1) Bg O O O) (Zc O O O (.inl ⟨O,O,O⟩) (fe tk ti tn tl ts h1) (Dg _) fun vv=>?_)))));obtain⟨ov,cv⟩:=vv;refine BO O (BG B4 O) fun b7=>A1 A7 1 [0,0] O (A2 (A6 (A5 A7 2 [3] O (A0 O (BT Em O (List.length_map _)) (A1 A7 1 [] O (BJ ?_))))));refine Bn (α:=Nat×List Ci×Option Nat×Nat) (fun(i,ys,o,cp)=>⟨39,mk [(2,.ptr bR 0),(5,.ptr b5 0),(7,.ptr b7 0),(15,.p (.lst (List.map B9 tl))),(16,.p (I (tl.length:Nat))),(17,.p (I (i:Int)))],[.box b7 [.p (I tk),.p (I ti),.p (.str tn),.vs o (List.map B9 (ys++tl.drop i)).length cp,.p (.lst (BN []))],.vec o 2 (List.map B9 (ys++tl.drop i)) cp,.box b5 [.p (I 0),.p (I 0),.p (.str ⟨#[]⟩),.p (.nils),.p (.nils)],.box bR [.fn (.func 165) [] [.ref [.lst (List.map B9 ps)]]]],[]⟩) (fun(i,ys,o,cp)=>tl.length - i) (fun(i,ys,o,cp)=>i≤tl.length∧(ys.length=i∧I9 ps tl=OE ys (I9 ps (tl.drop i)))) ⟨0,[],ov,cv⟩ (⟨by omega,rfl,cE _⟩) ?_ ?_
 ·exact Bh ⟨we O,we O,we O,we O,we O,we O,Az⟩ (leH (is:=[0,1,2,4]) O (wl (oe O) (wl (oe O) (wl (oe O) (wl (oe O) (DJ))))))
 rintro⟨i,ys,o,cp⟩ hC
 try simp only at hC
 obtain⟨hi,hl,hC⟩:=hC;refine A3 A7 1 [] O (A2 (A4 O (fun c=>?_) (fun c=>?_)))
 ·(try simp only[sd,se] at c);refine BA (A2 (BJ (A6 (B3 O ?_))));obtain⟨x,hx⟩:=BE (l:=tl) (i:=i) Ax;refine A0 O (BD Em O O Ax (GD hx) (D1 _)) (A0 O (BU Dp O (D1 _)) (BO O (BG Ed O) fun b9=>A1 A7 2 [0,1] O (A6 (A5 A7 2 [4,0] O (A0 O (jf O O (mP x ps (hn.2.2.1 _ (List.mem_of_getElem? hx)) h2 h3) (.inl O)) (A5 A7 3 [] O (BO O (BG Ed O) fun b10=>A1 A7 2 [0,1] O (A2 (A3 A7 2 [] O (A4 O (fun c1=>?_) (fun c1=>?_)))))))))))
  ·(try simp only[sd,se] at c1);exact BC (B3 O (Ot O O O (.inl ⟨O,O,O⟩) (Qg ((C7 x ps).2)) (aw (we O) (FM)) (⟨O,_,List.nil_sublist _,⟨_,iE (hC.trans (lZ hx Ax)),O⟩⟩)))
  (try simp only[sd,se] at c1);refine BA (BC (A5 A7 4 [2,0] O (Ju (i:=3) O Ah fun b hb=>?_)));subst hb;refine A0 O (Cg Em O O Ax (by first | omega | (simp;omega))) (A0 O (Dj (i:=3) (j:=i) Dp O O O (by first | omega | (simp;omega)) O (aS _) (D1 _) (jS _) (cc (f:=B9) (ys++tl.drop i) i ((C7 x ps).1))) (Bq O (BC (A1 A7 2 [] O (⟨⟨i+1,ys++[(C7 x ps).1],(some b),cp⟩,Ac,⟨by omega,⟨by simp[hl],hC.trans (kv hx Ax)⟩⟩,Bh ⟨we rfl,we rfl,we rfl,we rfl,we rfl,we rfl,trivial⟩ (leH (is:=[2,3,4,5]) rfl (wl (YR (aw (we rfl) (aw (we rfl) (aw (we rfl) (aw (we (UA (f:=B9) (ys++tl.drop i) Ar)) (aw (we rfl) (FM))))))) (wl (Ei (f:=B9) ((ys++tl.drop i).set i ((C7 x ps).1)) (by rw[set_drop hl hx])) (wl (oe rfl) (wl (oe rfl) (DJ))))))⟩)))))
 (try simp only[sd,se] at c);refine Bo (A6 (Bx (Db (i:=1) (j:=0) (q:=3) [] O O O (Ds Az)) (A1 A7 3 [0,1,0] O (A9 (⟨O,_,_,⟨_,_,O,(BI (i:=1) Bg O O O),⟨_,_,O,O,O⟩⟩,(CC (is:=[2]) O),?_⟩)))));rw[List.drop_eq_nil_of_le Ax,List.append_nil];exact⟨⟨⟨.mk tk ti tn ys [],false⟩,()⟩,lT (ly hC Ax),O,O⟩
theorem hO:∀(bo be:Nat) (co ce:List AV),E3 Tryz.prog 178 [.ptr bo 0,.ptr be 0] (.ret) [.box bo co,.box be ce] (fun H'=>H'=[.box bo co,.box be ce]):=by
 intro bo be co ce;refine IF (ty2:=0) Tryz.func178 O kq (n:=9) O O O O O O (A6 (B3 O (A0 O (HV bI O O O) (Bq O ?_))));refine A4 O (fun c=>by cases c) (fun c=>?_);exact BA ⟨.inl O,O,_,(CC (is:=[0,1]) O),O⟩
theorem ib:∀(bo be:Nat) (e:Int),E3 Tryz.prog 178 [.ptr bo 0,.ptr be 0] (.pan (.p (.iface 223 (I e)))) [.box bo [.p (I 0),.p (I 0),.p (.str ⟨#[]⟩),.p (.nils),.p (.nils)],.box be [.p (I 0)]] (fun H'=>H'=[.box bo [.p (I 0),.p (I 0),.p (.str ⟨#[]⟩),.p (.lst []),.p (.lst [])],.box be [.p (I e)]]):=by
 intro bo be e;refine IF (ty2:=0) Tryz.func178 O kq (n:=9) O O O O O O (A6 (B3 O (A0 O (HV bI O O O) (Bx (Bd (i:=0) O) (Bq O ?_)))));refine A4 O (fun c=>?_) (fun c=>by cases c);exact BC (A5 A7 2 [] O (A0 O (BL O O (TR _) O) (A5 A7 2 [0,0,1,0] O (Bx (Bd (i:=0) O) (Bq O ⟨.inl O,O,_,(CC (is:=[0,1]) O),O⟩)))))
set_option maxHeartbeats 2000000 in
theorem Yn:∀(t:Tm) (ps:List Ci),(Nd t)→(Vp t)→(size t<1099511627776)→(ps.length<Dq)→(∀p∈ps,M6 p)→Ep Tryz.prog 164 [.agg ((Bb t).map .p),.fn (.func 165) [] [.ref [.lst (List.map B9 ps)]]] (.tup [.agg ((Bb ((By t ps).1)).map .p),.p (I ((By t ps).2))]):=by
 intro t ps h1 h2 h3 h4 h5;refine Fl Tryz.func164 O nF (n:=11) O O (A6 (BO O (Ba O) fun b2=>BO O (Ba O) fun b3=>BO O (BG B4 O) fun b4=>BO O (BG eG O) fun b5=>Bq O (A6 (A0 O (E1 O O) (OY O O O O (Bq O (A6 (A5 A7 3 [3] O ?_))))))));refine D6 [2] O O O (.inl ⟨O,O,O⟩) (Oo (U7 ps) (fun _ T=>T=[.box b3 [.fn (.func 165) [] [.ref [.lst (List.map B9 ps)]]]]) 179 [.ptr b3 0] (fun s t d T hn hp h0 hb hT=>by subst hT;exact lM b3 ps s t d hn h4 h5) _ t 0 () _ (Nat.le_refl _) h1 h2 Ax Ai rfl) ⟨_,_,rfl,rfl,rfl⟩ Aw (Dg _) (fun _ _ h=>(congrArg List.length h).trans rfl) ?_ ?_
 rotate_left
 ·intro e _ he;refine⟨_,_,_,O,Mq (is:=[1,0]) _ Aw ⟨_,_,O,O,⟨_,_,O,O,O⟩⟩,E3.eq (ib b4 b5 _) ?_⟩;refine⟨_,[],⟨_,_,O,(BI (i:=0) Bg O O O),⟨_,_,O,(G1 (i:=1) Sd O O),O⟩⟩,(List.nil_sublist _),?_⟩;rw[Wz ((Pe t 0).symm.trans he)];exact⟨O,O⟩
 rintro⟨z,_⟩ _ hz rfl;refine A1 A7 2 [1,1,0,0] O (A9 (⟨_,_,_,O,Di (is:=[1,0]) Aw ⟨_,_,O,O,⟨_,_,O,O,O⟩⟩,E3.eq (hO b4 b5 _ _) ?_⟩));refine⟨_,_,⟨_,_,O,(BI (i:=0) Bg O O Ap),⟨_,_,O,(G1 (i:=1) Sd O O),O⟩⟩,(List.nil_sublist _),?_⟩;rw[YJ ((Pe t 0).symm.trans hz)]
 all_goals exact⟨rfl,rfl⟩
theorem MT:∀(t:Tm) (ps:List Ci),(Nd t)→(Vp t)→(size t<1099511627776)→(ps.length<Dq)→(∀p∈ps,M6 p)→Ep Tryz.prog 138 [.agg ((Bb t).map .p),.p (.lst (List.map B9 ps))] (.tup [.agg ((Bb ((By t ps).1)).map .p),.p (I ((By t ps).2))]):=by
 intro t ps h1 h2 h3 h4 h5;refine BF Tryz.func138 O oQ (n:=11) O O (A6 (BO O (Ba O) fun b2=>BO O (Ba O) fun b3=>BO O (BG B4 O) fun b4=>A1 A7 1 [] O (A6 (Bx (Pw (i:=1) (cs:=[.lst (List.map B9 ps)]) [3] O (Ds ⟨O,Az⟩)) (A5 A7 2 [1] O (A0 O (BL O O (Yn t ps h1 h2 h3 h4 h5) O) (A1 A7 4 [0,1] O (A9 (⟨O,_,_,⟨_,_,O,(BI (i:=0) Bg O O Ap),⟨_,_,O,O,O⟩⟩,(List.nil_sublist _),?_⟩)))))))))
 all_goals exact⟨rfl,rfl⟩
theorem W7:∀(t:Tm),(Nd t)→(size t<1000000)→Ep Tryz.prog 115 [.agg ((Bb t).map .p)] (.tup [.p (.lst (BN ((HL t).1))),.agg ((Bb ((HL t).2)).map .p)]):=by
 intro t h1 h2;refine BF Tryz.func115 O ku (n:=27) O O (A6 (BO O (Ba O) fun b1=>L8 O (BO O (BG B4 O) fun b3=>Bq O (A3 A7 1 [] O (A2 (BJ (BQ (DS (t:=4) (sz:=5) O) ?_)))))));refine Bn (α:=Tm×List Tm×Option Nat×Nat) (fun(y,l,o,cp)=>⟨27,mk [(1,.ptr b1 0),(3,.ptr b3 0),(4,.vs o (BN l).length cp)],[.vec o 5 (BN l) cp,.box b3 [.p (I 0),.p (I 0),.p (.str ⟨#[]⟩),.p (.nils),.p (.nils)],.box b1 ((Bb y).map .p)],[]⟩) (fun(y,l,o,cp)=>size y) (fun(y,l,o,cp)=>Nd y∧l.length+size y≤size t∧(l++(HL y).1,(HL y).2)=HL t) ⟨t,[],none,0⟩ (⟨h1,by simp,by simp⟩) ?_ ?_
 ·exact Bh ⟨we O,we O,we O,Az⟩ (leH (is:=[0,1,2]) O (wl (oe O) (wl (oe O) (wl (oe O) (DJ)))))
 rintro⟨y,l,o,cp⟩ hC
 try simp only at hC
 have hl0:l.length<1000000:=by have:=hC.2.1;omega
 refine A2 (A2 ?_);obtain⟨yk,yi,yn,yl,ys⟩:=y;refine Be [1,3,4] 13 (fun y=>y= .p (.bool (((yk:Int)==(6:Int))&&(((ys.length:Nat):Int)==(2:Int))))) ?_ ?_
 ·refine BC (A5 A7 4 [2] O (BY 8 O (fun g=>?_) (fun g=>?_)))
  ·(try simp only[sd,se] at g);exact A5 A7 2 [2] O (BK O (BT Bk O (Bc _)) (A1 A7 2 [] O (⟨O,O,AP,AJ,⟨O,O,O,Az⟩⟩)))
  (try simp only[sd,se] at g);exact A1 A7 5 [] O (⟨O,O,AP,AJ,⟨O,O,O,Az⟩⟩)
 rintro _ rfl;refine A4 O (fun c=>?_) (fun c=>?_)
 ·(try simp only[sd,se] at c);refine BA (BJ (A6 (A5 A7 3 [2] O ?_)));obtain⟨x,hx⟩:=BE (l:=ys) (i:=0) (by first | omega | (simp at c;omega));refine A0 O (BD Bk O O Ax (Bj hx) (BM _)) (A0 O (BU Bg O (BM _)) ?_);obtain⟨xk,xi,xn,xl,xs⟩:=x;refine A0 O (Br Bk B4 O O O O O) (EN O O (CE (i:=0) (rows':=BN [(.mk xk xi xn xl xs:Tm)]) Bk Bk B4 O O O O O O (B1 _) AD (Hk l [(.mk xk xi xn xl xs:Tm)])) fun o1 cp1=>A1 A7 1 [] O (BC (A5 A7 2 [2] O ?_)));obtain⟨x1,hx1⟩:=BE (l:=ys) (i:=1) (by first | omega | (simp at c;omega));refine A0 O (BD Bk O O Ax (Bj hx1) (BM _)) (A1 A7 2 [2,1] O ?_);refine⟨⟨x1,l++[(.mk xk xi xn xl xs:Tm)],o1,cp1⟩,(by have:=Co hx1;simp only[size];omega),⟨Df hC.1.2.2.2.2.1 hx1,by have:=Co hx1;have:=hC.2.1;simp only[size] at *;simp only[List.length_append,List.length_cons,List.length_nil];omega,T6 c hx hx1 hC.2.2⟩,Bh ⟨we rfl,we rfl,we rfl,trivial⟩ (leH (is:=[0,1,2]) rfl (wl (oe rfl) (wl (oe rfl) (wl (oe rfl) (DJ)))))⟩
 (try simp only[sd,se] at c);refine Bo (A2 (B0 (fun k=>false) Dt (Bt A7 4 [2,1,0] O (BQ (Cf (i:=0) [4,25,2] O (Ds ⟨O,O,O,Az⟩)) (A9 (⟨O,_,_,⟨_,_,O,O,⟨_,_,O,(BI (i:=0) Bg O O O),O⟩⟩,(List.nil_sublist _),?_⟩))))))
 all_goals exact⟨by show (.tup [.p (.lst (BN l)),.agg [.p (I yk),.p (I yi),.p (.str yn),.p (.lst (List.map B9 yl)),.p (.lst (BN ys))]]:AV)=_;rw[Wy Ax hC.2.2];rfl,rfl⟩
theorem Y5:∀(t:Tm),(Nd t)→(size t<1000000)→Ep Tryz.prog 117 [.agg ((Bb t).map .p)] (.tup [.p (.lst (BN ((HL t).1))),.agg ((Bb ((HL t).2)).map .p)]):=by
 intro t h1 h2;refine BF Tryz.func117 O mw (n:=27) O O (A6 (BO O (Ba O) fun b1=>L8 O (BO O (BG B4 O) fun b3=>Bq O (A3 A7 1 [] O (A2 (BJ (BQ (DS (t:=4) (sz:=5) O) ?_)))))));refine Bn (α:=Tm×List Tm×Option Nat×Nat) (fun(y,l,o,cp)=>⟨27,mk [(1,.ptr b1 0),(3,.ptr b3 0),(4,.vs o (BN l).length cp)],[.vec o 5 (BN l) cp,.box b3 [.p (I 0),.p (I 0),.p (.str ⟨#[]⟩),.p (.nils),.p (.nils)],.box b1 ((Bb y).map .p)],[]⟩) (fun(y,l,o,cp)=>size y) (fun(y,l,o,cp)=>Nd y∧l.length+size y≤size t∧(l++(HL y).1,(HL y).2)=HL t) ⟨t,[],none,0⟩ (⟨h1,by simp,by simp⟩) ?_ ?_
 ·exact Bh ⟨we O,we O,we O,Az⟩ (leH (is:=[0,1,2]) O (wl (oe O) (wl (oe O) (wl (oe O) (DJ)))))
 rintro⟨y,l,o,cp⟩ hC
 try simp only at hC
 have hl0:l.length<1000000:=by have:=hC.2.1;omega
 refine A2 (A2 ?_);obtain⟨yk,yi,yn,yl,ys⟩:=y;refine Be [1,3,4] 13 (fun y=>y= .p (.bool (((yk:Int)==(6:Int))&&(((ys.length:Nat):Int)==(2:Int))))) ?_ ?_
 ·refine BC (A5 A7 4 [2] O (BY 8 O (fun g=>?_) (fun g=>?_)))
  ·(try simp only[sd,se] at g);exact A5 A7 2 [2] O (BK O (BT Bk O (Bc _)) (A1 A7 2 [] O (⟨O,O,AP,AJ,⟨O,O,O,Az⟩⟩)))
  (try simp only[sd,se] at g);exact A1 A7 5 [] O (⟨O,O,AP,AJ,⟨O,O,O,Az⟩⟩)
 rintro _ rfl;refine A4 O (fun c=>?_) (fun c=>?_)
 ·(try simp only[sd,se] at c);refine BA (BJ (A6 (A5 A7 3 [2] O ?_)));obtain⟨x,hx⟩:=BE (l:=ys) (i:=0) (by first | omega | (simp at c;omega));refine A0 O (BD Bk O O Ax (Bj hx) (BM _)) (A0 O (BU Bg O (BM _)) ?_);obtain⟨xk,xi,xn,xl,xs⟩:=x;refine A0 O (Br Bk B4 O O O O O) (EN O O (CE (i:=0) (rows':=BN [(.mk xk xi xn xl xs:Tm)]) Bk Bk B4 O O O O O O (B1 _) AD (Hk l [(.mk xk xi xn xl xs:Tm)])) fun o1 cp1=>A1 A7 1 [] O (BC (A5 A7 2 [2] O ?_)));obtain⟨x1,hx1⟩:=BE (l:=ys) (i:=1) (by first | omega | (simp at c;omega));refine A0 O (BD Bk O O Ax (Bj hx1) (BM _)) (A1 A7 2 [2,1] O ?_);refine⟨⟨x1,l++[(.mk xk xi xn xl xs:Tm)],o1,cp1⟩,(by have:=Co hx1;simp only[size];omega),⟨Df hC.1.2.2.2.2.1 hx1,by have:=Co hx1;have:=hC.2.1;simp only[size] at *;simp only[List.length_append,List.length_cons,List.length_nil];omega,T6 c hx hx1 hC.2.2⟩,Bh ⟨we rfl,we rfl,we rfl,trivial⟩ (leH (is:=[0,1,2]) rfl (wl (oe rfl) (wl (oe rfl) (wl (oe rfl) (DJ)))))⟩
 (try simp only[sd,se] at c);refine Bo (A2 (B0 (fun k=>false) Dt (Bt A7 4 [2,1,0] O (BQ (Cf (i:=0) [4,25,2] O (Ds ⟨O,O,O,Az⟩)) (A9 (⟨O,_,_,⟨_,_,O,O,⟨_,_,O,(BI (i:=0) Bg O O O),O⟩⟩,(List.nil_sublist _),?_⟩))))))
 all_goals exact⟨by show (.tup [.p (.lst (BN l)),.agg [.p (I yk),.p (I yi),.p (.str yn),.p (.lst (List.map B9 yl)),.p (.lst (BN ys))]]:AV)=_;rw[Wy Ax hC.2.2];rfl,rfl⟩
theorem aa:∀(d:CX) (k:Int),(Ns d)→(0≤d.fixed∧d.fixed≤1000000)→(0≤k)→(k<d.ctors.length)→Ep Tryz.prog 85 [.agg ((Bu d).map .p),.p (I k)] (.p (I (Fh d k))):=by
 intro d k h1 h2 h3 h4;have hcl:=h1.cl;refine BF Tryz.func85 O my (n:=23) O O (A6 (BO O (Ba O) fun b2=>A1 A7 1 [] O (A6 (A0 O (A8 DD O O) (A0 O (BB (i:=0) HY O O (CH _)) (B3 O ?_))))));obtain⟨x,hx⟩:=BE (l:=d.ctors) (i:=(k:Int).toNat) Ax;have hct:=h1.cs _ (List.mem_of_getElem? hx);have htl:=Is x.type;have hsz:=hct.ty.sz;refine A0 O (BD HN O O Ax (EU hx) (D8 _)) (A0 O (B7 Iq O O) (A0 O (DU Bg O (FU _) (BM _)) (A0 O (BL O O (W7 x.type hct.ty.nd hct.ty.sz) O) (A5 A7 3 [] O (BO O (BG B4 O) fun b6=>A1 A7 2 [0,1] O (A6 (B3 O (A0 O (BT Bk O (Bc _)) (A0 O (A8 DD O O) (A0 O (BB (i:=1) DO O O (Cv _)) (A0 O (K4 O O Ax Ax) (A0 O (Fi O O) (A1 A7 1 [] O (A9 (⟨O,_,_,⟨_,_,O,O,O⟩,(List.nil_sublist _),?_⟩)))))))))))))))
 all_goals exact⟨pI (by unfold Fh Yc El;rw[CI hx]),rfl⟩
theorem WE:∀(d:CX),(Ns d)→(0≤d.fixed∧d.fixed≤1000000)→Ep Tryz.prog 83 [.agg ((Bu d).map .p)] (.p (I (ME d))):=by
 intro d h1 h2;have htl:=Is d.type;have hsz:=h1.ty.sz;refine BF Tryz.func83 O rq (n:=17) O O (A6 (BO O (Ba O) fun b1=>A1 A7 1 [] O (A6 (A0 O (A8 DD O O) (A0 O (B6 (i:=0) Bg O O (FP _) (BM _)) (A0 O (BL O O (W7 d.type h1.ty.nd h1.ty.sz) O) (A5 A7 3 [] O (BO O (BG B4 O) fun b4=>A1 A7 2 [0,1] O (A6 (B3 O (A0 O (BT Bk O (Bc _)) (A0 O (A8 DD O O) (A0 O (BB (i:=1) DO O O (Cv _)) (A0 O (K4 O O Ax Ax) (A0 O (Fi O O) (A1 A7 1 [] O (A9 (⟨O,_,_,⟨_,_,O,O,O⟩,(List.nil_sublist _),?_⟩))))))))))))))))))
 all_goals exact⟨pI rfl,rfl⟩
theorem KU:∀(d:CX),(Ns d)→(0≤d.fixed∧d.fixed≤1000000)→Ep Tryz.prog 48 [.agg ((Bu d).map .p)] (.p (I (CQ d))):=by
 intro d h1 h2;have hir:=F4 h1 h2;have hcl:=h1.cl;refine BF Tryz.func48 O r9 (n:=13) O O (A6 (BO O (Ba O) fun b1=>A1 A7 1 [] O (A2 (B0 (fun k=>false) Dt (BP O (fun _=>A8 DD O O) Az (CY (j:=0) O O O (fun H i hi=>BB (i:=i) DO O hi (Cv _)) AB Az (BZ A7 2 [] O (CY (j:=0) O O O (fun H i hi=>BB (i:=i) HY O hi (CH _)) AB Az (BP O (fun _=>BT HN O (List.length_map _)) Az (BZ A7 2 [0] O (BP O (fun _=>BL O O (WE d h1 h2) O) Az (Bt A7 2 [] O (A9 (⟨O,_,_,⟨_,_,O,O,O⟩,(List.nil_sublist _),?_⟩))))))))))))))
 all_goals exact⟨pI rfl,rfl⟩
theorem OM:∀(d:CX),(Ns d)→(0≤d.fixed∧d.fixed≤1000000)→Ep Tryz.prog 90 [.agg ((Bu d).map .p)] (.p (I (CQ d))):=by
 intro d h1 h2;have hir:=F4 h1 h2;have hcl:=h1.cl;have htl:=Is d.type;have hsz:=h1.ty.sz;refine BF Tryz.func90 O rW (n:=25) O O (A6 (BO O (Ba O) fun b1=>A1 A7 1 [] O (A6 (A0 O (A8 DD O O) (A0 O (B6 (i:=0) Bg O O (FP _) (BM _)) (A0 O (BL O O (Y5 d.type h1.ty.nd h1.ty.sz) O) (A5 A7 3 [] O (BO O (BG B4 O) fun b4=>A1 A7 2 [0,1] O (A6 (A0 O (A8 DD O O) (A0 O (BB (i:=1) DO O O (Cv _)) (A5 A7 2 [] O (A0 O (BB (i:=1) HY O O (CH _)) (A0 O (BT HN O (List.length_map _)) (A5 A7 2 [] O (A0 O (BT Bk O (Bc _)) (A0 O (A8 DD O O) (A0 O (BB (i:=1) DO O O (Cv _)) (A0 O (K4 O O Ax Ax) (A0 O (Fi O O) (A1 A7 2 [] O (A9 ?_))))))))))))))))))))));refine⟨O,_,_,⟨_,_,O,O,O⟩,(List.nil_sublist _),?_⟩
 all_goals exact⟨pI rfl,rfl⟩
theorem N7:∀(l:List Tm),(l.length<Dq)→Ep Tryz.prog 63 [.p (.lst (BN l))] (.p (.lst (BN l.reverse))):=by
 intro l h1;simp only[Dq] at h1;refine BF Tryz.func63 O ry (n:=20) O O (A3 A7 1 [] O (A3 A7 1 [] O (A2 (A6 (B3 O (A0 O (BT Bk O (Bc _)) (A1 A7 2 [] O (BJ (BQ (DS (t:=3) (sz:=5) O) (Bn (α:=Nat×Option Nat×Nat) (fun(m,o,cp)=>⟨20,mk [(0,.p (.lst (BN l))),(3,.vs o (BN ((l.drop m).reverse)).length cp),(4,.p (I ((m:Int) - 1)))],[.vec o 5 (BN ((l.drop m).reverse)) cp],[]⟩) (fun(m,o,cp)=>m) (fun(m,o,cp)=>m≤l.length) ⟨l.length,none,0⟩ AW ?_ ?_))))))))))
 ·exact Bh ⟨we O,we (IA [] Ay),we (pI Ax),Az⟩ (leH (is:=[0]) O (wl (HR [] Ay) (DJ)))
 rintro⟨m,o,cp⟩ hC
 try simp only at hC
 refine A2 (A3 A7 2 [] O (A4 O (fun c=>?_) (fun c=>?_)))
 ·(try simp only[sd,se] at c);refine BA (A2 (BJ (BC (A5 A7 3 [] O ?_))));obtain⟨x,hx⟩:=BE (l:=l) (i:=((m:Int) - 1:Int).toNat) Ax;refine A0 O (BD Bk O O Ax (Bj hx) (BM _)) (A0 O (BU Bg O (BM _)) ?_);obtain⟨xk,xi,xn,xl,xs⟩:=x;refine A0 O (Br Bk B4 O O O O O) (EN O O (CE (i:=0) (rows':=BN [(.mk xk xi xn xl xs:Tm)]) Bk Bk B4 O O O O O O (B1 _) (by simp only[Bc,List.length_reverse,List.length_drop,List.length_cons,List.length_nil];omega) (Hk ((l.drop m).reverse) [(.mk xk xi xn xl xs:Tm)])) fun o1 cp1=>A1 A7 1 [] O (BC (A1 A7 3 [] O ?_)));refine⟨⟨m - 1,o1,cp1⟩,Ac,by first | trivial | omega | (simp only;omega) | (simp;omega),Bh ⟨we rfl,we (IA ((l.drop m).reverse++[(.mk xk xi xn xl xs:Tm)]) (Vx (by simpa using hx) Ax)),we (pI Ax),trivial⟩ (leH (is:=[0]) rfl (wl (HR ((l.drop m).reverse++[(.mk xk xi xn xl xs:Tm)]) (Vx (by simpa using hx) Ax)) (DJ)))⟩
 (try simp only[sd,se] at c);refine Bo (A3 A7 2 [] O (BQ (Cf (i:=0) [3,19,2] O (Ds ⟨O,O,O,Az⟩)) (A9 (⟨O,_,_,⟨_,_,O,O,O⟩,(List.nil_sublist _),?_⟩))))
 all_goals exact⟨by show (.p (.lst (BN ((l.drop m).reverse))):AV)=_;rw[show m=0 by omega,List.drop_zero],rfl⟩
theorem SJ:∀(ds:List CX) (h:Tm),(Hj ds)→Ep Tryz.prog 47 [.p (.lst (List.map Bu ds)),.agg ((Bb h).map .p)] (.tup [.agg ((Dn ((Bw ds h.name).1)).map .p),.p (.bool (Tg ds h))]):=by
 intro ds h h1;obtain⟨hk,hi,hn,hl,hs⟩:=h;refine BF Tryz.func47 O sm (n:=26) O O (A6 (BO O (Ba O) fun b3=>BO O (BG Hw O) fun b4=>A1 A7 1 [] O (A6 (A5 A7 3 [1] O (A0 O (BL O O (Lv ds hn h1) O) (A5 A7 3 [] O (BO O (BG Hw O) fun b6=>A1 A7 2 [0,1] O (A2 (B0 (fun k=>false) Dt (BZ A7 4 [0] O (D9 18 O (fun g=>?_) (fun g=>?_))))))))))))
 ·(try simp only[sd,se] at g);refine BZ A7 2 [2] O (Cm O (fun _=>BT Em O (List.length_map _)) Az (Cm O (fun _=>A8 Fv O O) Az (MI (i:=0) O O O O O (fun H i hi=>BB (i:=i) DO O hi (Hq _)) AB Az (Bt A7 4 [1,1] O (A9 (⟨O,_,_,⟨_,_,O,(BI (i:=1) Ld O O An),⟨_,_,O,O,O⟩⟩,(List.nil_sublist _),?_⟩))))))
  all_goals exact⟨by show (.tup [.agg ((Dn ((Bw ds hn).1)).map .p),.p (.bool (((hl.length:Nat):Int)==(((Bw ds hn).1).params:Int)))]:AV)=_;rw[gF (k:=hk) (i:=hi) (ks:=hs) (by first | exact g | omega)];rfl,rfl⟩
 (try simp only[sd,se] at g);refine Bt A7 9 [1,1] O (A9 (⟨O,_,_,⟨_,_,O,(BI (i:=1) Ld O O An),⟨_,_,O,O,O⟩⟩,(List.nil_sublist _),?_⟩))
 all_goals exact⟨by show (.tup [.agg ((Dn ((Bw ds hn).1)).map .p),.p (.bool false)]:AV)=_;rw[kX (k:=hk) (i:=hi) (ls:=hl) (ks:=hs) (by first | exact g | omega)];rfl,rfl⟩
end Go.Proofs.YtboammbpdaoojaaGreat
namespace Go.Eu
open Go.Abs
def Out.ex {α:Type}:Out α→Except Int α
 | .ok a=> .ok a
 | .stuck=> .error 0
 | .fail=> .error 0
section
variable {α β σ:Type}
theorem Ij {o:Out α}{a:α}(h:o.ex= .ok a):o= .ok a:=by
 cases o<;>simp[Out.ex] at h;rw[h]
theorem DX {o:Out α}{a:α}(h:o= .ok a):o.ex= .ok a:=by rw[h];rfl
theorem k0 {o:Out α}{e:Int}(hs:o≠ .stuck) (h:o.ex= .error e):o= .fail∧e=0:=by
 cases o with
 | stuck=>exact absurd rfl hs
 | fail=>simp[Out.ex] at h;exact⟨rfl,h.symm⟩
 | ok a=>simp[Out.ex] at h
theorem ju {o:Out α}(h:o= .fail):o.ex= .error 0:=by rw[h];rfl
theorem GN {o:Out α}{k:α→Out β}{b:β}(h:o.bind k= .ok b):∃a,o= .ok a∧k a= .ok b:=by
 cases o with
 | stuck=>simp[Out.bind] at h
 | fail=>simp[Out.bind] at h
 | ok a=>exact⟨a,rfl,h⟩
theorem Jo {o:Out α}{k:α→Out β}(h:o.bind k≠ .stuck):o≠ .stuck:=fun e=>h (by rw[e];rfl)
theorem Mc {o:Out α}{k:α→Out β}{a:α}(h:o.ex= .ok a):o.bind k=k a:=by rw[Ij h];rfl
theorem LI {o:Out α}{k:α→Out β}{e:Int}(h:o.bind k≠ .stuck) (he:o.ex= .error e):(o.bind k).ex= .error e:=by
 obtain⟨h1,h2⟩:=k0 (Jo h) he;subst h2;rw[h1];rfl
theorem Nn {o:Out (Tm×σ)}{k:Tm×σ→Out β}{b:β}(h:o.chk k= .ok b):∃r,o= .ok r∧okB r.1=true∧k r= .ok b:=by
 obtain⟨r,h1,h2⟩:=GN h;split at h2
 ·rename_i hr;exact⟨r,h1,hr,h2⟩
 cases h2
theorem VQ {o:Out (Tm×σ)}{k:Tm×σ→Out β}(h:o.chk k≠ .stuck):o≠ .stuck:=Jo h
theorem VH {o:Out (Tm×σ)}{k:Tm×σ→Out β}{r:Tm×σ}(hs:o.chk k≠ .stuck) (h:o.ex= .ok r):okB r.1=true∧o.chk k=k r:=by
 have h1:=Ij h;subst h1;simp only[Out.chk,Out.bind] at hs ⊢;split at hs
 ·rename_i hr;exact⟨hr,by rw[if_pos hr]⟩
 exact absurd O hs
theorem Ur {o:Out (Tm×σ)}{k:Tm×σ→Out β}{e:Int}(h:o.chk k≠ .stuck) (he:o.ex= .error e):(o.chk k).ex= .error e:=LI h he
theorem HH {s:EK}{x:Tm×Int}{k:Tm→EK→Out α}(h:Dh.put s x k≠ .stuck):okB x.1=true∧Dh.put s x k=k x.1 (s.result x.1 x.2):=by
 unfold Sys.put at h ⊢;split at h
 ·rename_i hx;exact⟨hx,by rw[if_pos hx];rfl⟩
 exact absurd O h
theorem Zs {s:Int}{x:Tm×Int}{k:Tm→Int→Out α}(h:CN.put s x k≠ .stuck):okB x.1=true∧CN.put s x k=if s - 1<0∨x.2≠0 then .fail else k x.1 (s - 1):=by
 unfold Sys.put at h ⊢;split at h
 ·rename_i hx;refine⟨hx,?_⟩;rw[if_pos hx];simp only[CN];by_cases c:s - 1<0∨x.2≠0
  ·rw[if_pos c,if_pos c]
  rw[if_neg c,if_neg c]
 exact absurd O h
end
section
variable {E:List CX}{σ:Type}{S:Sys σ}{W:σ→Tm→Out (Tm×σ)}{n:Nat}{t:FY}{v:List Tm}{l:Tm}{s:σ}{x:Tm}
def Re (E:List CX) (S:Sys σ) (W:σ→Tm→Out (Tm×σ)) (n:Nat) (t:FY) (v:List Tm) (r:Tm×σ):Out ((Option (Tm×List Tm)×Tm)×σ):=match DQ E r.1 with
 | none=> .ok ((none,r.1),r.2)
 | some (d,j,fields)=>match C3 (El d j).name t.branches with
  | none=> .ok ((none,r.1),r.2)
  | some t'=>E4 E S W n t' (v++fields) r.1 r.2
theorem Sy {X:Out ((Option (Tm×List Tm)×Tm)×σ)}(h:E4 E S W n t v l s=X) (hX:X≠ .stuck):∃k,n=k+1:=by
 cases n with
 | zero=>rw[E4] at h;exact absurd h.symm hX
 | succ k=>exact⟨k,rfl⟩
theorem Mi (h:t.kind≠1):E4 E S W (n+1) t v l s= .ok ((some (t.body,v),Bp),s):=by rw[E4,if_neg h]
theorem Of (h:t.kind=1) (hb:t.var<0∨t.var≥(v.length:Int)∨S.over s=true):E4 E S W (n+1) t v l s= .ok ((none,l),s):=by rw[E4,if_pos h,if_pos hb]
theorem Qb (h:t.kind=1) (hb:¬(t.var<0∨t.var≥(v.length:Int)∨S.over s=true)) (hx:v[t.var.toNat]?=some x):E4 E S W (n+1) t v l s=(W s x).chk (Re E S W n t v):=by
 rw[E4,if_pos h,if_neg hb,CI hx];rfl
theorem Kj {r:Tm×σ}(h:DQ E r.1=none):Re E S W n t v r= .ok ((none,r.1),r.2):=by unfold Re;rw[h]
theorem Nv {r:Tm×σ}{d:CX}{j:Int}{f:List Tm}(h:DQ E r.1=some (d,j,f)) (hb:C3 (El d j).name t.branches=none):Re E S W n t v r= .ok ((none,r.1),r.2):=by unfold Re;rw[h];simp only[hb]
theorem OP {r:Tm×σ}{d:CX}{j:Int}{f:List Tm}{t':FY}(h:DQ E r.1=some (d,j,f)) (hb:C3 (El d j).name t.branches=some t'):Re E S W n t v r=E4 E S W n t' (v++f) r.1 r.2:=by unfold Re;rw[h];simp only[hb]
end
section
variable {E:List CX}{σ:Type}{S:Sys σ}{W:σ→Tm→Out (Tm×σ)}{n:Nat}{h m:Tm}{a:List Tm}{s:σ}{d:CX}{x:Gg}
theorem KN (he:(By d.value h.levels).2≠0):FB S d h a s= .ok (none,s):=by rw[FB,if_pos he]
theorem Kc (he:(By d.value h.levels).2=0):FB S d h a s=S.put s ((By d.value h.levels).1,0) fun t s'=> .ok (some (apply t a),s'):=by rw[FB,if_neg Ax]
theorem Mk (hc:DQ E m=none):FG E S d h a m s= .ok (none,s):=by unfold FG;rw[hc]
theorem Qh {e:CX}{j:Int}{f:List Tm}(hc:DQ E m=some (e,j,f)) (hn:e.name≠d.name∨j≥(d.recs.rules.length:Int)):FG E S d h a m s= .ok (none,s):=by unfold FG;rw[hc];simp only[if_pos hn]
theorem Lr {e:CX}{j:Int}{f:List Tm}{r:Tm}(hc:DQ E m=some (e,j,f)) (hn:¬(e.name≠d.name∨j≥(d.recs.rules.length:Int))) (hr:d.recs.rules[j.toNat]?=some r) (he:(By r h.levels).2≠0):FG E S d h a m s= .ok (none,s):=by
 unfold FG;rw[hc];simp only[if_neg hn,VT,CI hr,if_pos he]
theorem MX {e:CX}{j:Int}{f:List Tm}{r:Tm}(hc:DQ E m=some (e,j,f)) (hn:¬(e.name≠d.name∨j≥(d.recs.rules.length:Int))) (hr:d.recs.rules[j.toNat]?=some r) (he:(By r h.levels).2=0) :
  FG E S d h a m s=S.put s (apply (apply (By r h.levels).1 (a.take (d.fixed+1+d.ctors.length).toNat)) f,0) fun t s'=> .ok (some (apply t (a.drop (CQ d+1).toNat)),s'):=by
 unfold FG;rw[hc];simp only[if_neg hn,VT,CI hr,if_neg (show ¬(By r h.levels).2≠0 by omega)]
theorem JU {b:Tm}{vars rest:List Tm}(he:(By b h.levels).2≠0):Gr S h b vars rest s= .ok (none,s):=by rw[Gr,if_pos he]
theorem QZ {b:Tm}{vars rest:List Tm}(hs:Gr S h b vars rest s≠ .stuck) (he:(By b h.levels).2=0):okB (By b h.levels).1=true∧(∀v∈vars,okB v=true)∧Bl vars<1125899906842624∧Gr S h b vars rest s=S.put s (CT (By b h.levels).1 vars.reverse 0) fun t s'=> .ok (some (apply t rest),s'):=by
 rw[Gr,if_neg Ax] at hs ⊢;split at hs
 ·exact absurd O hs
 rename_i hc;have hn:=hc;simp only[not_or,Bool.not_eq_false] at hc;exact⟨hc.1,fun v hv=>List.all_eq_true.1 hc.2.1 v hv,by omega,by rw[if_neg hn]⟩
def RJ (S:Sys σ) (f:Hi) (h:Tm) (a:List Tm) (q:(Option (Tm×List Tm)×Tm)×σ):Out (Option Tm×σ):=match q.1.1 with
 | none=> .ok (none,q.2)
 | some (b,vars)=>if S.over q.2=true then .ok (none,q.2) else Gr S h b vars (a.drop f.arity.toNat) q.2
theorem Tf {f:Hi}(hl:(a.length:Int)<f.arity):KE E S W n f h a s= .ok (none,s):=by rw[KE,if_pos hl]
theorem XA {f:Hi}(hl:¬(a.length:Int)<f.arity):KE E S W n f h a s=(E4 E S W n f.tree (a.take f.arity.toNat) Bp s).bind (RJ S f h a):=by rw[KE,if_neg hl];rfl
theorem Zg (hl:(a.length:Int)≤CQ d):Sa E S W d h a s= .ok (none,s):=by rw[Sa,if_pos hl]
theorem e8 {y:Tm}(hl:¬(a.length:Int)≤CQ d) (hy:a[(CQ d).toNat]?=some y):Sa E S W d h a s=(W s y).chk fun r=>FG E S d h a r.1 r.2:=by rw[Sa,if_neg hl,CI hy]
theorem Q5 (hu:Tg E h=false):Fk E S W n h a s= .ok (none,s):=by
 unfold Fk;rw[Cz,hu];simp
section
variable (hu:Tg E h=true) (hd:E[(Bw E h.name).1.decl.toNat]?=some d)
include hu hd
theorem Mg (hk:(Bw E h.name).1.kind=1):Fk E S W n h a s=FB S d h a s:=by
 unfold Fk;rw[Cz,hu,if_pos rfl];simp only[if_pos hk,Cl,CI hd]
theorem Pb (hk:(Bw E h.name).1.kind=5):Fk E S W n h a s=Sa E S W d h a s:=by
 unfold Fk;rw[Cz,hu,if_pos rfl];simp only[hk,Cl,CI hd];rfl
theorem PC {f:Hi}(hk:(Bw E h.name).1.kind=6) (hf:d.funs[(Bw E h.name).1.item.toNat]?=some f):Fk E S W n h a s=KE E S W n f h a s:=by
 unfold Fk;rw[Cz,hu,if_pos rfl];simp only[hk,Cl,CI hd,FL,CI hf];rfl
omit hd
theorem Ly (h1:(Bw E h.name).1.kind≠1) (h5:(Bw E h.name).1.kind≠5) (h6:(Bw E h.name).1.kind≠6):Fk E S W n h a s= .ok (none,s):=by
 unfold Fk;rw[Cz,hu,if_pos rfl];simp only[if_neg h1,if_neg h5,if_neg h6]
end
end
section
variable {E:List CX}{σ:Type}{S:Sys σ}{n:Nat}{t:Tm}{s:σ}{X:Out (Tm×σ)}
theorem ZH (h:FF E S n s t=X) (hX:X≠ .stuck):∃k,n=k+1:=by
 cases n with
 | zero=>rw[FF] at h;exact absurd h.symm hX
 | succ k=>exact⟨k,rfl⟩
theorem ed (h:FF E S (n+1) s t=X) (hX:X≠ .stuck):okB t=true:=by
 rw[FF] at h;split at h
 ·exact absurd h.symm hX
 rename_i hc;simpa using hc
theorem jk (ho:okB t=true) (h:S.over s=true):FF E S (n+1) s t= .ok (t,s):=by rw[FF,if_neg (by simp[ho]),if_pos h]
theorem j3 (ho:okB t=true) (h:S.over s=false) (hm:S.many (BH t).2.length=true):FF E S (n+1) s t= .fail:=by rw[FF,if_neg (by simp[ho]),if_neg (by simp[h]),if_pos hm]
section
variable (ho:okB t=true) (h:S.over s=false) (hm:S.many (BH t).2.length=false)
include ho h hm
theorem Y3 (hk:(BH t).1.kind=5) (hl:(BH t).2.length=0):FF E S (n+1) s t= .ok (t,s):=by
 rw[FF,if_neg (by simp[ho]),if_neg (by simp[h]),if_neg (by simp[hm]),if_pos hk,if_pos hl]
theorem gJ {b:Tm}(hk:(BH t).1.kind=5) (hl:(BH t).2.length≠0) (hb:(BH t).1.kids[1]?=some b) :
  FF E S (n+1) s t=S.put s (CT b ((BH t).2.take 1) 0) fun x s'=>FF E S n s' (apply x ((BH t).2.drop 1)):=by
 rw[FF,if_neg (by simp[ho]),if_neg (by simp[h]),if_neg (by simp[hm]),if_pos hk,if_neg hl,L1,hb]
theorem da {v b:Tm}(hk:(BH t).1.kind=11) (hv:(BH t).1.kids[1]?=some v) (hb:(BH t).1.kids[2]?=some b) :
  FF E S (n+1) s t=S.put s (CT b [v] 0) fun x s'=>FF E S n s' (apply x (BH t).2):=by
 rw[FF,if_neg (by simp[ho]),if_neg (by simp[h]),if_neg (by simp[hm]),if_neg Ax,if_pos hk,Q2,hv,hb]
def Wr (E:List CX) (S:Sys σ) (n:Nat) (h:Tm) (a:List Tm) (r:Tm×σ):Out (Tm×σ) :=
 if r.1.kind≠8 then .ok (apply (Hd h.kind r.1) a,r.2) else LP S h r.1 a r.2 fun x s'=>FF E S n s' x
theorem Z2 {p:Tm}(hk:(BH t).1.kind=9∨(BH t).1.kind=10) (hp:(BH t).1.kids[0]?=some p) :
  FF E S (n+1) s t=(FF E S n s p).chk (Wr E S n (BH t).1 (BH t).2):=by
 rw[FF,if_neg (by simp[ho]),if_neg (by simp[h]),if_neg (by simp[hm]),if_neg Ax,if_neg Ax,if_pos hk,hp];rfl
def cj (E:List CX) (S:Sys σ) (n:Nat) (t:Tm) (r:Option Tm×σ):Out (Tm×σ):=match r.1 with
 | none=> .ok (t,r.2)
 | some x=>FF E S n r.2 x
theorem Vj (hk:(BH t).1.kind=3):FF E S (n+1) s t=(Fk E S (FF E S n) n (BH t).1 (BH t).2 s).bind (cj E S n t):=by
 rw[FF,if_neg (by simp[ho]),if_neg (by simp[h]),if_neg (by simp[hm]),if_neg Ax,if_neg Ax,if_neg Ax,if_pos hk];rfl
theorem kR (h1:(BH t).1.kind≠5) (h2:(BH t).1.kind≠11) (h3:(BH t).1.kind≠9) (h4:(BH t).1.kind≠10) (h5:(BH t).1.kind≠3):FF E S (n+1) s t= .ok (t,s):=by
 rw[FF,if_neg (by simp[ho]),if_neg (by simp[h]),if_neg (by simp[hm]),if_neg h1,if_neg h2,if_neg Ax,if_neg h5]
end
theorem WZ {h:Tm}{a:List Tm}{r:Tm×σ}(hk:r.1.kind≠8):Wr E S n h a r= .ok (apply (Hd h.kind r.1) a,r.2):=by rw[Wr,if_pos hk]
theorem XG {h:Tm}{a:List Tm}{r:Tm×σ}{q:Tm}(hk:r.1.kind=8) (hq:r.1.kids[(1+h.kind - 9).toNat]?=some q):Wr E S n h a r=S.put r.2 (q,0) fun x s'=>FF E S n s' (apply x a):=by
 rw[Wr,if_neg Ax,LP,hq]
end
theorem E8 {vs:List Tm}(h:∀v∈vs,okB v=true):Lx vs∧Np vs∧Tk vs:=NI vs (KK.2 fun t ht=>La (h t ht))
theorem Zk {vs:List Tm}(h:∀v∈vs,okB v=true) (hl:vs.length<549755813888):QS vs 0 :=
 ⟨(E8 h).2.1,(E8 h).2.2,fun x hx=>by have:=FA (h x hx);omega,by omega,by omega,by omega⟩
theorem Kx {b:Tm}{vs:List Tm}(hb:okB b=true) (hv:∀v∈vs,okB v=true):size (CT b vs 0).1≤4096 :=
 V5 b vs 0 (CJ.1 hb).wt (E8 hv).2.1 fun x hx=>by have:=FA (hv x hx);omega
theorem O4 {b:Tm}{vs:List Tm}(hb:okB b=true) (hv:∀v∈vs,okB v=true) (hl:vs.length<549755813888):okB (CT b vs 0).1=true:=by
 have o:=CJ.1 hb;obtain⟨h1,h2,h3⟩:=E8 hv;have:=Kx hb hv;exact CJ.2 ⟨aP b vs 0 o.nd h1,bK b vs 0 o.wt h2,bF (Zk hv hl) o.vp (by have:=o.sz;omega),by omega⟩
theorem JO.zero:JO Ft:=JO.num (n:=0) Ax
theorem Pn {ps:List Ci}(hp:∀p∈ps,CL p=true):∀(vs:List CS) (out:Ci),JO out→(∀v∈vs,(0≤v.plus∧v.plus≤100)∧ -65536≤v.index∧v.index<8)→JO (Gf ps out vs).1
 | [],out,h,_=>h
 | v::vs,out,h,hv=>by
  have h1:=hv v Ay;have h2:∀u∈vs,(0≤u.plus∧u.plus≤100)∧ -65536≤u.index∧u.index<8:=fun u hu=>hv u (by simp[hu]);rw[Gf];split
  ·rename_i hi;split
   ·exact JO.zero
   rename_i he;refine Pn hp vs _ (h.join ?_) h2;have hlt:v.index.toNat<ps.length:=by omega
   have hg:ps.getD v.index.toNat default∈ps:=by rw[CI (List.getElem?_eq_getElem hlt)];exact List.getElem_mem hlt
   exact JO.plus (hp _ hg) h1.1.1 h1.1.2 (Decidable.not_not.1 he)
  exact Pn hp vs _ (h.join (JO.one h1)) h2
theorem Xj (l:Ci) (ps:List Ci):JO (C7 l ps).1:=by
 unfold C7;split
 ·exact JO.zero
 rename_i h;simp only[not_or,Bool.not_eq_false,List.all_eq_true] at h;split
 ·exact JO.zero
 have hl:=JO.of h.1;exact Pn h.2 l.vars _ (JO.num hl.c) hl.rg
theorem UD (ps:List Ci):∀(ls:List Ci) (er:Int),(Fc ps er ls).1.length=ls.length∧(Fc ps er ls).1.all Yh=true
 | [],er=>⟨rfl,rfl⟩
 | l::ls,er=>by
  obtain⟨h1,h2⟩:=UD ps ls (Gn er (C7 l ps).2);simp only[Fc,List.length_cons,List.all_cons,Bool.and_eq_true];exact⟨by rw[h1],ZF (Xj l ps).nd,h2⟩
mutual
theorem Rc (ps:List Ci):∀(t:Tm) (er:Int),Tb t=true→Tb (Hv ps er t).1=true∧size (Hv ps er t).1=size t
 | .mk k i n ls ks,er,h=>by
  rw[Lp,Bool.and_eq_true] at h;obtain⟨h1,h2⟩:=UD ps ls er;obtain⟨h3,h4,h5⟩:=T3 ps ks (Fc ps er ls).2 h.2;simp only[Hv,Lp,size,Bool.and_eq_true];refine⟨⟨?_,h4⟩,by rw[h5]⟩;have g:=h.1;simp only[nX,Bool.and_eq_true] at g ⊢;rw[h1,h3];exact⟨⟨⟨⟨⟨⟨⟨⟨g.1.1.1.1.1.1.1.1,g.1.1.1.1.1.1.1.2⟩,h2⟩,g.1.1.1.1.1.2⟩,g.1.1.1.1.2⟩,g.1.1.1.2⟩,g.1.1.2⟩,g.1.2⟩,g.2⟩
theorem T3 (ps:List Ci):∀(ts:List Tm) (er:Int),Lb ts=true→(Gt ps er ts).1.length=ts.length∧Lb (Gt ps er ts).1=true∧Bl (Gt ps er ts).1=Bl ts
 | [],er,_=>⟨rfl,rfl,rfl⟩
 | t::ts,er,h=>by
  simp only[Lb,Bool.and_eq_true] at h;obtain⟨h1,h2⟩:=Rc ps t er h.1;obtain⟨h3,h4,h5⟩:=T3 ps ts (Hv ps er t).2 h.2;simp only[Gt,List.length_cons,Lb,Bool.and_eq_true,Bl];exact⟨by rw[h3],⟨h1,h4⟩,by rw[h2,h5]⟩
end
theorem e9:Tb Bp=true:=by decide
theorem MF:okB Bp=true:=by decide
theorem L3 {t:Tm}(ps:List Ci) (h:okB t=true):size (By t ps).1≤size t:=by
 unfold By;split
 ·exact size_pos t
 exact Nat.le_of_eq (Rc ps t 0 (La h)).2
theorem PB {t:Tm}(ps:List Ci) (h:okB t=true):okB (By t ps).1=true:=by
 have:=L3 ps h;have:=FA h;refine PJ ?_ Ax;unfold By;split
 ·exact e9
 exact(Rc ps t 0 (La h)).1
theorem Hu {f:Tm}{xs:List Tm}(h:okB f=true) (hx:∀x∈xs,okB x=true) (hs:size f+Bl xs+xs.length<549755813888):okB (apply f xs)=true :=
 PJ (Ki (La h) fun x hx'=>La (hx x hx')) (by rw[DM];exact hs)
theorem iS {k:Int}{p:Tm}(hk:k=9∨k=10) (h:okB p=true) (hs:size p+1<549755813888):okB (Hd k p)=true:=by
 refine PJ ?_ (by simp only[Hd,size,Bl];omega);rw[Hd,Lp,Bool.and_eq_true];refine⟨?_,by simp[Lb,La h]⟩;rcases hk with rfl | rfl<;>rfl
theorem DL (l:List Tm) (k:Nat):Bl (l.take k)+Bl (l.drop k)=Bl l:=by rw[←JG,List.take_append_drop]
theorem MR {l:List Tm}{i:Nat}{x y:Tm}(h:l[i]?=some x):Bl (l.set i y)+size x=Bl l+size y:=by
 induction l generalizing i with
 | nil=>simp at h
 | cons a l ih =>
  cases i with
  | zero=>simp at h;subst h;simp only[List.set_cons_zero,Bl];omega
  | succ i =>
   have:=ih (i:=i) (by simpa using h);simp only[List.set_cons_succ,Bl];omega
theorem GC:∀(t:Tm),size (BH t).1+Bl (BH t).2+(BH t).2.length=size t
 | .mk k i n l [f,a]=>by
  unfold BH;split
  ·have:=GC f;simp only[JG,Bl,size,List.length_append,List.length_cons,List.length_nil];omega
  ·simp[Bl]
 | .mk k i n l []=>by simp[BH,Bl]
 | .mk k i n l [_]=>by simp[BH,Bl]
 | .mk k i n l (_::_::_::_)=>by simp[BH,Bl]
mutual
def EC:FY→Nat
 | .mk _ _ _ l=>1+K5 l
def Ym:GU→Nat
 | .mk _ _ t=>EC t
def K5:List GU→Nat
 | []=>0
 | b::l=>max (Ym b) (K5 l)
end
theorem YU:∀t:FY,1≤EC t
 | .mk k b v l=>by simp only[EC];omega
structure Gz (E:List CX):Prop where
 g:KB E
 vl:∀d∈E,size d.value≤400
 ru:∀d∈E,∀t∈d.recs.rules,size t≤400
 fu:∀d∈E,∀f∈d.funs,EC f.tree≤50
theorem WJ {nm:ByteArray}:∀{l:List GU}{t:FY},C3 nm l=some t→RT l→Fz t∧EC t≤K5 l
 | .mk c a q::l,t,h,ho=>by
  simp only[RT,kO] at ho;rw[C3] at h;simp only[K5,Ym];split at h
  ·split at h
   ·cases h
   cases h;exact⟨ho.1,by simp only[GU.tree];omega⟩
  obtain⟨h1,h2⟩:=WJ h ho.2;exact⟨h1,by omega⟩
theorem X8 {nm:ByteArray}{t t':FY}(h:C3 nm t.branches=some t') (ho:Fz t):Fz t'∧EC t' < EC t:=by
 obtain⟨k,b,v,l⟩:=t;simp only[Fz] at ho;obtain⟨h1,h2⟩:=WJ h ho.2;exact⟨h1,by simp only[EC,FY.branches] at *;omega⟩
theorem JV {E:List CX}{h:Tm}(hu:Tg E h=true):∃(i:Nat) (d:CX),E[i]?=some d∧ZV d i (Bw E h.name).1∧d∈E∧E[(Bw E h.name).1.decl.toNat]?=some d:=by
 simp only[Tg,Bool.and_eq_true,decide_eq_true_eq] at hu;obtain⟨i,d,h1,h2⟩:=N4 hu.1;exact⟨i,d,h1,h2,List.mem_of_getElem? h1,by rw[h2.decl];simpa using h1⟩
theorem Tn {E:List CX}{nm:ByteArray}{d:CX}{j:Int}(h:Hh E nm=some (d,j)):d∈E∧(0≤j→j<d.ctors.length):=by
 unfold Hh at h;split at h
 ·cases h
 rename_i h0;obtain⟨i,d',h1,h2⟩:=N4 (Decidable.not_not.1 h0);have hd:Cl E (Bw E nm).1.decl=d':=CI (by rw[h2.decl];simpa using h1);have hm:=List.mem_of_getElem? h1;rw[hd] at h;split at h
 ·cases h;exact⟨hm,fun q=>by omega⟩
 split at h
 ·rename_i h4;obtain⟨k,c,h5,h6⟩:=h2.ctor h4;cases h;exact⟨hm,fun _=>by have:=(List.getElem?_eq_some_iff.1 h5).1;omega⟩
 split at h
 ·cases h;exact⟨hm,fun q=>by omega⟩
 cases h
structure lL (E:List CX) (t:Tm) (d:CX) (j:Int) (f:List Tm):Prop where
 mem:d∈E
 lo:0≤j
 hi:j<d.ctors.length
 fs:f=(BH t).2.drop d.fixed.toNat
 len:((BH t).2.length:Int)=d.fixed+Fh d j
 kind:(BH t).1.kind=3
theorem Ek {E:List CX}{t:Tm}{d:CX}{j:Int}{f:List Tm}(h:DQ E t=some (d,j,f)):lL E t d j f:=by
 unfold DQ at h;split at h
 ·cases h
 rename_i hk;split at h
 ·cases h
 rename_i d' j' hf;obtain⟨h1,h2⟩:=Tn hf;split at h
 ·cases h
 split at h
 ·cases h
 rename_i h3 h4;cases h;exact⟨h1,by omega,h2 Ax,rfl,Decidable.not_not.1 h4,Decidable.not_not.1 hk⟩
theorem L9 {E:List CX}{t:Tm}{d:CX}{j:Int}{f:List Tm}(h:DQ E t=some (d,j,f)) (ho:okB t=true):(∀x∈f,okB x=true∧size x<size t)∧Bl f+f.length<size t:=by
 have c:=Ek h;have hs:=GC t;have hp:=size_pos (BH t).1;have hd:=DL (BH t).2 d.fixed.toNat;rw[c.fs];refine⟨fun x hx=>⟨(IJ ho).2 x (List.mem_of_mem_drop hx),?_⟩,by rw[List.length_drop];omega⟩;have:=Gi (List.mem_of_mem_drop hx);omega
theorem Ir {E:List CX}{t:Tm}{d:CX}{j:Int}{f:List Tm}(hE:KB E) (h:DQ E t=some (d,j,f)):f.length≤1000000:=by
 have c:=Ek h;have hd:=hE.all d c.mem;have hlo:=c.lo;have hhi:=c.hi;have hlt:j.toNat<d.ctors.length:=by omega
 have hx:=List.getElem?_eq_getElem hlt;have hs:=(hd.din.cs _ (List.getElem_mem hlt)).ty.sz;have hl:=Is d.ctors[j.toNat].type;have hfx:=hd.fx;have hlen:=c.len;rw[c.fs,List.length_drop];unfold Fh Yc El at hlen;rw[CI hx] at hlen;omega
def ER {α:Type}(o:Out α) (p:α→Prop):Prop:=match o with
 | .stuck=>False
 | .fail=>True
 | .ok a=>p a
section
variable {α β σ:Type}
theorem ER.ok {a:α}{p:α→Prop}(h:p a):ER (.ok a) p:=h
theorem ER.ns {o:Out α}{p:α→Prop}(h:ER o p):o≠ .stuck:=fun e=>by rw[e] at h;exact h
theorem ER.get {o:Out α}{p:α→Prop}{a:α}(h:ER o p) (e:o= .ok a):p a:=by rw[e] at h;exact h
theorem ER.mono {o:Out α}{p q:α→Prop}(h:ER o p) (hpq:∀a,p a→q a):ER o q:=by
 cases o with
 | stuck=>exact h
 | fail=>trivial
 | ok a=>exact hpq a h
theorem ER.bind {o:Out α}{k:α→Out β}{p:α→Prop}{q:β→Prop}(h:ER o p) (hk:∀a,p a→ER (k a) q):ER (o.bind k) q:=by
 cases o with
 | stuck=>exact h
 | fail=>trivial
 | ok a=>exact hk a h
theorem ER.chk {o:Out (Tm×σ)}{k:Tm×σ→Out β}{p:Tm×σ→Prop}{q:β→Prop}(h:ER o p) (hk:∀a,p a→okB a.1=true∧ER (k a) q):ER (o.chk k) q :=
 ER.bind h fun a ha=>by rw[if_pos (hk a ha).1];exact(hk a ha).2
theorem ER.put {S:Sys σ}{s:σ}{x:Tm×Int}{k:Tm→σ→Out β}{q:β→Prop}(ho:okB x.1=true) (hk:∀s',S.res s x.1 x.2=some s'→ER (k x.1 s') q):ER (S.put s x k) q:=by
 unfold Sys.put;rw[if_pos ho];cases h:S.res s x.1 x.2 with
 | none=>trivial
 | some s'=>exact hk s' h
end
structure X4 {σ:Type} (S:Sys σ) (J:σ→Prop) (cnt:σ→Nat) (C:Nat):Prop where
 nov:∀s,J s→S.over s=false→cnt s≤C
 res:∀s t e s',J s→cnt s<1152921504606846976→okB t=true→S.res s t e=some s'→J s'∧cnt s'=cnt s+1
 hC:C≤20000
section
variable {σ:Type}(S:Sys σ) (J:σ→Prop) (cnt:σ→Nat) (C:Nat)
structure oO (s:σ) (t:Tm) (r:Tm×σ):Prop where
 j:J r.2
 ok:okB r.1=true
 le:cnt s≤cnt r.2
 sz:size r.1≤size t+(cnt r.2 - cnt s)*4500
 ub:S.over s=false→cnt r.2≤C+1+size t+(C - cnt s)*4500
 st:S.over s=true→r.2=s
structure sD (n:Nat) (s:σ) (t:Tm):Prop where
 j:J s
 ok:okB t=true
 pm:S.over s=false→size t+(C - cnt s)*4500≤90100000
 fu:S.over s=false→size t+(C - cnt s)*4501+100≤n
 n1:1≤n
def nN (n:Nat) (W:σ→Tm→Out (Tm×σ)):Prop:=∀s t,sD S J cnt C n s t→ER (W s t) (oO S J cnt C s t)
end
section
variable {σ:Type}{S:Sys σ}{J:σ→Prop}{cnt:σ→Nat}{C:Nat}{E:List CX}{n:Nat}{W:σ→Tm→Out (Tm×σ)}
variable (hS:X4 S J cnt C) (hE:Gz E) (hW:nN S J cnt C n W)
structure uW (S:Sys σ) (J:σ→Prop) (cnt:σ→Nat) (C n V Z:Nat) (s:σ) (vars:List Tm) (last:Tm):Prop where
 j:J s
 ok:∀v∈vars,okB v=true
 lok:okB last=true
 pm:S.over s=false→∀v∈vars,size v+(C - cnt s)*4500≤V
 fu:S.over s=false→∀v∈vars,size v+(C - cnt s)*4501+100≤n
 lm:S.over s=false→size last+(C - cnt s)*4500≤V∧size last+(C - cnt s)*4501+100≤n
 zs:∀v∈vars,size v≤Z
 lz:size last≤Z
structure tO (S:Sys σ) (J:σ→Prop) (cnt:σ→Nat) (C n V L Z:Nat) (s:σ) (q:(Option (Tm×List Tm)×Tm)×σ):Prop where
 j:J q.2
 le:cnt s≤cnt q.2
 ub:S.over s=false→cnt q.2≤C+1+V
 st:S.over s=true→q.2=s
 ok:∀b vars,q.1.1=some (b,vars)→okB b=true∧∀v∈vars,okB v=true
 vl:∀b vars,q.1.1=some (b,vars)→vars.length≤L∧Bl vars<1125899906842624
 lok:okB q.1.2=true
 lz:q.1.1=none→size q.1.2≤Z+(cnt q.2 - cnt s)*4500
 lm:S.over q.2=false→q.1.1=none→size q.1.2+(C - cnt q.2)*4500≤V∧size q.1.2+(C - cnt q.2)*4501+100≤n
include hS hE hW
end
section
variable {σ:Type}{S:Sys σ}{J:σ→Prop}{cnt:σ→Nat}{C:Nat}{E:List CX}{n:Nat}{W:σ→Tm→Out (Tm×σ)}
structure tJ (S:Sys σ) (J:σ→Prop) (cnt:σ→Nat) (C:Nat) (s:σ) (z:Nat) (r:Option Tm×σ):Prop where
 j:J r.2
 le:cnt s≤cnt r.2
 ub:cnt r.2≤C+1+z+(C - cnt s)*4500
 ok:∀x,r.1=some x→okB x=true∧cnt s+1≤cnt r.2∧size x≤z+(cnt r.2 - cnt s)*4500
variable (hS:X4 S J cnt C)
include hS
variable (hE:Gz E)
include hE
theorem dj {d:CX}{h m:Tm}{a:List Tm}{s:σ}(hd:d∈E) (hj:J s) (hc:cnt s≤90200000) (hm:okB m=true) (ha:∀x∈a,okB x=true) {z:Nat}{y:Tm}(hy:a[(CQ d).toNat]?=some y) (hz:Bl a+a.length+size m≤z+size y) (hz2:z≤500000000000) :
  ER (FG E S d h a m s) (fun r=>J r.2∧cnt s≤cnt r.2∧cnt r.2≤cnt s+1∧∀x,r.1=some x→okB x=true∧cnt r.2=cnt s+1∧size x≤z+4500):=by
 have hg:=hE.g.all d hd;have hnone:ER (.ok (none,s)) (fun r:Option Tm×σ=>J r.2∧cnt s≤cnt r.2∧cnt r.2≤cnt s+1∧∀x,r.1=some x→okB x=true∧cnt r.2=cnt s+1∧size x≤z+4500) :=
  ER.ok ⟨hj,Nat.le_refl _,by simp only;omega,fun x hx=>by cases hx⟩
 cases hcw:DQ E m with
 | none=>rw[Mk hcw];exact hnone
 | some q =>
  obtain⟨e,j,f⟩:=q;by_cases hn:e.name≠d.name∨j≥(d.recs.rules.length:Int)
  ·rw[Qh hcw hn];exact hnone
  have hcf:=Ek hcw;have hlo:=hcf.lo;have hlt:j.toNat<d.recs.rules.length:=by omega
  have hr:=List.getElem?_eq_getElem hlt;have hrm:=List.getElem_mem hlt;by_cases he:(By d.recs.rules[j.toNat] h.levels).2=0
  ·rw[MX hcw hn hr he];have h1:=hg.ru _ hrm;have h2:=PB h.levels h1;have h3:=L3 h.levels h1;have h4:=hE.ru d hd _ hrm;obtain⟨h5,h6⟩:=L9 hcw hm;have hni:=(F4 hg.din hg.fx).1;have hf0:=hg.fx.1;have hk:(d.fixed+1+d.ctors.length).toNat≤(CQ d).toNat:=by unfold CQ;omega
   have hnn:(CQ d+1).toNat=(CQ d).toNat+1:=by unfold CQ;omega
   have t1:=DL a (CQ d).toNat;have t2:=DL (a.take (CQ d).toNat) (d.fixed+1+d.ctors.length).toNat;rw[List.take_take,Nat.min_eq_left hk] at t2;rw[Cu hy] at t1;simp only[Bl] at t1;have hlen:=(List.getElem?_eq_some_iff.1 hy).1;have u1:=DM (a.take (d.fixed+1+d.ctors.length).toNat) (By d.recs.rules[j.toNat] h.levels).1;have u2:=DM f (apply (By d.recs.rules[j.toNat] h.levels).1 (a.take (d.fixed+1+d.ctors.length).toNat));have hl1:(a.take (d.fixed+1+d.ctors.length).toNat).length≤(CQ d).toNat:=by rw[List.length_take];omega
   have hl2:(a.drop ((CQ d).toNat+1)).length+(CQ d).toNat+1=a.length:=by rw[List.length_drop];omega
   have h7:okB (apply (apply (By d.recs.rules[j.toNat] h.levels).1 (a.take (d.fixed+1+d.ctors.length).toNat)) f)=true :=
    PJ (Ki (Ki (La h2) fun x hx=>La (ha x (List.mem_of_mem_take hx))) fun x hx=>La (h5 x hx).1) (by rw[u2,u1];omega)
   refine ER.put h7 fun s' hs'=>?_;obtain⟨h8,h9⟩:=hS.res _ _ _ _ hj Ax h7 hs';have u3:=DM (a.drop (CQ d+1).toNat) (apply (apply (By d.recs.rules[j.toNat] h.levels).1 (a.take (d.fixed+1+d.ctors.length).toNat)) f);rw[hnn] at u3;refine ER.ok ⟨h8,by simp only;omega,by simp only;omega,fun x hx=>?_⟩;simp only[Option.some.injEq] at hx;subst hx;rw[hnn];exact⟨PJ (Ki (La h7) fun x hx=>La (ha x (List.mem_of_mem_drop hx))) Ax,h9,by omega⟩
  rw[Lr hcw hn hr he];exact hnone
variable (hW:nN S J cnt C n W)
include hW
end
theorem Ny {h:Tm}(ho:okB h=true) {i:Nat}(hi:(i:Int)<arity h.kind):∃x,h.kids[i]?=some x∧okB x=true∧size x<size h:=by
 obtain⟨k,j,n,l,ks⟩:=h;have hw:=(CJ.1 ho).wt;simp only[Wt] at hw;simp only[Tm.kind] at hi;have hlt:i<ks.length:=by have:=hw.1;omega
 have hx:(Tm.mk k j n l ks).kids[i]?=some ks[i]:=List.getElem?_eq_getElem hlt;exact⟨ks[i],hx,E0 ho hx,by have:=Co (List.getElem?_eq_getElem hlt);simp only[size];omega⟩
section
variable {σ:Type}{S:Sys σ}{J:σ→Prop}{cnt:σ→Nat}{C:Nat}{E:List CX}
variable (hS:X4 S J cnt C) (hE:Gz E)
include hS
theorem eL {β:Type}{s:σ}{x:Tm×Int}{k:Tm→σ→Out β}{q:β→Prop}(hj:J s) (hc:cnt s<1152921504606846976) (ho:okB x.1=true) (hk:∀s',J s'→cnt s'=cnt s+1→ER (k x.1 s') q):ER (S.put s x k) q :=
 ER.put ho fun s' hs'=>by obtain⟨h1,h2⟩:=hS.res _ _ _ _ hj hc ho hs';exact hk s' h1 h2
theorem nK {β:Type}{h:Tm}{a:List Tm}{s:σ}{k:Tm→σ→Out β}{q:β→Prop}(hj:J s) (hc:cnt s<1152921504606846976) (hh:okB h=true) (ha:∀x∈a,okB x=true) (hk:h.kind=5) (hl:a.length≠0) (hz:Bl a+a.length<500000000000)
  (hq:∀x s',J s'→cnt s'=cnt s+1→okB x=true→size x≤4096+Bl a+a.length→ER (k x s') q):ER (L1 S h a s k) q:=by
 obtain⟨b,hb,ho,hs⟩:=Ny hh (i:=1) (by rw[hk];decide);rw[L1,hb];simp only;have hv:∀v∈a.take 1,okB v=true:=fun v hv=>ha v (List.mem_of_mem_take hv);have h1:=O4 ho hv (by rw[List.length_take];omega);have h2:=Kx ho hv;refine eL hS hj hc h1 fun s' g1 g2=>?_;have h3:=DL a 1;have h4:=DM (a.drop 1) (CT b (a.take 1) 0).1;have h5:(a.drop 1).length≤a.length:=by rw[List.length_drop];omega
 exact hq _ s' g1 g2 (Hu h1 (fun x hx=>ha x (List.mem_of_mem_drop hx)) Ax) Ax
theorem rk {β:Type}{h:Tm}{a:List Tm}{s:σ}{k:Tm→σ→Out β}{q:β→Prop}(hj:J s) (hc:cnt s<1152921504606846976) (hh:okB h=true) (ha:∀x∈a,okB x=true) (hk:h.kind=11) (hz:Bl a+a.length<500000000000)
  (hq:∀x s',J s'→cnt s'=cnt s+1→okB x=true→size x≤4096+Bl a+a.length→ER (k x s') q):ER (Q2 S h a s k) q:=by
 obtain⟨v,hv,ho,hs⟩:=Ny hh (i:=1) (by rw[hk];decide);obtain⟨b,hb,ho2,hs2⟩:=Ny hh (i:=2) (by rw[hk];decide);rw[Q2,hv,hb];simp only;have hvs:∀x∈[v],okB x=true:=fun x hx=>by rw[List.mem_singleton.1 hx];exact ho
 have h1:=O4 ho2 hvs Ay;have h2:=Kx ho2 hvs;refine eL hS hj hc h1 fun s' g1 g2=>?_;have h4:=DM a (CT b [v] 0).1;exact hq _ s' g1 g2 (Hu h1 ha Ax) Ax
theorem nc {β:Type}{h p:Tm}{a:List Tm}{s:σ}{k:Tm→σ→Out β}{q:β→Prop}(hj:J s) (hc:cnt s<1152921504606846976) (hp:okB p=true) (ha:∀x∈a,okB x=true) (hk:h.kind=9∨h.kind=10) (h8:p.kind=8) (hz:size p+Bl a+a.length<540000000000)
  (hq:∀x s',J s'→cnt s'=cnt s+1→okB x=true→size x<size p+Bl a+a.length→ER (k x s') q):ER (LP S h p a s k) q:=by
 have har:arity 8=3:=rfl;obtain⟨y,hy,ho,hs⟩:=Ny hp (i:=(1+h.kind - 9).toNat) (by rw[h8,har];omega);rw[LP,hy];simp only;refine eL hS hj hc ho fun s' g1 g2=>?_;have h4:=DM a y;exact hq (apply y a) s' g1 g2 (Hu ho ha Ax) Ax
include hE
end
def Pu:Tm→List Int→Tm→Prop
 | t,[],v=>t=v
 | t,p::ps,v=>∃y,(BH t).2[p.toNat]?=some y∧Pu y ps v
theorem UH {k:Int}{w:Tm}:∀{ps:List Int}{t v:Tm},Pu t ps v→(BH v).2[k.toNat]?=some w→Pu t (ps++[k]) w
 | [],t,v,h,hw=>by cases h;exact⟨w,hw,rfl⟩
 | p::ps,t,v,⟨y,h1,h2⟩,hw=>⟨y,h1,UH h2 hw⟩
theorem VL {l:List Tm}{i:Nat}{x:Tm}(h:∀y∈l,okB y=true) (hx:okB x=true):∀y∈l.set i x,okB y=true:=fun y hy=>by
 rcases List.mem_or_eq_of_mem_set hy with hy | hy
 ·exact h y hy
 rw[hy];exact hx
theorem VV {x v:Tm}(hx:okB x=true):∀(ps:List Int) (t:Tm),Pu t ps v→okB t=true→size t+size x<549755813888→∃z,Gq t ps x=some z∧okB z=true∧size z+size v=size t+size x
 | [],t,h,ho,hs=>by cases h;exact⟨x,by rw[Gq],hx,by omega⟩
 | p::ps,t,⟨y,h1,h2⟩,ho,hs=>by
  have h3:=GC t;obtain⟨oh,oa⟩:=IJ ho;have hm:=List.mem_of_getElem? h1;have h4:=Gi hm;obtain⟨z,e1,e2,e3⟩:=VV hx ps y h2 (oa y hm) Ax;have h5:=MR (y:=z) h1;have h6:=DM ((BH t).2.set p.toNat z) (BH t).1;have h7:((BH t).2.set p.toNat z).length=(BH t).2.length:=List.length_set;exact⟨apply (BH t).1 ((BH t).2.set p.toNat z),by rw[Gq,h1];simp only[e1,Option.map_some],Hu oh (VL oa e2) Ax,by omega⟩
structure X5 (a vars:List Tm) (pl:List (Int×List Int)):Prop where
 len:pl.length=vars.length
 at_:∀(i:Nat) v,vars[i]?=some v→∃j path y,pl[i]?=some (j,path)∧a[j.toNat]?=some y∧Pu y path v
theorem H9 (p:Int×List Int) (fx:Int) (n:Nat):(De p fx n).length=n:=by simp[De]
theorem X5.more {a vars:List Tm}{pl:List (Int×List Int)}(h:X5 a vars pl) {i:Nat}{v:Tm}{p:Int×List Int}(hv:vars[i]?=some v) (hp:pl[i]?=some p) {fx:Int}(hfx:0≤fx):X5 a (vars++(BH v).2.drop fx.toNat) (pl++De p fx ((BH v).2.drop fx.toNat).length):=by
 refine⟨by rw[List.length_append,List.length_append,h.len,H9],fun q w hw=>?_⟩;by_cases hq:q<vars.length
 ·rw[List.getElem?_append_left hq] at hw;rw[List.getElem?_append_left (by rw[h.len];exact hq)];exact h.at_ q w hw
 rw[List.getElem?_append_right Ax] at hw;rw[List.getElem?_append_right (by rw[h.len];omega),h.len];obtain⟨j,path,y,h1,h2,h3⟩:=h.at_ i v hv;rw[hp] at h1;cases h1;have hlt:=(List.getElem?_eq_some_iff.1 hw).1;rw[List.getElem?_drop] at hw;refine⟨j,path++[fx+((q - vars.length:Nat):Int)],y,?_,h2,UH h3 (by rw[show (fx+((q - vars.length:Nat):Int)).toNat=fx.toNat+(q - vars.length) by omega];exact hw)⟩;rw[De,List.getElem?_map,List.getElem?_range hlt];rfl
theorem PE (a:List Tm) (n:Nat) (hn:n≤a.length):X5 a (a.take n) ((List.range n).map fun i:Nat=>((i:Int),[])):=by
 refine⟨by simp;omega,fun i v hv=>?_⟩;have hlt:=(List.getElem?_eq_some_iff.1 hv).1;rw[List.length_take] at hlt;rw[List.getElem?_take_of_lt Ax] at hv;exact⟨(i:Int),[],v,by rw[List.getElem?_map,List.getElem?_range Ax];rfl,by simpa using hv,rfl⟩
section
variable {σ:Type}{S:Sys σ}{J:σ→Prop}{cnt:σ→Nat}{C:Nat}{E:List CX}
structure SO (S:Sys σ) (J:σ→Prop) (cnt:σ→Nat) (s:σ) (z:Nat) (r:Option Tm×σ):Prop where
 j:J r.2
 le:cnt s≤cnt r.2
 ub:cnt r.2≤cnt s+1
 ok:∀x,r.1=some x→okB x=true∧size x≤z+4500
variable (hS:X4 S J cnt C) (hE:Gz E)
omit hS hE in
theorem J3 {s:σ}{z:Nat}(hj:J s):ER (.ok (none,s)) (SO S J cnt s z):=ER.ok ⟨hj,Nat.le_refl _,by simp,fun x e=>by simp at e⟩
include hS
theorem dq {b h:Tm}{vars rest:List Tm}{s:σ}{z:Nat}(hj:J s) (hc:cnt s≤90000000) (hb:okB b=true) (hv:∀v∈vars,okB v=true) (hl:vars.length<549755813888) (hsv:Bl vars<1125899906842624) (hr:∀x∈rest,okB x=true) (hz:Bl rest+rest.length≤z) (hz2:z≤500000000000):ER (Gr S h b vars rest s) (SO S J cnt s z):=by
 by_cases he:(By b h.levels).2=0
 ·have h1:=PB h.levels hb;have hvr:∀v∈vars.reverse,okB v=true:=fun v hm=>hv v (List.mem_reverse.1 hm);have h2:=O4 h1 hvr (by rw[List.length_reverse];exact hl);have h3:=Kx h1 hvr;rw[Gr,if_neg Ax,if_neg (by simp only[not_or,Bool.not_eq_false];exact⟨h1,List.all_eq_true.2 hv,by omega⟩)];refine eL hS hj Ax h2 fun s' h4 h5=>?_;have h6:=DM rest (CT (By b h.levels).1 vars.reverse 0).1;refine ER.ok ⟨h4,by simp only;omega,by simp only;omega,fun x hx=>?_⟩;simp only[Option.some.injEq] at hx;subst hx;exact⟨Hu h2 hr Ax,by omega⟩
 rw[JU he];exact J3 hj
include hE
theorem Zl {T:σ→Tm→Out (Option Tm×σ)}{h:Tm}{ar:Int}{a:List Tm}{z:Nat}(hh:okB h=true) (ha:∀x∈a,okB x=true) (hz:size h+Bl a+a.length≤z) (hz2:z≤1000000000) (hT:∀v s,J s→cnt s≤90000000→okB v=true→size v<z→ER (T s v) (SO S J cnt s (size v))) :
  ∀(m:Nat) (t:FY) (vars:List Tm) (pl:List (Int×List Int)) (s:σ),EC t≤m→Fz t→(∀v∈vars,okB v=true∧size v<z)→vars.length+EC t*1000000≤100000000→Bl vars+EC t*549755813888<1125899906842624→X5 a vars pl→J s→cnt s≤90000000→ER (GX E S T h ar a m t vars pl s) (SO S J cnt s z)
 | 0,t,vars,pl,s,hd,_,_,_,_,_,_,_=>absurd hd (by have:=YU t;omega)
 | m+1,t,vars,pl,s,hd,ht,hv,hL,hM,hp,hj,hc=>by
  rw[GX];split
  ·split
   ·exact J3 hj
   rename_i hb;have hlt:t.var.toNat<vars.length:=by omega
   have hx:=List.getElem?_eq_getElem hlt;have hxm:=List.getElem_mem hlt;obtain⟨j,path,y,p1,p2,p3⟩:=hp.at_ _ _ hx;rw[CI hx,CI p1];obtain⟨v1,v2⟩:=hv _ hxm;have hym:=List.mem_of_getElem? p2;have hys:=Gi hym;cases hc2:DQ E vars[t.var.toNat] with
   | none =>
    refine ER.bind (hT _ s hj hc v1 v2) fun r hr=>?_;cases hr1:r.1 with
    | none=>exact ER.ok ⟨hr.j,hr.le,hr.ub,fun x e=>by simp at e⟩
    | some x =>
     obtain⟨o1,o2⟩:=hr.ok x hr1;simp only[CI p2];obtain⟨w,e1,e2,e3⟩:=VV o1 path y p3 (ha y hym) Ax;rw[e1];have h5:=MR (y:=w) p2;have h6:=DM (a.set j.toNat w) h;have h7:(a.set j.toNat w).length=a.length:=List.length_set;refine ER.ok ⟨hr.j,hr.le,hr.ub,fun q e=>?_⟩;simp only[Option.some.injEq] at e;subst e;exact⟨Hu hh (VL ha e2) Ax,by omega⟩
   | some q =>
    obtain⟨d,k,f⟩:=q;simp only;cases hbr:C3 (El d k).name t.branches with
    | none=>exact J3 hj
    | some t' =>
     have hcf:=Ek hc2;obtain⟨b1,b2⟩:=X8 hbr ht;obtain⟨f1,f2⟩:=L9 hc2 v1;have hfx:=(hE.g.all d hcf.mem).fx.1;have hfl:=Ir hE.g hc2;have hmore:=hp.more hx p1 hfx;rw[←hcf.fs] at hmore;simp only;exact Zl hh ha hz hz2 hT m t' (vars++f) _ s Ax b1 (fun v hm=>by
      rcases List.mem_append.1 hm with hm | hm
      ·exact hv v hm
      exact⟨(f1 v hm).1,by have:=(f1 v hm).2;omega⟩) (by rw[List.length_append];omega) (by rw[JG];omega) hmore hj hc
  obtain⟨k,b,v,l⟩:=t;simp only[Fz] at ht;have hd:=DL a ar.toNat;have hdl:(a.drop ar.toNat).length≤a.length:=by rw[List.length_drop];omega
  exact dq hS hj hc ht.1 (fun v hm=>(hv v hm).1) Ax Ax (fun x hm=>ha x (List.mem_of_mem_drop hm)) Ax Ax
theorem N1:∀(n:Nat) (s:σ) (t:Tm),J s→cnt s≤90000000→okB t=true→size t+100≤n→size t≤1000000000→ER (DY E S n s t) (SO S J cnt s (size t))
 | 0,s,t,_,_,_,h,_=>absurd h Ax
 | n+1,s,t,hj,hc,ho,hn,hz=>by
  have hst:=size_pos t;have hss:=GC t;obtain⟨oh,oa⟩:=IJ ho;have hhp:=size_pos (BH t).1;have one:∀(x:Tm) (s':σ),J s'→cnt s'=cnt s+1→okB x=true→size x≤4096+size t→ER (.ok (some x,s')) (SO S J cnt s (size t)):=fun x s' g1 g2 g3 g4 =>
   ER.ok ⟨g1,by simp only;omega,by simp only;omega,fun y e=>by simp only[Option.some.injEq] at e;subst e;exact⟨g3,by omega⟩⟩
  rw[DY,if_neg (by simp[ho])];split
  ·rename_i k5;split
   ·exact J3 hj
   rename_i hl;exact nK hS hj Ax oh oa k5 hl Ax fun x s' g1 g2 g3 g4=>one x s' g1 g2 g3 Ax
  split
  ·rename_i k11;exact rk hS hj Ax oh oa k11 Ax fun x s' g1 g2 g3 g4=>one x s' g1 g2 g3 Ax
  split
  ·rename_i k9;obtain⟨p,hpk,op,sp⟩:=Ny oh (i:=0) (by rcases k9 with h | h<;>rw[h]<;>decide);rw[hpk];simp only;split
   ·rename_i k8;exact nc hS hj Ax op oa k9 k8 Ax fun x s' g1 g2 g3 g4=>one x s' g1 g2 g3 Ax
   refine ER.bind (N1 n s p hj hc op Ax Ax) fun r hr=>?_;cases hr1:r.1 with
   | none=>exact ER.ok ⟨hr.j,hr.le,hr.ub,fun x e=>by simp at e⟩
   | some x =>
    obtain⟨o1,o2⟩:=hr.ok x hr1;have h4:=DM (BH t).2 (Hd (BH t).1.kind x);have h5:size (Hd (BH t).1.kind x)=1+size x:=by simp only[Hd,size,Bl];omega
    refine ER.ok ⟨hr.j,hr.le,hr.ub,fun y e=>?_⟩;simp only[Option.some.injEq] at e;subst e;exact⟨Hu (iS k9 o1 Ax) oa Ax,by omega⟩
  split
  ·cases hu:Tg E (BH t).1 with
   | false=>rw[Cz,hu];exact J3 hj
   | true =>
    obtain⟨i,d,h1,h2,hd,h3⟩:=JV hu;have hg:=hE.g.all d hd;have hda:Cl E (Bw E (BH t).1.name).1.decl=d:=CI h3;rw[Cz,hu,if_pos rfl];simp only[hda];split
    ·by_cases he:(By d.value (BH t).1.levels).2=0
     ·rw[Kc he];have l1:=L3 (BH t).1.levels hg.vl;have l2:=PB (BH t).1.levels hg.vl;have l3:=hE.vl d hd;refine eL hS hj Ax l2 fun s' g1 g2=>?_;have h5:=DM (BH t).2 (By d.value (BH t).1.levels).1;exact one _ s' g1 g2 (Hu l2 oa Ak) Ak
     rw[KN he];exact J3 hj
    split
    ·rename_i hr5;have hni:=(F4 hg.din hg.fx).1;have hf0:=hg.fx.1;have hlt:(CQ d).toNat<(BH t).2.length:=by have:=hr5.2;unfold CQ at *;omega
     have hy:=List.getElem?_eq_getElem hlt;have hym:=List.getElem_mem hlt;have hys:=Gi hym;rw[CI hy];cases hcw:DQ E (BH t).2[(CQ d).toNat] with
     | some q =>
      refine ER.mono (dj hS hE hd hj Ax (oa _ hym) oa (z:=Bl (BH t).2+(BH t).2.length) hy Ax Ax) fun q hq=>?_;obtain⟨q1,q2,q3,q4⟩:=hq;exact⟨q1,q2,q3,fun x hx=>by obtain⟨q5,q6,q7⟩:=q4 x hx;exact⟨q5,by omega⟩⟩
     | none =>
      refine ER.bind (N1 n s _ hj hc (oa _ hym) Ax Ax) fun r hr=>?_;cases hr1:r.1 with
      | none=>exact ER.ok ⟨hr.j,hr.le,hr.ub,fun x e=>by simp at e⟩
      | some x =>
       obtain⟨o1,o2⟩:=hr.ok x hr1;have h5:=MR (y:=x) hy;have h6:=DM ((BH t).2.set (CQ d).toNat x) (BH t).1;have h7:((BH t).2.set (CQ d).toNat x).length=(BH t).2.length:=List.length_set;refine ER.ok ⟨hr.j,hr.le,hr.ub,fun y e=>?_⟩;simp only[Option.some.injEq] at e;subst e;exact⟨Hu oh (VL oa o1) Ax,by omega⟩
    split
    ·rename_i hr6;obtain⟨k,f,h4,h5⟩:=h2.func hr6.1;have hfa:FL d (Bw E (BH t).1.name).1.item=f:=CI (by rw[h5];simpa using h4);have hfm:=List.mem_of_getElem? h4;obtain⟨f1,f2,f3⟩:=hg.fu f hfm;have hdep:=hE.fu d hd f hfm;rw[hfa] at hr6 ⊢;refine Zl hS hE (z:=size t) oh oa Ax hz (fun v s' g1 g2 g3 g4=>N1 n s' v g1 g2 g3 Ax Ax) n f.tree _ _ s Ax f3 (fun v hv=>⟨oa v (List.mem_of_mem_take hv),by have:=Gi (List.mem_of_mem_take hv);omega⟩) (by rw[List.length_take];omega) (by have:=DL (BH t).2 f.arity.toNat;omega) ?_ hj hc;exact PE _ _ Ax
    exact J3 hj
  exact J3 hj
end
section
variable {σ:Type}{S:Sys σ}{J:σ→Prop}{cnt:σ→Nat}{C:Nat}{E:List CX}
variable (hS:X4 S J cnt C) (hE:Gz E)
include hS hE
end
def lO (c:EK):Prop:=c.limit=1000∧0≤c.steps∧(c.over=false→c.steps≤1000)
theorem iW:X4 Dh lO (fun c=>c.steps.toNat) 1000:=by
 refine⟨fun c h ho=>?_,fun c t e c' h hc ho hr=>?_,by omega⟩
 ·have h1:=h.2.1;have h2:=h.2.2 ho;omega
 simp only[Dh,Option.some.injEq] at hr;subst hr;obtain⟨h1,h2,h3⟩:=h;have hw:wr (c.steps+1)=c.steps+1:=Ej (by unfold JB;omega);simp only[EK.result,EK.form,lO,hw,h1];refine⟨⟨Az,by omega,fun ho=>?_⟩,by omega⟩;simp only[Bool.or_eq_false_iff,decide_eq_false_iff_not] at ho;omega
def G0 (n:Int):Prop:=0≤n∧n≤20000
theorem jb:X4 CN G0 (fun n=>(20000 - n).toNat) 20000:=by
 refine⟨fun n h _=>?_,fun n t e n' h hc ho hr=>?_,by omega⟩
 ·have:=h.1;omega
 simp only[CN] at hr;split at hr
 ·cases hr
 cases hr;unfold G0 at *;omega
theorem OT {E:List CX}{nm:ByteArray}(h:(Cr E nm).2.2=true):Hh E nm=some ((Cr E nm).1,(Cr E nm).2.1):=by
 unfold Cr at h ⊢;split at h
 ·rename_i d j e;rw[e]
 cases h
theorem jd {E:List CX}{nm:ByteArray}(h:(Cr E nm).2.2=false):Hh E nm=none:=by
 unfold Cr at h;split at h
 ·cases h
 rename_i e;exact e
theorem YM {E:List CX}{nm:ByteArray}(hE:KB E) (h:(Cr E nm).2.2=true) (hj:¬(Cr E nm).2.1<0):Ns (Cr E nm).1∧(0≤(Cr E nm).1.fixed∧(Cr E nm).1.fixed≤1000000)∧0≤(Cr E nm).2.1∧(Cr E nm).2.1<(Cr E nm).1.ctors.length:=by
 obtain⟨h1,h2⟩:=Tn (OT h);exact⟨(hE.all _ h1).din,(hE.all _ h1).fx,by omega,h2 Ax⟩
section
variable {E:List CX}{t:Tm}{k i:Int}{n:ByteArray}{ls:List Ci}{ks:List Tm}
theorem ZO (hz:(BH t).1= .mk k i n ls ks) (h:k≠3):DQ E t=none:=by
 have hk:(BH t).1.kind=k:=by rw[hz];rfl
 unfold DQ;rw[if_pos Ax]
theorem Zh (hz:(BH t).1= .mk k i n ls ks) (h3:k=3) (h:(Cr E n).2.2=false∨(Cr E n).2.1<0):DQ E t=none:=by
 have hk:(BH t).1.kind=k:=by rw[hz];rfl
 have hnm:(BH t).1.name=n:=by rw[hz];rfl
 unfold DQ;rw[if_neg Ax,hnm];cases hf:(Cr E n).2.2 with
 | false=>rw[jd hf]
 | true =>
  rw[OT hf];rcases h with h | h
  ·rw[hf] at h;cases h
  simp only[if_pos h]
theorem Y6 (hz:(BH t).1= .mk k i n ls ks) (h3:k=3) (hf:(Cr E n).2.2=true) (hj:¬(Cr E n).2.1<0) (h:((BH t).2.length:Int)≠(Cr E n).1.fixed+Fh (Cr E n).1 (Cr E n).2.1):DQ E t=none:=by
 have hk:(BH t).1.kind=k:=by rw[hz];rfl
 have hnm:(BH t).1.name=n:=by rw[hz];rfl
 unfold DQ;rw[if_neg Ax,hnm,OT hf];simp only[if_neg hj,if_pos h]
theorem gW (hz:(BH t).1= .mk k i n ls ks) (h3:k=3) (hf:(Cr E n).2.2=true) (hj:¬(Cr E n).2.1<0) (h:((BH t).2.length:Int)=(Cr E n).1.fixed+Fh (Cr E n).1 (Cr E n).2.1):DQ E t=some ((Cr E n).1,(Cr E n).2.1,(BH t).2.drop (Cr E n).1.fixed.toNat):=by
 have hk:(BH t).1.kind=k:=by rw[hz];rfl
 have hnm:(BH t).1.name=n:=by rw[hz];rfl
 unfold DQ;rw[if_neg Ax,hnm,OT hf];simp only[if_neg hj,if_neg (show ¬((BH t).2.length:Int)≠(Cr E n).1.fixed+Fh (Cr E n).1 (Cr E n).2.1 by omega)]
end
theorem NT {d:CX}{j:Int}(h:Ns d) (h0:0≤j) (h1:j<d.ctors.length) (hf:0≤d.fixed):0≤Fh d j∧Fh d j≤1000000:=by
 have hlt:j.toNat<d.ctors.length:=by omega
 have hx:=List.getElem?_eq_getElem hlt;have hs:=(h.cs _ (List.getElem_mem hlt)).ty.sz;have hl:=Is d.ctors[j.toNat].type;unfold Fh Yc El;rw[CI hx];omega
section
variable {E:List CX}{t:Tm}{k i:Int}{n:ByteArray}{ls:List Ci}{ks:List Tm}
theorem jI (hz:(BH t).1= .mk k i n ls ks) (h3:k=3) (h:(Cr E n).2.2=false∨(Cr E n).2.1<0∨((BH t).2.length:Int)≠(Cr E n).1.fixed+Fh (Cr E n).1 (Cr E n).2.1):DQ E t=none:=by
 by_cases h1:(Cr E n).2.2=false∨(Cr E n).2.1<0
 ·exact Zh hz h3 h1
 rcases h with h | h | h
 ·exact absurd (.inl h) h1
 ·exact absurd (.inr h) h1
 exact Y6 hz h3 (by simpa using fun e=>h1 (.inl e)) (fun e=>h1 (.inr e)) h
end
theorem Rm {d:CX}{j:Int}{x:It}(hx:d.ctors[j.toNat]?=some x) (hf:0≤d.fixed):d.fixed+Fh d j=max d.fixed (((HL x.type).1.length:Nat):Int):=by
 unfold Fh Yc El;rw[CI hx];omega
def CA (E:List CX) (t:Tm):CX×Int×List Tm×Bool:=match DQ E t with
 | some (d,j,l)=>(d,j,l,true)
 | none=>(Wo,0,[],false)
theorem MS {E:List CX}{t:Tm}(h:DQ E t=none):CA E t=(Wo,0,[],false):=by unfold CA;rw[h]
theorem Qk {E:List CX}{t:Tm}{d:CX}{j:Int}{l:List Tm}(h:DQ E t=some (d,j,l)):CA E t=(d,j,l,true):=by unfold CA;rw[h]
theorem Jv {E:List CX}{t:Tm}(h:(CA E t).2.2.2=true):DQ E t=some ((CA E t).1,(CA E t).2.1,(CA E t).2.2.1):=by
 cases e:DQ E t with
 | none=>rw[MS e] at h;cases h
 | some q=>obtain⟨d,j,l⟩:=q;rw[Qk e]
theorem Kt {E:List CX}{t:Tm}(h:(CA E t).2.2.2=false):DQ E t=none:=by
 cases e:DQ E t with
 | none=>rfl
 | some q=>obtain⟨d,j,l⟩:=q;rw[Qk e] at h;cases h
end Go.Eu
namespace Go.Eu
def Mx (nm:ByteArray):List GU→Int→Int
 | [],_=> -1
 | b::l,i=>if b.ctor=nm then i else Mx nm l (i+1)
theorem jV {nm:ByteArray}{l:List GU}{i:Nat}{x:GU}{k:Int}(h:l[i]?=some x) (e:x.ctor.toList=nm.toList):Mx nm (l.drop i) k=k:=by
 rw[Cu h,Mx,if_pos (G7 e)]
theorem mA {nm:ByteArray}{l:List GU}{i:Nat}{x:GU}{k:Int}(h:l[i]?=some x) (e:¬x.ctor.toList=nm.toList):Mx nm (l.drop i) k=Mx nm (l.drop (i+1)) (k+1):=by
 rw[Cu h,Mx,if_neg (fun q=>e (by rw[q]))]
theorem Yd {nm:ByteArray}:∀(l:List GU) (k:Int),0≤k→Mx nm l k<0∧C3 nm l=none∨∃(j:Nat) (x:GU),Mx nm l k=k+j∧l[j]?=some x∧C3 nm l=if x.absurd=true then none else some x.tree
 | [],k,h=> .inl ⟨by simp[Mx],rfl⟩
 | b::l,k,h=>by
  rw[Mx,C3];split
  ·exact .inr ⟨0,b,by simp,rfl,rfl⟩
  rcases Yd l (k+1) Ax with h1 | ⟨j,x,h1,h2,h3⟩
  ·exact .inl h1
  exact .inr ⟨j+1,x,by rw[h1];push_cast;omega,by simpa using h2,h3⟩
theorem ez {nm:ByteArray}{l:List GU}(h:Mx nm l 0<0):C3 nm l=none:=by
 rcases Yd (nm:=nm) l 0 Ax with h1 | ⟨j,x,h1,h2,h3⟩
 ·exact h1.2
 omega
theorem lY {nm:ByteArray}{l:List GU}(h:¬Mx nm l 0<0):∃x,l[(Mx nm l 0).toNat]?=some x∧C3 nm l=if x.absurd=true then none else some x.tree:=by
 rcases Yd (nm:=nm) l 0 Ax with h1 | ⟨j,x,h1,h2,h3⟩
 ·exact absurd h1.1 h
 exact⟨x,by rw[h1];simpa using h2,h3⟩
end Go.Eu
namespace Go.Eu
open Go.Abs
theorem fE {nm:ByteArray}:∀{l:List GU}{t:FY},C3 nm l=some t→NN l→H4 t
 | .mk c a q::l,t,h,ho=>by
  simp only[NN,SE] at ho;rw[C3] at h;split at h
  ·split at h
   ·cases h
   cases h;exact ho.1.2
  exact fE h ho.2
theorem nZ {nm:ByteArray}{t t':FY}(h:C3 nm t.branches=some t') (ho:H4 t):H4 t':=fE h ho.bs
def KR (q:Option (Tm×List Tm)×Tm):Tm:=match q.1 with
 | some (b,_)=>b
 | none=>Bp
def Nq (q:Option (Tm×List Tm)×Tm):List Tm:=match q.1 with
 | some (_,v)=>v
 | none=>[]
structure SD (y:FY) (us:List Tm):Prop where
 tin:H4 y
 tok:Fz y
 len:us.length+EC y*1000000≤100000000
 ok:∀v∈us,okB v=true
theorem SD.next {E:List CX}{y q:FY}{us f:List Tm}{x:Tm}{nm:ByteArray}{d:CX}{j:Int}(h:SD y us) (hE:KB E) (hx:okB x=true) (hc:DQ E x=some (d,j,f)) (hb:C3 nm y.branches=some q):SD q (us++f):=by
 obtain⟨h1,h2⟩:=X8 hb h.tok;have h3:=Ir hE hc;have h4:=h.len;refine⟨nZ hb h.tin,h1,by rw[List.length_append];omega,fun v hv=>?_⟩;rcases List.mem_append.1 hv with hv | hv
 ·exact h.ok v hv
 exact((L9 hc hx).1 v hv).1
def Yq:FY:= .mk 0 Bp 0 []
def XR (nm:ByteArray):List GU→FY×Bool
 | []=>(Yq,false)
 | b::l=>if b.ctor=nm then (b.tree,!b.absurd) else XR nm l
theorem gG {nm:ByteArray}{l:List GU}{i:Nat}{x:GU}(h:l[i]?=some x):XR nm (l.drop i)=if x.ctor=nm then (x.tree,!x.absurd) else XR nm (l.drop (i+1)):=by rw[Cu h,XR]
theorem eH (nm:ByteArray):∀(l:List GU),C3 nm l=if (XR nm l).2=true then some (XR nm l).1 else none
 | []=>rfl
 | b::l=>by
  rw[C3,XR];split
  ·cases b.absurd<;>rfl
  exact eH nm l
theorem Wl {nm:ByteArray}{l:List GU}(h:(XR nm l).2=true):C3 nm l=some (XR nm l).1:=by rw[eH,if_pos h]
theorem WO {nm:ByteArray}{l:List GU}(h:(XR nm l).2=false):C3 nm l=none:=by rw[eH,if_neg (by simp[h])]
def cK (nm:ByteArray) (l:List GU):FY×Bool:=match C3 nm l with
 | some q=>(q,true)
 | none=>(Yq,false)
theorem fI {nm:ByteArray}{l:List GU}(h:C3 nm l=none):cK nm l=(Yq,false):=by unfold cK;rw[h]
theorem gf {nm:ByteArray}{l:List GU}{q:FY}(h:C3 nm l=some q):cK nm l=(q,true):=by unfold cK;rw[h]
theorem VY {nm:ByteArray}{l:List GU}(h:(cK nm l).2=true):C3 nm l=some (cK nm l).1:=by
 cases e:C3 nm l with
 | none=>rw[fI e] at h;cases h
 | some q=>rw[gf e]
theorem WY {nm:ByteArray}{l:List GU}(h:(cK nm l).2=false):C3 nm l=none:=by
 cases e:C3 nm l with
 | none=>rfl
 | some q=>rw[gf e] at h;cases h
end Go.Eu
namespace Go.Proofs.YtboammbpdaoojaaGreat
open Go.Abs Go.Eu
theorem _root_.Go.AX {α:Prop}(h:α:=by simp only[Bc,List.length_map];omega):α:=h
theorem OX:∀(ds:List CX) (t:Tm),(KB ds)→(okB t=true)→Ep Tryz.prog 49 [.p (.lst (List.map Bu ds)),.agg ((Bb t).map .p)] (.tup [.agg ((Bu ((CA ds t).1)).map .p),.p (I ((CA ds t).2.1)),.p (.lst (BN ((CA ds t).2.2.1))),.p (.bool ((CA ds t).2.2.2))]):=by
 intro ds t h1 h2;have ho:=CJ.1 h2;have hosz:=ho.sz;have hoss:=GC t;have hosl:=PN t;have hosp:=IJ h2;refine BF Tryz.func49 O sc (n:=54) O O (A6 (BO O (Ba O) fun b3=>BO O (BG Iz O) fun b4=>A1 A7 3 [] O (A6 (A0 O (Bf (i:=1) Bg O O Ap) (A0 O (BL O O (Nu _ t (Nat.le_refl _) Ai) O) (A5 A7 3 [] O (BO O (BG B4 O) fun b8=>A1 A7 2 [0,1] O (A2 (A6 (A0 O (A8 HA O O) ?_))))))))));generalize hz:(BH t).1=z;obtain⟨zk,zi,zn,zl,zs⟩:=z;refine A1 A7 2 [0] O (A4 O (fun c=>?_) (fun c=>?_))
 ·(try simp only[sd,se] at c);refine A3 A7 5 [1,0] O (BQ (Bd (i:=1) O) (BQ (EJ 6) (A9 (⟨O,_,_,⟨_,_,O,(BI (i:=1) Fg O O O),⟨_,_,O,O,⟨_,_,O,O,⟨_,_,O,O,O⟩⟩⟩⟩,(List.nil_sublist _),?_⟩))))
  all_goals exact⟨by show (.tup [.agg [.p (I 0),.p (.str ⟨#[]⟩),.p (I 0),.p (I 0),.p (I 0),.p (.str ⟨#[]⟩),.p (.lst []),.p (.lst []),.p (I 0),.p (I 0),.p (.str ⟨#[]⟩),.p (.lst []),.p (.lst []),.p (I 0),.p (.lst []),.p (I 0),.p (I 0),.p (I 0),.p (.str ⟨#[]⟩),.p (.lst []),.p (.lst []),.p (.lst []),.p (.lst [])],.p (I 0),.p (.lst (BN [])),.p (.bool false)]:AV)=_;rw[MS (ZO hz c)];rfl,rfl⟩
 (try simp only[sd,se] at c);refine BA (A6 (A5 A7 3 [0] O (A0 O (BL O O (R3 ds zn h1.env) O) (A5 A7 4 [] O (BO O (BG Iz O) fun b10=>A1 A7 3 [0,1] O (A2 (A2 (Be [4,9,10,11] 46 (fun y=>y= .p (.bool (((!((Cr ds zn).2.2))||(decide (((Cr ds zn).2.1:Int)<(0:Int))))||(((((BH t).2).length:Nat):Int) !=((((Cr ds zn).1).fixed:Int)+(Fh (Cr ds zn).1 (Cr ds zn).2.1:Int):Int))))) ?_ ?_))))))))
 ·refine B0 (fun k=>false) Dt (BZ A7 3 [] O (D9 32 O (fun g=>?_) (fun g=>?_)))
  ·(try simp only[sd,se] at g);exact Bt A7 14 [] O (⟨O,O,AP,AJ,⟨O,O,O,O,Az⟩⟩)
  (try simp only[sd,se] at g);have hf1:(Cr ds zn).2.2=true:=by simpa using g
  refine BZ A7 4 [] O (D9 36 O (fun g1=>?_) (fun g1=>?_))
  ·(try simp only[sd,se] at g1);exact Bt A7 10 [] O (⟨O,O,AP,AJ,⟨O,O,O,O,Az⟩⟩)
  (try simp only[sd,se] at g1);have hf2:¬(Cr ds zn).2.1<0:=by simpa using g1
  have hfd:=YM h1 hf1 hf2;have hfr:=NT hfd.1 hfd.2.2.1 hfd.2.2.2 hfd.2.1.1;have hfx:=hfd.2.1;exact Cm O (fun _=>Bi O) Az (Cm O (fun _=>BT Bk O (Bc _)) Az (Cm O (fun _=>A8 DD O O) Az (MI (i:=0) O O O O O (fun H i hi=>BB (i:=i) DO O hi (Cv _)) AB Az (BZ A7 2 [0] O (Cm O (fun _=>BL O O (aa ((Cr ds zn).1) ((Cr ds zn).2.1) hfd.1 hfd.2.1 hfd.2.2.1 hfd.2.2.2) O) Az (Bt A7 3 [] O (⟨O,O,AP,AJ,⟨O,O,O,O,Az⟩⟩)))))))
 rintro _ rfl;refine A4 O (fun c1=>?_) (fun c1=>?_)
 ·(try simp only[sd,se] at c1);have hcc:=or_assoc.1 c1;refine A3 A7 5 [2,0] O (BQ (Bd (i:=2) O) (BQ (EJ 6) (A9 (⟨O,_,_,⟨_,_,O,(BI (i:=2) Fg O O O),⟨_,_,O,O,⟨_,_,O,O,⟨_,_,O,O,O⟩⟩⟩⟩,(List.nil_sublist _),?_⟩))))
  all_goals exact⟨by show (.tup [.agg [.p (I 0),.p (.str ⟨#[]⟩),.p (I 0),.p (I 0),.p (I 0),.p (.str ⟨#[]⟩),.p (.lst []),.p (.lst []),.p (I 0),.p (I 0),.p (.str ⟨#[]⟩),.p (.lst []),.p (.lst []),.p (I 0),.p (.lst []),.p (I 0),.p (I 0),.p (I 0),.p (.str ⟨#[]⟩),.p (.lst []),.p (.lst []),.p (.lst []),.p (.lst [])],.p (I 0),.p (.lst (BN [])),.p (.bool false)]:AV)=_;rw[MS (jI hz (by simpa using c) hcc)];rfl,rfl⟩
 (try simp only[sd,se] at c1);have hcc:(Cr ds zn).2.2=true∧¬(Cr ds zn).2.1<0∧((BH t).2.length:Int)=(Cr ds zn).1.fixed+Fh (Cr ds zn).1 (Cr ds zn).2.1:=⟨c1.1.1,by omega,c1.2⟩;have hfd:=YM h1 hcc.1 hcc.2.1;have hfr:=NT hfd.1 hfd.2.2.1 hfd.2.2.2 hfd.2.1.1;have hfx:=hfd.2.1;have hl3:=hcc.2.2;refine BA (A2 (B0 (fun k=>false) Dt (BZ A7 4 [0] O (CY (j:=0) O O O (fun H i hi=>BB (i:=i) DO O hi (Cv _)) AB Az (BP O (fun _=>Cc (lo:=(((Cr ds zn).1).fixed:Int).toNat) Bk O (CM (B1 _)) ⟨_,pI Ax⟩ O AX (Nat.le_refl _) (I6 ((BH t).2) ((((Cr ds zn).1).fixed:Int).toNat))) Az (Bt A7 4 [2,1] O (A9 (⟨O,_,_,⟨_,_,O,(BI (i:=2) Fg O O Am),⟨_,_,O,O,⟨_,_,O,O,⟨_,_,O,O,O⟩⟩⟩⟩,(List.nil_sublist _),?_⟩))))))))
 all_goals exact⟨by show (.tup [.agg ((Bu ((Cr ds zn).1)).map .p),.p (I ((Cr ds zn).2.1)),.p (.lst (BN (((BH t).2).drop ((((Cr ds zn).1).fixed:Int).toNat)))),.p (.bool true)]:AV)=_;rw[Qk (gW hz (by simpa using c) hcc.1 hcc.2.1 hcc.2.2)],rfl⟩
theorem lp:∀(l b1 b2:Nat) (d:CX) (at_:Int) (nm:ByteArray) (TA:Gg→List BR) (T0:List BR),(d.kind=0∨Ns d)→(∀s e,(s,e)∈Fs d at_→MB Tryz.prog l [.p (.str s),.agg ((Dn e).map .p)] T0 (V7 (.p (.bool (!decide (s=nm)))) (fun T=>T=if s=nm then TA e else T0)))→B2 Tryz.prog 170 [.fn (.yield l) [] [],.ptr b2 0,.ptr b1 0] (.box b1 ((Bu d).map .p):: .box b2 [.p (I at_)]::T0) (V7 (.tup []) (fun H=>∃T,T=I8 TA T0 nm (Fs d at_)∧H= .box b1 ((Bu d).map .p):: .box b2 [.p (I at_)]::T)):=by
 intro l b1 b2 d at_ nm TA T0 h1 h2;refine BF Tryz.func170 O oB (n:=98) O O (A6 (A5 A7 2 [1] O (A0 O (BB (i:=0) DO O O (C2 _)) (A0 O (A8 DD O O) (A0 O (B6 (i:=0) Bg O O (FP _) (BM _)) (A0 O (Ca Fv Hw (gX O O O)) (BO O (BG Hw O) fun b4=>A1 A7 1 [0,1] O (A6 (A0 O (A8 DD O O) (A0 O (BB (i:=1) DO O O (EF _)) (Bq O (BJ (A2 (A3 A7 2 [] O (Be [0,1,2,4,16] 17 (fun y=>y= .p (.bool (decide (d.kind=0∨d.kind=1∨d.kind=2)))) ?_ ?_)))))))))))))))
 ·refine A4 O (fun c=>?_) (fun c=>?_)
  ·(try simp only[sd,se] at c);exact BA (⟨O,O,(List.Sublist.refl _),(by refine pB (Bool.eq_iff_iff.2 ?_);simp only[beq_iff_eq,decide_eq_true_eq];omega),⟨O,O,O,O,O,Az⟩⟩)
  (try simp only[sd,se] at c);refine A3 A7 2 [] O (A4 O (fun c1=>?_) (fun c1=>?_))
  ·(try simp only[sd,se] at c1);exact BA (⟨O,O,(List.Sublist.refl _),(by refine pB (Bool.eq_iff_iff.2 ?_);simp only[beq_iff_eq,decide_eq_true_eq];omega),⟨O,O,O,O,O,Az⟩⟩)
  (try simp only[sd,se] at c1);exact BC (A1 A7 2 [] O (⟨O,O,(List.Sublist.refl _),(by refine pB (Bool.eq_iff_iff.2 ?_);simp only[beq_iff_eq,decide_eq_true_eq];omega),⟨O,O,O,O,O,Az⟩⟩))
 rintro _ rfl;refine A4 O (fun c=>?_) (fun c=>?_)
 ·(try simp only[sd,se] at c);have hx0:([0,1,2]:List Int)[d.kind.toNat]?=some d.kind:=by
   have:d.kind=0∨d.kind=1∨d.kind=2:=by simpa using c
   rcases this with e | e | e<;>rw[e]<;>rfl
  have hk0:0≤d.kind∧d.kind<3:=by
   have:d.kind=0∨d.kind=1∨d.kind=2:=by simpa using c
   omega
  refine A6 (A0 O (Br Fp cH O O O O O) (A0 O (A8 DD O O) (A0 O (BB (i:=1) DO O O (EF _)) (A0 O (BD Fp O O Ax (Jh hx0) (O)) (A5 A7 2 [] O (A0 O (EE (i:=0) (ds:=(Dn (Gg.mk d.kind at_ 0 d.params d.type)).map .p) DO O O O O O O O) (Bq O (BC (A5 A7 2 [] O (A0 O (BB (i:=1) Lg O O (DW _)) (A0 O (Bf (i:=0) Ld O O An) (JP [_,_,_] O O O O (h2 _ _ (dv (by simpa using c))) O ?_ (fun _ _ h=>h.elim)))))))))))));rintro _ T ⟨rfl,hT⟩;refine Bq O ⟨O,_,_,O,(G2 [1,2] [_,_,_] O),?_⟩;exact⟨O,_,(hT.trans (YF (by simpa using c)).symm),O⟩
 (try simp only[sd,se] at c);have hD:Ns d:=by
  rcases h1 with h | h
  ·exact absurd (show d.kind=0∨d.kind=1∨d.kind=2 from .inl h) (by simpa using c)
  exact h
 have hcl:=hD.cl;have hfl:=hD.fl;refine A3 A7 2 [] O (A4 O (fun c1=>?_) (fun c1=>?_))
 ·(try simp only[sd,se] at c1);refine A6 (A0 O (A8 Fv O O) (A0 O (EE (i:=0) (ds:=(Dn (Gg.mk 3 at_ 0 d.params d.type)).map .p) DO O O O O O O O) (Bq O (A2 (A6 (A5 A7 2 [] O (A0 O (BB (i:=1) Lg O O (DW _)) (A0 O (Bf (i:=0) Ld O O An) (JP [_,_,_] O O O O (h2 _ _ (gz (by simpa using c1))) O ?_ (fun _ _ h=>h.elim))))))))));rintro _ T ⟨rfl,hT⟩;refine A1 A7 1 [] O (A4 O (fun c2=>?_) (fun c2=>?_))
  ·(try simp only[sd,se] at c2);refine A9 ⟨O,_,_,O,(G2 [1,2] [_,_,_] O),?_⟩;exact⟨O,_,(hT.trans ((if_pos (by simpa using c2)).trans (br (by simpa using c1) (by simpa using c2)).symm)),O⟩
  (try simp only[sd,se] at c2);have qc2:¬(d.name=nm):=by simpa using c2
  rw[if_neg qc2] at hT;have hT:=hT.symm;subst hT;refine BA (A2 (A6 (A0 O (A8 DD O O) (A0 O (BB (i:=1) HY O O (CH _)) (A0 O (BT HN O (List.length_map _)) (A1 A7 1 [] O (BJ ?_)))))));refine Bn (α:=Nat) (fun i=>⟨98,mk [(0,.fn (.yield l) [] []),(1,.ptr b2 0),(2,.ptr b1 0),(42,.p (.lst (List.map G8 d.ctors))),(43,.p (I (d.ctors.length:Nat))),(44,.p (I (i:Int)))],(.box b1 ((Bu d).map .p):: .box b2 [.p (I at_)]::T0),[]⟩) (fun i=>d.ctors.length - i) (fun i=>i≤d.ctors.length∧(∀j,j<i→∀y,d.ctors[j]?=some y→y.name≠nm)) 0 (⟨by omega,fun j h=>by omega⟩) ?_ ?_
  ·exact Bh ⟨we O,we O,we O,we O,we O,we O,Az⟩ (Zx [1,2] [_,_,_] (l':=[_,_]) O (wl (oe O) (wl (oe O) (DJ))))
  rintro i hC
  try simp only at hC
  obtain⟨hi,hC⟩:=hC;refine A3 A7 1 [] O (A2 (A4 O (fun c3=>?_) (fun c3=>?_)))
  ·(try simp only[sd,se] at c3);refine BA (A2 (BJ (A6 (B3 O ?_))));obtain⟨x,hx⟩:=BE (l:=d.ctors) (i:=i) Ax;refine A0 O (BD HN O O Ax (EU hx) (D8 _)) (A0 O (BU p7 O (D8 _)) (BO O (BG Zt O) fun b6=>A1 A7 2 [0,1] O (A6 (A5 A7 2 [] O (A0 O (BB (i:=0) Lg O O (FQ _)) (A5 A7 3 [2] O (A0 O (BB (i:=1) DO O O (C2 _)) (A0 O (A8 Iq O O) (A0 O (B6 (i:=0) Bg O O (FU _) (BM _)) (A0 O (Ca Fv Hw (OH O O O O O)) (JP [_,_,_] O O O O (h2 _ _ (dC (by simpa using c1) hx)) O ?_ (fun _ _ h=>h.elim))))))))))));rintro _ T1 ⟨rfl,hT1⟩;refine A1 A7 1 [] O (A4 O (fun c4=>?_) (fun c4=>?_))
   ·(try simp only[sd,se] at c4);refine A9 ⟨O,_,_,O,(G2 [1,2] [_,_,_] O),?_⟩;exact⟨O,_,(hT1.trans ((if_pos (by simpa using c4)).trans (Xz (by simpa using c1) qc2 hx (by simpa using c4) hC).symm)),O⟩
   (try simp only[sd,se] at c4);have qc4:¬(x.name=nm):=by simpa using c4
   rw[if_neg qc4] at hT1;have hT1:=hT1.symm;subst hT1;refine BA (BC (A1 A7 2 [] O (⟨(i+1),Ac,⟨by omega,C9 (p:=fun _ (y:It)=>y.name≠nm) hC hx qc4⟩,Bh ⟨we rfl,we rfl,we rfl,we rfl,we rfl,we rfl,trivial⟩ (Zx [1,2] [_,_,_] (l':=[_,_]) rfl (wl (oe rfl) (wl (oe rfl) (DJ))))⟩)))
  (try simp only[sd,se] at c3);refine Bo (BC (A5 A7 2 [] O (A0 O (BB (i:=0) Lg O O (DW _)) (A0 O (RA O O (by have:(⟨#[46,114,101,99]⟩:ByteArray).size=4:=rfl;have:=hD.nm;omega)) (A5 A7 3 [1] O (A0 O (BB (i:=0) DO O O (Du _)) (A5 A7 2 [] O (A0 O (B6 (i:=0) Bg O O (FO _) (BM _)) (A0 O (Ca Fv Hw (Ze O O O O)) (JP [_,_] O O O O (h2 _ _ (jt (by simpa using c1))) O ?_ (fun _ _ h=>h.elim)))))))))));rintro _ T1 ⟨rfl,hT1⟩;refine Bq O ⟨O,_,_,O,(G2 [0,1] [_,_] O),?_⟩;exact⟨O,_,(hT1.trans (bq (by simpa using c1) qc2 fun j hj=>hC j Ax).symm),O⟩
 (try simp only[sd,se] at c1);refine A3 A7 2 [] O (A4 O (fun c2=>?_) (fun c2=>?_))
 ·(try simp only[sd,se] at c2);refine A6 (A0 O (A8 DD O O) (A0 O (BB (i:=1) HW O O (CP _)) (A0 O (BT Gy O (List.length_map _)) (A1 A7 1 [] O (BJ ?_)))));refine Bn (α:=Nat) (fun i=>⟨98,mk [(0,.fn (.yield l) [] []),(1,.ptr b2 0),(2,.ptr b1 0),(78,.p (.lst (List.map FJ d.funs))),(79,.p (I (d.funs.length:Nat))),(80,.p (I (i:Int)))],(.box b1 ((Bu d).map .p):: .box b2 [.p (I at_)]::T0),[]⟩) (fun i=>d.funs.length - i) (fun i=>i≤d.funs.length∧(∀j,j<i→∀y,d.funs[j]?=some y→y.name≠nm)) 0 (⟨by omega,fun j h=>by omega⟩) ?_ ?_
  ·exact Bh ⟨we O,we O,we O,we O,we O,we O,Az⟩ (Zx [1,2] [_,_,_] (l':=[_,_]) O (wl (oe O) (wl (oe O) (DJ))))
  rintro i hC
  try simp only at hC
  obtain⟨hi,hC⟩:=hC;refine A3 A7 1 [] O (A2 (A4 O (fun c3=>?_) (fun c3=>?_)))
  ·(try simp only[sd,se] at c3);refine BA (A2 (BJ (A6 (B3 O ?_))));obtain⟨x,hx⟩:=BE (l:=d.funs) (i:=i) Ax;refine A0 O (BD Gy O O Ax (ET hx) (DV _)) (A0 O (BU e7 O (DV _)) (BO O (BG bW O) fun b8=>A1 A7 2 [0,1] O (A6 (A5 A7 2 [] O (A0 O (BB (i:=0) Lg O O (JA _)) (A5 A7 3 [2] O (A0 O (BB (i:=1) DO O O (C2 _)) (A0 O (A8 Gw O O) (A0 O (B6 (i:=0) Bg O O (JC _) (BM _)) (A0 O (Ca Fv Hw (OH O O O O O)) (JP [_,_,_] rfl rfl rfl rfl (h2 _ _ (j5 (by simpa using c2) hx)) rfl ?_ (fun _ _ h=>h.elim))))))))))));rintro _ T ⟨rfl,hT⟩;refine A1 A7 1 [] O (A4 O (fun c4=>?_) (fun c4=>?_))
   ·(try simp only[sd,se] at c4);refine A9 ⟨O,_,_,O,(G2 [1,2] [_,_,_] O),?_⟩;exact⟨O,_,(hT.trans ((if_pos (by simpa using c4)).trans (bG (by simpa using c2) hx (by simpa using c4) hC).symm)),O⟩
   (try simp only[sd,se] at c4);have qc4:¬(x.name=nm):=by simpa using c4
   rw[if_neg qc4] at hT;have hT:=hT.symm;subst hT;refine BA (BC (A1 A7 2 [] O (⟨(i+1),Ac,⟨by omega,C9 (p:=fun _ (y:Hi)=>y.name≠nm) hC hx qc4⟩,Bh ⟨we rfl,we rfl,we rfl,we rfl,we rfl,we rfl,trivial⟩ (Zx [1,2] [_,_,_] (l':=[_,_]) rfl (wl (oe rfl) (wl (oe rfl) (DJ))))⟩)))
  (try simp only[sd,se] at c3);refine Bo ⟨O,_,_,O,(G2 [0,1] [_,_] O),?_⟩;exact⟨O,_,(Yo (by simpa using c2) fun j hj=>hC j Ax).symm,O⟩
 (try simp only[sd,se] at c2);refine BA ⟨O,_,_,O,(G2 [1,2] [_,_,_] O),?_⟩;exact⟨O,_,(Yr (by simpa using c) (by simpa using c1) (by simpa using c2)).symm,O⟩
theorem mE:∀(d:CX) (at_:Int),B2 Tryz.prog 144 [.agg ((Bu d).map .p),.p (I at_)] [] (fun r H'=>∃b1 b2,r= .val (.fn (.func 170) [] [.ptr b2 0,.ptr b1 0])∧H'=[.box b2 [.p (I at_)],.box b1 ((Bu d).map .p)]):=by
 intro d at_;refine BF Tryz.func144 O oF (n:=6) O O (A6 (BO O (Ba O) fun b2=>BO O (Ba O) fun b3=>A1 A7 1 [] O (A3 A7 2 [] O (A9 (⟨O,_,_,⟨_,_,O,O,O⟩,(CC (is:=[0,1]) O),?_⟩)))));exact⟨_,_,O,O⟩
theorem Z0:∀(ds:List CX) (nm:ByteArray),(ds.length<Dq)→(sX ds)→Ep Tryz.prog 116 [.p (.lst (List.map Bu ds)),.p (.str nm)] (.tup [.agg ((Dn ((Bw ds nm).1)).map .p),.p (I ((Bw ds nm).2))]):=by
 intro ds nm h1 h2;simp only[Dq] at h1;refine Fl Tryz.func116 O oU (n:=28) O O (A6 (BO O (Ba O) fun b3=>BO O (BG Hw O) fun b4=>BO O (BG eG O) fun b5=>Bq O (A2 (A6 (B3 O (A0 O (BT Hz O (List.length_map _)) (A1 A7 1 [] O (BJ ?_))))))));refine Bn (α:=Nat×List Nat) (fun(i,U)=>⟨28,mk [(3,.ptr b3 0),(4,.ptr b4 0),(5,.ptr b5 0),(10,.p (.lst (List.map Bu ds))),(11,.p (I (ds.length:Nat))),(12,.p (I (i:Int)))],(.box b5 [.p (I 0)]:: .box b4 [.p (I 0),.p (I 0),.p (I 0),.p (I 0),.p (I 0),.p (I 0),.p (.str ⟨#[]⟩),.p (.nils),.p (.nils)]:: .box b3 [.p (.str nm)]::(U.map BR.dfr)),(U.map Ee.mark)⟩) (fun(i,U)=>ds.length - i) (fun(i,U)=>i≤ds.length∧(∀j,j<i→∀y,ds[j]?=some y→C6 nm (Fs y j)=none)) ⟨0,[]⟩ (⟨by omega,fun j h=>by omega⟩) ?_ ?_
 ·exact Bh ⟨we O,we O,we O,we O,we O,we O,Az⟩ (Zx [0,1,2] [_,_,_] (l':=[_,_,_]) O (wl (oe O) (wl (oe O) (wl (oe O) (DJ)))))
 rintro⟨i,U⟩ hC
 try simp only at hC
 obtain⟨hi,hC⟩:=hC;refine A3 A7 1 [] O (A2 (A4 O (fun c=>?_) (fun c=>?_)))
 ·(try simp only[sd,se] at c);refine BA (A2 (BJ (A6 (B3 O ?_))));obtain⟨x,hx⟩:=BE (l:=ds) (i:=i) Ax;have hx0:=h2 _ (List.mem_of_getElem? hx);refine A0 O (BD Hz O O Ax (EG hx) (Cx _)) (A0 O (BU Fg O (Cx _)) (BO O (BG Iz O) fun b7=>A1 A7 2 [0,1] O (A6 (A5 A7 2 [0] O ?_))));refine JK (Hs:=[]) O O O (.inl ⟨O,O,O⟩) (List.Perm.refl _) ((mE x ((i:Int))).args (aw (we O) (aw (we O) FM))) (.inl O) ?_ (fun _ _ ⟨_,_,h,_⟩=>by cases h);rintro _ _ ⟨bd,ba,h,rfl⟩;cases h;refine Bq O (BJ (RP (.inr O) fun dd l L hL=>⟨_,_,Sl (is:=[3,2,0,4,5,6,7]) (base:=[_,_,_,_,_,_,_,_]) (rest:=[.dfr dd]) Aw ⟨_,_,O,O,⟨_,_,O,O,⟨_,_,O,O,⟨_,_,O,O,⟨_,_,O,O,⟨_,_,O,O,⟨_,_,O,O,O⟩⟩⟩⟩⟩⟩⟩ O,?_⟩));have hy:∀(sn:ByteArray) (en:Gg),(sn,en)∈Fs x ((i:Int))→MB Tryz.prog l [.p (.str sn),.agg ((Dn en).map .p)] [.loop l L,.box b7 ((Bu x).map .p),.box b5 [.p (I 0)],.box b4 [.p (I 0),.p (I 0),.p (I 0),.p (I 0),.p (I 0),.p (I 0),.p (.str ⟨#[]⟩),.p (.nils),.p (.nils)],.box b3 [.p (.str nm)]] (V7 (.p (.bool (!decide (sn=nm)))) (fun T:List BR=>T=if sn=nm then [.loop l { L with state:= .done,pending:=some .ret },.box b7 ((Bu x).map .p),.box b5 [.p (I 0)],.box b4 ((Dn en).map .p),.box b3 [.p (.str nm)]] else [.loop l L,.box b7 ((Bu x).map .p),.box b5 [.p (I 0)],.box b4 [.p (I 0),.p (I 0),.p (I 0),.p (I 0),.p (I 0),.p (I 0),.p (.str ⟨#[]⟩),.p (.nils),.p (.nils)],.box b3 [.p (.str nm)]])):=by
   intro sn en hm;obtain⟨LB,hLB⟩:∃x,x=BR.loop l { L with state:= .busy }:=⟨_,rfl⟩;subst hL;refine UF (i:=0) O O O O (A3 A7 1 [] O (BC (BO O (BG Hw O) fun b9=>A1 A7 1 [0,1] O ⟨O,1,O,?_⟩)));rw[←hLB];refine BJ (A6 (A5 A7 2 [5] O (A0 O (GJ O O) (Bq O (A4 O (fun c1=>?_) (fun c1=>?_))))))
   ·(try simp only[sd,se] at c1);refine A3 A7 3 [0,4,1,3,0] O (A9 ?_);subst hLB;refine⟨1,_,O,CC (is:=[1,2,3,4,5]) O,?_⟩;have hcc:sn=nm:=G7 (by simpa using c1);exact⟨by simp[hcc],(if_pos hcc).symm⟩
   (try simp only[sd,se] at c1);refine BA ?_;subst hLB;refine⟨1,_,O,CC (is:=[1,2,3,4,5]) O,?_⟩;have hcc:¬(sn=nm):=fun h=>by simp[h] at c1
   exact⟨by simp[hcc],(if_neg hcc).symm⟩
  refine(lp l bd ba x ((i:Int)) nm (fun en=>[.loop l { L with state:= .done,pending:=some .ret },.box b7 ((Bu x).map .p),.box b5 [.p (I 0)],.box b4 ((Dn en).map .p),.box b3 [.p (.str nm)]]) _ (hx0) hy).mono ?_;rintro(v | v) H' hR
  rotate_left
  ·exact hR.elim
  obtain⟨rfl,_,hT,rfl⟩:=hR;subst hL;unfold I8 at hT;cases hF:C6 nm (Fs x ((i:Int))) with
  | some en =>
   rw[hF] at hT;simp only at hT;subst hT;refine YW (i:=2) (.box bd ((Bu x).map .p):: .box ba [.p (I (i:Int))]:: .box b7 ((Bu x).map .p):: .box b5 [.p (I 0)]:: .box b4 ((Dn en).map .p):: .box b3 [.p (.str nm)]::(.dfr dd::U.map BR.dfr)) O Ay O O (A9 (P8 (dd::U) (Hs:=[_,_,_,_,_,_]) (⟨_,_,⟨_,_,O,(BI (i:=4) Ld O O An),⟨_,_,O,(G1 (i:=3) Sd O O),O⟩⟩,(List.nil_sublist _),?_⟩)))
   all_goals exact⟨by show (.tup [.agg ((Dn en).map .p),.p (I 0)]:AV)=_;rw[dH hx hC hF],rfl⟩
  | none =>
   rw[hF] at hT;simp only at hT;subst hT;refine W5 (i:=2) (.box bd ((Bu x).map .p):: .box ba [.p (I (i:Int))]:: .box b7 ((Bu x).map .p):: .box b5 [.p (I 0)]:: .box b4 [.p (I 0),.p (I 0),.p (I 0),.p (I 0),.p (I 0),.p (I 0),.p (.str ⟨#[]⟩),.p (.nils),.p (.nils)]:: .box b3 [.p (.str nm)]::(.dfr dd::U.map BR.dfr)) O Ay O O (BC (A1 A7 2 [] O (⟨⟨i+1,dd::U⟩,Ac,⟨by omega,C9 (p:=fun j (y:CX)=>C6 nm (Fs y j)=none) hC hx hF⟩,Bh ⟨we rfl,we rfl,we rfl,we rfl,we rfl,we rfl,trivial⟩ (Zx [3,4,5] [_,_,_,_,_,_] (l':=[_,_,_]) rfl (wl (oe rfl) (wl (oe rfl) (wl (oe rfl) (DJ)))))⟩)))
 (try simp only[sd,se] at c);refine Bo (A3 A7 3 [1,0,0,0] O (BQ (Bd (i:=1) O) (A9 (P8 U (Hs:=[_,_,_]) (⟨_,_,⟨_,_,O,(BI (i:=1) Ld O O O),⟨_,_,O,(G1 (i:=0) Sd O O),O⟩⟩,(List.nil_sublist _),?_⟩)))))
 all_goals exact⟨by show (.tup [.agg [.p (I 0),.p (I 0),.p (I 0),.p (I 0),.p (I 0),.p (I 0),.p (.str ⟨#[]⟩),.p (.lst []),.p (.lst [])],.p (I 9)]:AV)=_;rw[dO fun j hj=>hC j Ax];rfl,rfl⟩
theorem ah:∀(ds:List CX) (nm:ByteArray),(Hj ds)→Ep Tryz.prog 127 [.p (.lst (List.map Bu ds)),.p (.str nm)] (.tup [.agg ((Bu ((Cr ds nm).1)).map .p),.p (I ((Cr ds nm).2.1)),.p (.bool ((Cr ds nm).2.2))]):=by
 intro ds nm h1;have hl:=h1.len;refine BF Tryz.func127 O oq (n:=44) O O (A6 (BO O (BG Iz O) fun b4=>A1 A7 2 [] O (A6 (A5 A7 2 [] O (A0 rfl (BL rfl rfl (Z0 ds nm Ai (fun d hd=> .inr (h1.all d hd))) rfl) (A5 A7 3 [] O (BO O (BG Hw O) fun b7=>A1 A7 2 [0,1] O (A2 (A3 A7 2 [] O (A4 O (fun c=>?_) (fun c=>?_)))))))))))
 ·(try simp only[sd,se] at c);refine A3 A7 4 [1,0] O (BQ (Bd (i:=1) O) (A9 (⟨O,_,_,⟨_,_,O,(BI (i:=1) Fg O O O),⟨_,_,O,O,⟨_,_,O,O,O⟩⟩⟩,(List.nil_sublist _),?_⟩)))
  all_goals exact⟨by show (.tup [.agg [.p (I 0),.p (.str ⟨#[]⟩),.p (I 0),.p (I 0),.p (I 0),.p (.str ⟨#[]⟩),.p (.lst []),.p (.lst []),.p (I 0),.p (I 0),.p (.str ⟨#[]⟩),.p (.lst []),.p (.lst []),.p (I 0),.p (.lst []),.p (I 0),.p (I 0),.p (I 0),.p (.str ⟨#[]⟩),.p (.lst []),.p (.lst []),.p (.lst []),.p (.lst [])],.p (I 0),.p (.bool false)]:AV)=_;rw[Zm Ax];rfl,rfl⟩
 (try simp only[sd,se] at c);obtain⟨fi,fd,hfi,hfo⟩:=N4 (ds:=ds) (nm:=nm) Ax;have hdl:=hfo.decl;have hfl:=(List.getElem?_eq_some_iff.1 hfi).1;refine BA (A2 (A6 (A0 O (A8 Fv O O) (A0 O (BB (i:=0) DO O O (DK _)) (Bq O (BJ (A3 A7 2 [] O (A4 O (fun c1=>?_) (fun c1=>?_)))))))))
 ·(try simp only[sd,se] at c1);refine A6 (A5 A7 2 [] O (A0 O (BB (i:=0) DO O O (DZ _)) ?_));obtain⟨x,hx⟩:=BE (l:=ds) (i:=(((Bw ds nm).1).decl:Int).toNat) Ax;refine A0 O (BD Hz O O Ax (EG hx) (Cx _)) (A1 A7 4 [1,1] O (A9 (⟨O,_,_,⟨_,_,O,(BI (i:=1) Fg O O Am),⟨_,_,O,O,⟨_,_,O,O,O⟩⟩⟩,(List.nil_sublist _),?_⟩)))
  all_goals exact⟨by show (.tup [.agg ((Bu x).map .p),.p (I (-1)),.p (.bool true)]:AV)=_;rw[kU Ax Ax hx],rfl⟩
 (try simp only[sd,se] at c1);refine A3 A7 2 [] O (A4 O (fun c2=>?_) (fun c2=>?_))
 ·(try simp only[sd,se] at c2);refine A2 (B0 (fun k=>false) Dt (BZ A7 2 [] O (CY (j:=0) O O O (fun H i hi=>BB (i:=i) DO O hi (DZ _)) AB Az ?_)));obtain⟨x,hx⟩:=BE (l:=ds) (i:=(((Bw ds nm).1).decl:Int).toNat) Ax;refine BP O (fun _=>BD Hz O O Ax (EG hx) (Cx _)) Az (BZ A7 2 [] O (CY (j:=0) O O O (fun H i hi=>BB (i:=i) DO O hi (E2 _)) AB Az (Bt A7 3 [1,1] O (A9 (⟨O,_,_,⟨_,_,O,(BI (i:=1) Fg O O Am),⟨_,_,O,O,⟨_,_,O,O,O⟩⟩⟩,(List.nil_sublist _),?_⟩)))))
  all_goals exact⟨by show (.tup [.agg ((Bu x).map .p),.p (I (((Bw ds nm).1).item)),.p (.bool true)]:AV)=_;rw[kj Ax Ax hx],rfl⟩
 (try simp only[sd,se] at c2);refine A3 A7 2 [] O (A4 O (fun c3=>?_) (fun c3=>?_))
 ·(try simp only[sd,se] at c3);refine A6 (A5 A7 2 [] O (A0 O (BB (i:=0) DO O O (DZ _)) ?_));obtain⟨x,hx⟩:=BE (l:=ds) (i:=(((Bw ds nm).1).decl:Int).toNat) Ax;refine A0 O (BD Hz O O Ax (EG hx) (Cx _)) (A1 A7 4 [1,1] O (A9 (⟨O,_,_,⟨_,_,O,(BI (i:=1) Fg O O Am),⟨_,_,O,O,⟨_,_,O,O,O⟩⟩⟩,(List.nil_sublist _),?_⟩)))
  all_goals exact⟨by show (.tup [.agg ((Bu x).map .p),.p (I (-2)),.p (.bool true)]:AV)=_;rw[fG Ax Ax hx],rfl⟩
 (try simp only[sd,se] at c3);refine BA (A3 A7 4 [1,0] O (BQ (Bd (i:=1) O) (A9 (⟨O,_,_,⟨_,_,O,(BI (i:=1) Fg O O O),⟨_,_,O,O,⟨_,_,O,O,O⟩⟩⟩,(List.nil_sublist _),?_⟩))))
 all_goals exact⟨by show (.tup [.agg [.p (I 0),.p (.str ⟨#[]⟩),.p (I 0),.p (I 0),.p (I 0),.p (.str ⟨#[]⟩),.p (.lst []),.p (.lst []),.p (I 0),.p (I 0),.p (.str ⟨#[]⟩),.p (.lst []),.p (.lst []),.p (I 0),.p (.lst []),.p (I 0),.p (I 0),.p (I 0),.p (.str ⟨#[]⟩),.p (.lst []),.p (.lst []),.p (.lst []),.p (.lst [])],.p (I 0),.p (.bool false)]:AV)=_;rw[fX Ax Ax Ax];rfl,rfl⟩
theorem PA:∀(m:Nat) (ds:List CX) (n:Int) (h:Tm),(Hj ds)→B2 Tryz.prog 89 [.ptr m 0,.agg ((Bb h).map .p)] [.box m [.p (.lst (List.map Bu ds)),.p (I n)]] (Gj (.tup [.agg ((Dn ((Bw ds h.name).1)).map .p),.p (.bool (Tg ds h))]) [.box m [.p (.lst (List.map Bu ds)),.p (I n)]]):=by
 intro m ds n h h1;have hel:=h1.len;obtain⟨hk,hi,hn,hl,hs⟩:=h;refine BF Tryz.func89 O rp (n:=29) O O (A6 (BO O (Ba O) fun b3=>BO O (BG Hw O) fun b4=>A1 A7 1 [] O (A2 (B0 (fun k=>Nat.beq k 10) Dt (BZ A7 6 [2,1] O (BP rfl (fun _=>BL rfl rfl (Z0 ds hn Ai (fun d hd=> .inr (h1.all d hd))) rfl) trivial (BZ A7 3 [] O (GA [] O O (BG Hw O) As fun b6=>⟨AB,Az,?_⟩))))))));refine Bt A7 2 [0,1] O (A2 (B0 (fun k=>false) Dt (BZ A7 4 [0] O (D9 21 O (fun g=>?_) (fun g=>?_)))))
 ·(try simp only[sd,se] at g);refine BZ A7 2 [2] O (Cm O (fun _=>BT Em O (List.length_map _)) Az (Cm O (fun _=>A8 Fv O O) Az (MI (i:=0) O O O O O (fun H i hi=>BB (i:=i) DO O hi (Hq _)) AB Az (Bt A7 4 [1,1] O (A9 (⟨O,_,_,⟨_,_,O,(BI (i:=1) Ld O O An),⟨_,_,O,O,O⟩⟩,(CC (is:=[3]) O),?_⟩))))))
  all_goals exact⟨by show (.tup [.agg ((Dn ((Bw ds hn).1)).map .p),.p (.bool (((hl.length:Nat):Int)==(((Bw ds hn).1).params:Int)))]:AV)=_;rw[gF (k:=hk) (i:=hi) (ks:=hs) (by first | exact g | omega)];rfl,rfl⟩
 (try simp only[sd,se] at g);refine Bt A7 9 [1,1] O (A9 (⟨O,_,_,⟨_,_,O,(BI (i:=1) Ld O O An),⟨_,_,O,O,O⟩⟩,(CC (is:=[3]) O),?_⟩))
 all_goals exact⟨by show (.tup [.agg ((Dn ((Bw ds hn).1)).map .p),.p (.bool false)]:AV)=_;rw[kX (k:=hk) (i:=hi) (ls:=hl) (ks:=hs) (by first | exact g | omega)];rfl,rfl⟩
theorem QV:∀(m:Nat) (ds:List CX) (n:Int) (t:Tm),(KB ds)→(okB t=true)→B2 Tryz.prog 96 [.ptr m 0,.agg ((Bb t).map .p)] [.box m [.p (.lst (List.map Bu ds)),.p (I n)]] (Gj (.tup [.agg ((Bu ((CA ds t).1)).map .p),.p (I ((CA ds t).2.1)),.p (.lst (BN ((CA ds t).2.2.1))),.p (.bool ((CA ds t).2.2.2))]) [.box m [.p (.lst (List.map Bu ds)),.p (I n)]]):=by
 intro m ds n t h1 h2;have ho:=CJ.1 h2;have hosz:=ho.sz;have hoss:=GC t;have hosl:=PN t;have hosp:=IJ h2;refine BF Tryz.func96 O rT (n:=67) O O (A6 (BO O (Ba O) fun b3=>BO O (BG Iz O) fun b4=>A1 A7 3 [] O (A6 (A0 O (Bf (i:=1) Bg O O Ap) (A0 O (BL O O (MC t ho.nd Ai) O) (A5 A7 3 [] O (BO O (BG B4 O) fun b8=>A1 A7 2 [0,1] O (A2 (A6 (A0 O (A8 HA O O) ?_))))))))));generalize hz:(BH t).1=z;obtain⟨zk,zi,zn,zl,zs⟩:=z;refine A1 A7 2 [0] O (A4 O (fun c=>?_) (fun c=>?_))
 ·(try simp only[sd,se] at c);refine A3 A7 5 [1,0] O (BQ (Bd (i:=1) O) (BQ (EJ 6) (A9 (⟨O,_,_,⟨_,_,O,(BI (i:=1) Fg O O O),⟨_,_,O,O,⟨_,_,O,O,⟨_,_,O,O,O⟩⟩⟩⟩,(CC (is:=[3]) O),?_⟩))))
  all_goals exact⟨by show (.tup [.agg [.p (I 0),.p (.str ⟨#[]⟩),.p (I 0),.p (I 0),.p (I 0),.p (.str ⟨#[]⟩),.p (.lst []),.p (.lst []),.p (I 0),.p (I 0),.p (.str ⟨#[]⟩),.p (.lst []),.p (.lst []),.p (I 0),.p (.lst []),.p (I 0),.p (I 0),.p (I 0),.p (.str ⟨#[]⟩),.p (.lst []),.p (.lst []),.p (.lst []),.p (.lst [])],.p (I 0),.p (.lst (BN [])),.p (.bool false)]:AV)=_;rw[MS (ZO hz c)];rfl,rfl⟩
 (try simp only[sd,se] at c);refine BA (A2 (B0 (fun k=>Nat.beq k 11) Dt (BZ A7 6 [3,0] O (BP O (fun _=>BL O O (ah ds zn h1.env) O) Az (BZ A7 4 [] O (GA [] O O (BG Iz O) As fun b10=>⟨AB,Az,?_⟩))))));refine Bt A7 3 [0,1] O (A2 (A2 (Be [4,9,10,11] 40 (fun y=>y= .p (.bool ((!((Cr ds zn).2.2))||(decide (((Cr ds zn).2.1:Int)<(0:Int)))))) ?_ ?_)))
 ·refine BC (A5 A7 3 [] O (BY 37 O (fun g=>?_) (fun g=>?_)))
  ·(try simp only[sd,se] at g);exact A1 A7 3 [] O (⟨O,O,AP,AJ,⟨O,O,O,O,Az⟩⟩)
  (try simp only[sd,se] at g);exact A1 A7 3 [] O (⟨O,O,AP,AJ,⟨O,O,O,O,Az⟩⟩)
 rintro _ rfl;refine A4 O (fun c1=>?_) (fun c1=>?_)
 ·(try simp only[sd,se] at c1);have hcc:=c1;refine A3 A7 5 [2,0] O (BQ (Bd (i:=2) O) (BQ (EJ 6) (A9 (⟨O,_,_,⟨_,_,O,(BI (i:=2) Fg O O O),⟨_,_,O,O,⟨_,_,O,O,⟨_,_,O,O,O⟩⟩⟩⟩,(CC (is:=[4]) O),?_⟩))))
  all_goals exact⟨by show (.tup [.agg [.p (I 0),.p (.str ⟨#[]⟩),.p (I 0),.p (I 0),.p (I 0),.p (.str ⟨#[]⟩),.p (.lst []),.p (.lst []),.p (I 0),.p (I 0),.p (.str ⟨#[]⟩),.p (.lst []),.p (.lst []),.p (I 0),.p (.lst []),.p (I 0),.p (I 0),.p (I 0),.p (.str ⟨#[]⟩),.p (.lst []),.p (.lst []),.p (.lst []),.p (.lst [])],.p (I 0),.p (.lst (BN [])),.p (.bool false)]:AV)=_;rw[MS (Zh hz (by simpa using c) hcc)];rfl,rfl⟩
 (try simp only[sd,se] at c1);have hcc:(Cr ds zn).2.2=true∧¬(Cr ds zn).2.1<0:=⟨c1.1,by omega⟩;have hfd:=YM h1 hcc.1 hcc.2;have hfr:=NT hfd.1 hfd.2.2.1 hfd.2.2.2 hfd.2.1.1;have hfx:=hfd.2.1;refine BA (A6 (A0 O (A8 DD O O) (A0 O (BB (i:=0) HY O O (CH _)) (B3 O ?_))));obtain⟨x,hx⟩:=BE (l:=((Cr ds zn).1).ctors) (i:=((Cr ds zn).2.1:Int).toNat) Ax;have hal:=Is x.type;have hxs:=(hfd.1.cs _ (List.mem_of_getElem? hx)).ty;refine A0 O (BD HN O O Ax (EU hx) (D8 _)) (A0 O (B7 Iq O O) (A0 O (DU Bg O (FU _) (BM _)) (A0 O (BL O O (Y5 x.type hxs.nd hxs.sz) O) (A5 A7 3 [] O (BO O (BG B4 O) fun b14=>A1 A7 2 [0,1] O (A2 (A6 (B3 O (A0 O (BT Bk O (Bc _)) (A0 O (A8 DD O O) (A0 O (BB (i:=1) DO O O (Cv _)) (B3 O (A0 O (BT Bk O (Bc _)) (A0 O (Fi O O) (A1 A7 1 [] O (A4 O (fun c2=>?_) (fun c2=>?_)))))))))))))))))
 ·(try simp only[sd,se] at c2);refine A3 A7 5 [3,0] O (BQ (Bd (i:=3) O) (BQ (EJ 6) (A9 (⟨O,_,_,⟨_,_,O,(BI (i:=3) Fg O O O),⟨_,_,O,O,⟨_,_,O,O,⟨_,_,O,O,O⟩⟩⟩⟩,(CC (is:=[5]) O),?_⟩))))
  all_goals exact⟨by show (.tup [.agg [.p (I 0),.p (.str ⟨#[]⟩),.p (I 0),.p (I 0),.p (I 0),.p (.str ⟨#[]⟩),.p (.lst []),.p (.lst []),.p (I 0),.p (I 0),.p (.str ⟨#[]⟩),.p (.lst []),.p (.lst []),.p (I 0),.p (.lst []),.p (I 0),.p (I 0),.p (I 0),.p (.str ⟨#[]⟩),.p (.lst []),.p (.lst []),.p (.lst []),.p (.lst [])],.p (I 0),.p (.lst (BN [])),.p (.bool false)]:AV)=_;rw[MS (Y6 hz (by simpa using c) hcc.1 hcc.2 (by rw[Rm hx hfx.1];exact c2))];rfl,rfl⟩
 (try simp only[sd,se] at c2);have hl3:=c2;refine BA (A2 (B0 (fun k=>false) Dt (BZ A7 4 [1] O (CY (j:=1) O O O (fun H i hi=>BB (i:=i) DO O hi (Cv _)) AB Az (BP O (fun _=>Cc (lo:=(((Cr ds zn).1).fixed:Int).toNat) Bk O (CM (B1 _)) ⟨_,pI Ax⟩ O AX (Nat.le_refl _) (I6 ((BH t).2) ((((Cr ds zn).1).fixed:Int).toNat))) Az (Bt A7 4 [3,1] O (A9 (⟨O,_,_,⟨_,_,O,(BI (i:=3) Fg O O Am),⟨_,_,O,O,⟨_,_,O,O,⟨_,_,O,O,O⟩⟩⟩⟩,(CC (is:=[5]) O),?_⟩))))))))
 all_goals exact⟨by show (.tup [.agg ((Bu ((Cr ds zn).1)).map .p),.p (I ((Cr ds zn).2.1)),.p (.lst (BN (((BH t).2).drop ((((Cr ds zn).1).fixed:Int).toNat)))),.p (.bool true)]:AV)=_;rw[Qk (gW hz (by simpa using c) hcc.1 hcc.2 (by rw[Rm hx hfx.1];exact c2))],rfl⟩
theorem kC:∀(b0:Nat) (x:GU) (nm:ByteArray),B2 Tryz.prog 129 [.agg ((HD x).map .p),.ptr b0 0] [.box b0 [.p (.str nm)]] (Gj (.p (.bool (x.ctor.toList==nm.toList))) [.box b0 [.p (.str nm)]]):=by
 intro b0 x nm;refine BF Tryz.func129 O pF (n:=8) O O (A6 (BO O (Ba O) fun b2=>A1 A7 1 [] O (A6 (A0 O (A8 Ig O O) (A0 O (BB (i:=0) Lg O O (Gl _)) (A0 O (CG (i:=1) Lg O O O) (A0 O (GJ O O) (A1 A7 1 [] O (A9 (⟨O,_,_,⟨_,_,O,O,O⟩,(CC (is:=[1]) O),?_⟩))))))))))
 all_goals exact⟨rfl,rfl⟩
theorem ll:∀(b0:Nat) (nm:ByteArray) (l:List GU),(l.length<2000000)→B2 Tryz.prog 128 [.p (.lst (LO l)),.fn (.func 129) [] [.ptr b0 0]] [.box b0 [.p (.str nm)]] (Gj (.p (I (Mx nm l 0))) [.box b0 [.p (.str nm)]]):=by
 intro b0 nm l h1;refine BF Tryz.func128 O nD (n:=19) O O (A3 A7 1 [] O (A2 (A6 (B3 O (A0 O (BT Jm O (GI _)) (A1 A7 1 [] O (BJ (Bn (α:=Nat) (fun i=>⟨19,mk [(0,.p (.lst (LO l))),(1,.fn (.func 129) [] [.ptr b0 0]),(7,.p (I (l.length:Nat))),(8,.p (I (i:Int)))],[.box b0 [.p (.str nm)]],[]⟩) (fun i=>l.length - i) (fun i=>i≤l.length∧(Mx nm (l.drop i) (i:Int)=Mx nm l 0)) 0 (⟨by omega,rfl⟩) ?_ ?_))))))))
 ·exact Bh ⟨we O,we O,we O,we O,Az⟩ (leH (is:=[0]) O (wl (oe O) (DJ)))
 rintro i hC
 try simp only at hC
 obtain⟨hi,hC⟩:=hC;refine A3 A7 1 [] O (A2 (A4 O (fun c=>?_) (fun c=>?_)))
 ·(try simp only[sd,se] at c);refine BA (A2 (BJ (A3 A7 2 [] O (A6 (A5 A7 3 [] O ?_)))));obtain⟨x,hx⟩:=BE (l:=l) (i:=i) Ax;refine A0 O (BD Jm O O Ax (Fm hx) (Dc _)) (A0 O (BU TB O (Dc _)) (A0 O (CF [0] O (.inr O) (kC b0 x nm) ⟨_,_,O,O,O⟩ Aw O (.inl O)) (Bq O (A4 O (fun c1=>?_) (fun c1=>?_)))))
  ·(try simp only[sd,se] at c1);refine A3 A7 2 [] O (A9 (⟨O,_,_,⟨_,_,O,O,O⟩,(CC (is:=[0]) O),?_⟩))
   all_goals exact⟨pI (by rw[←hC,jV hx (by simpa using c1)]),rfl⟩
  (try simp only[sd,se] at c1);refine BA (BC (A1 A7 2 [] O ?_));refine⟨(i+1),Ac,⟨by omega,by rw[←hC,mA hx (by simpa using c1)];rfl⟩,Bh ⟨we rfl,we rfl,we rfl,we rfl,trivial⟩ (leH (is:=[0]) rfl (wl (oe rfl) (DJ)))⟩
 (try simp only[sd,se] at c);refine Bo (A3 A7 1 [] O (A9 (⟨O,_,_,⟨_,_,O,O,O⟩,(CC (is:=[0]) O),?_⟩)))
 all_goals exact⟨pI (by rw[←hC,List.drop_eq_nil_of_le Ax];rfl),rfl⟩
end Go.Proofs.YtboammbpdaoojaaGreat
