/- Part of the proofs: an abstract program logic, plain models and contracts of functions. -/
import Derived.Shelf.SlIterI.Nil
import Derived.Shelf.SortM.Plain
import Derived.Shelf.SortM.SortNone
import Derived.Ground.GgzProg
import Derived.Ground.SlgmProg
import Derived.Test.YtboammbpdaoojaaGreatProg
import Derived.Test.YtboammbpdaoojaaGreatPe
import Derived.Test.YtboammbpdaoojaaGreatPb
import Derived.Test.YtboammbpdaoojaaGreatPf
import Derived.Test.YtboammbpdaoojaaGreatPd
import Derived.Test.YtboammbpdaoojaaGreatPc
set_option linter.unusedVariables false
set_option linter.unusedSimpArgs false
set_option maxRecDepth 100000
namespace Go.Proofs
open Go.Shelf
def Tryz.keysA_ren:Go.Shelf.Ren:=⟨fun | 7=>193 | 10=>199 | n=>n,fun | 23=>229 | 26=>3 | 3=>3 | 28=>240 | 0=>0 | 27=>239 | 33=>245 | 4=>4 | n=>n,fun | n=>n⟩
theorem Tryz.keysA:Go.Proofs.SlLaysZI.n7 Tryz.prog Tryz.keysA_ren:={
 mixed:=by kernel_rfl
 f7:=⟨Tryz.f193.name,by decide,Tryz.func193.trans (congrArg some Ap)⟩
 f10:=⟨Tryz.f199.name,by decide,Tryz.func199.trans (congrArg some Ap)⟩
 t0:=Tryz.underlying0
 a0:=Tryz.isAgg0
 z0:=Tryz.sizeOf0
 v0:=Tryz.zeroValue0
 t4:=Tryz.underlying4
 a4:=Tryz.isAgg4
 z4:=Tryz.sizeOf4
 v4:=Tryz.zeroValue4
 t23:=Tryz.underlying229
 a23:=Tryz.isAgg229
 z23:=Tryz.sizeOf229
 v23:=Tryz.zeroValue229
 t26:=Tryz.underlying3
 a26:=Tryz.isAgg3
 z26:=Tryz.sizeOf3
 v26:=Tryz.zeroValue3
 t27:=Tryz.underlying239
 a27:=Tryz.isAgg239
 z27:=Tryz.sizeOf239
 v27:=Tryz.zeroValue239
 t28:=Tryz.underlying240
 a28:=Tryz.isAgg240
 z28:=Tryz.sizeOf240
 v28:=Tryz.zeroValue240
 t33:=Tryz.underlying245
 a33:=Tryz.isAgg245
 z33:=Tryz.sizeOf245
 v33:=Tryz.zeroValue245 }
def Tryz.sortedA_ren:Go.Shelf.Ren:=⟨fun | 6=>192 | 8=>197 | 9=>198 | 11=>201 | 13=>203 | 12=>202 | 23=>213 | 24=>214 | 14=>204 | 15=>205 | 16=>206 | 17=>207 | 18=>208 | 19=>209 | 20=>210 | 21=>211 | 22=>212 | 25=>215 | 26=>216 | 27=>217 | 28=>218 | 29=>219 | 30=>220 | 31=>221 | n=>n,fun | 26=>3 | 28=>240 | 24=>137 | 0=>0 | 3=>3 | 37=>250 | 48=>260 | 50=>262 | 4=>4 | 40=>253 | 39=>252 | 45=>45 | 5=>5 | 9=>9 | 51=>263 | 55=>267 | 57=>269 | 58=>110 | 33=>245 | n=>n,fun | n=>n⟩
theorem Tryz.sortedA:Go.Proofs.SlLaysZI.n6 Tryz.prog Tryz.sortedA_ren:={
 mixed:=by kernel_rfl
 f6:=⟨Tryz.f192.name,by decide,Tryz.func192.trans (congrArg some Ap)⟩
 f8:=⟨Tryz.f197.name,by decide,Tryz.func197.trans (congrArg some Ap)⟩
 f11:=⟨Tryz.f201.name,by decide,Tryz.func201.trans (congrArg some Ap)⟩
 t0:=Tryz.underlying0
 a0:=Tryz.isAgg0
 z0:=Tryz.sizeOf0
 v0:=Tryz.zeroValue0
 t24:=Tryz.underlying137
 a24:=Tryz.isAgg137
 z24:=Tryz.sizeOf137
 v24:=Tryz.zeroValue137
 t26:=Tryz.underlying3
 a26:=Tryz.isAgg3
 z26:=Tryz.sizeOf3
 v26:=Tryz.zeroValue3
 t28:=Tryz.underlying240
 a28:=Tryz.isAgg240
 z28:=Tryz.sizeOf240
 v28:=Tryz.zeroValue240
 i26:=by kernel_rfl }
def Tryz.sortA_ren:Go.Shelf.Ren:=⟨fun | 5=>198 | 8=>203 | 7=>202 | 19=>213 | 20=>214 | 10=>204 | 11=>205 | 12=>206 | 13=>207 | 14=>208 | 15=>209 | 16=>210 | 17=>211 | 18=>212 | 30=>215 | 31=>216 | 32=>217 | 33=>218 | 34=>219 | 35=>220 | 40=>221 | n=>n,fun | 23=>137 | 25=>3 | 3=>3 | 32=>250 | 22=>137 | 0=>0 | 44=>260 | 46=>262 | 4=>4 | 36=>253 | 35=>252 | 41=>45 | 5=>5 | 9=>9 | 53=>263 | 57=>267 | 63=>269 | 64=>110 | n=>n,fun | n=>n⟩
theorem Tryz.sortA:Go.Proofs.SlLaysM.n5 Tryz.prog Tryz.sortA_ren:={
 mixed:=by kernel_rfl
 f5:=⟨Tryz.f198.name,by decide,Tryz.func198.trans (congrArg some Ap)⟩
 f7:=⟨Tryz.f202.name,by decide,Tryz.func202.trans (congrArg some Ap)⟩
 f8:=Tryz.func203.trans (congrArg some Ap)
 f10:=⟨Tryz.f204.name,by decide,Tryz.func204.trans (congrArg some Ap)⟩
 f11:=⟨Tryz.f205.name,by decide,Tryz.func205.trans (congrArg some Ap)⟩
 f12:=⟨Tryz.f206.name,by decide,Tryz.func206.trans (congrArg some Ap)⟩
 f13:=⟨Tryz.f207.name,by decide,Tryz.func207.trans (congrArg some Ap)⟩
 f14:=⟨Tryz.f208.name,by decide,Tryz.func208.trans (congrArg some Ap)⟩
 f15:=⟨Tryz.f209.name,by decide,Tryz.func209.trans (congrArg some Ap)⟩
 f16:=⟨Tryz.f210.name,by decide,Tryz.func210.trans (congrArg some Ap)⟩
 f17:=⟨Tryz.f211.name,by decide,Tryz.func211.trans (congrArg some Ap)⟩
 f18:=⟨Tryz.f212.name,by decide,Tryz.func212.trans (congrArg some Ap)⟩
 f19:=Tryz.func213.trans (congrArg some Ap)
 f20:=Tryz.func214.trans (congrArg some Ap)
 f30:=⟨Tryz.f215.name,by decide,Tryz.func215.trans (congrArg some Ap)⟩
 f31:=Tryz.func216.trans (congrArg some Ap)
 f32:=Tryz.func217.trans (congrArg some Ap)
 f33:=⟨Tryz.f218.name,by decide,Tryz.func218.trans (congrArg some Ap)⟩
 f34:=⟨Tryz.f219.name,by decide,Tryz.func219.trans (congrArg some Ap)⟩
 f35:=⟨Tryz.f220.name,by decide,Tryz.func220.trans (congrArg some Ap)⟩
 f40:=⟨Tryz.f221.name,by decide,Tryz.func221.trans (congrArg some Ap)⟩
 t0:=Tryz.underlying0
 a0:=Tryz.isAgg0
 z0:=Tryz.sizeOf0
 v0:=Tryz.zeroValue0
 t3:=Tryz.underlying3
 a3:=Tryz.isAgg3
 z3:=Tryz.sizeOf3
 v3:=Tryz.zeroValue3
 t4:=Tryz.underlying4
 a4:=Tryz.isAgg4
 z4:=Tryz.sizeOf4
 v4:=Tryz.zeroValue4
 t5:=Tryz.underlying5
 a5:=Tryz.isAgg5
 z5:=Tryz.sizeOf5
 v5:=Tryz.zeroValue5
 t9:=Tryz.underlying9
 a9:=Tryz.isAgg9
 z9:=Tryz.sizeOf9
 v9:=Tryz.zeroValue9
 t22:=Tryz.underlying137
 a22:=Tryz.isAgg137
 z22:=Tryz.sizeOf137
 v22:=Tryz.zeroValue137
 t23:=Tryz.underlying137
 a23:=Tryz.isAgg137
 z23:=Tryz.sizeOf137
 v23:=Tryz.zeroValue137
 t25:=Tryz.underlying3
 a25:=Tryz.isAgg3
 z25:=Tryz.sizeOf3
 v25:=Tryz.zeroValue3
 t32:=Tryz.underlying250
 a32:=Tryz.isAgg250
 z32:=Tryz.sizeOf250
 v32:=Tryz.zeroValue250
 t35:=Tryz.underlying252
 a35:=Tryz.isAgg252
 z35:=Tryz.sizeOf252
 v35:=Tryz.zeroValue252
 t36:=Tryz.underlying253
 a36:=Tryz.isAgg253
 z36:=Tryz.sizeOf253
 v36:=Tryz.zeroValue253
 t41:=Tryz.underlying45
 a41:=Tryz.isAgg45
 z41:=Tryz.sizeOf45
 v41:=Tryz.zeroValue45
 t44:=Tryz.underlying260
 a44:=Tryz.isAgg260
 z44:=Tryz.sizeOf260
 v44:=Tryz.zeroValue260
 t46:=Tryz.underlying262
 a46:=Tryz.isAgg262
 z46:=Tryz.sizeOf262
 v46:=Tryz.zeroValue262
 t53:=Tryz.underlying263
 a53:=Tryz.isAgg263
 z53:=Tryz.sizeOf263
 v53:=Tryz.zeroValue263
 t57:=Tryz.underlying267
 a57:=Tryz.isAgg267
 z57:=Tryz.sizeOf267
 v57:=Tryz.zeroValue267
 t63:=Tryz.underlying269
 a63:=Tryz.isAgg269
 z63:=Tryz.sizeOf269
 v63:=Tryz.zeroValue269
 t64:=Tryz.underlying110
 a64:=Tryz.isAgg110
 z64:=Tryz.sizeOf110
 v64:=Tryz.zeroValue110 }
end Go.Proofs
namespace Go.Proofs
open Go.RowKit Go.Maps Go.Sort Go.Shelf
theorem Tryz.sortsA (m:Nat):AnyZI.SortsIn Tryz.prog Tryz.sortedA_ren Fence.wide m :=
 ⟨fun blk off cap ss W hH hblk hsz=>callsIn_wide.2 (AnyM.slices_Sort_int Tryz.sortA blk off cap ss W hH hblk hsz),
  fun p cap W=>callsIn_wide.2 (AnyM.slices_Sort_int_none Tryz.sortA p cap W)⟩
set_option maxHeartbeats 1000000 in
theorem Tryz.sortedKeys {H:Type}(Bm b nn:Nat) (D0:DataW H) (R:Value→Option (DataW H×List MemPlace)) (w:World) (hBm:Bm<w.heap.size) (hcell:w.cell? ⟨Bm,0,none⟩=some (.map (some b))) (hown:w.ownsMap Tryz.prog 3 R b nn D0) (hmax:Maps.size D0≤maxLen) (hbytes:Maps.size D0*8≤140737488355328) :
  Calls Tryz.prog 192 #[.func (.func 199) #[] #[.pointer (some ⟨Bm,0,none⟩)]] w fun e w'=>∃(v:Value) (ss:List Int),e= .returned v∧ss.Perm (intKeys D0) ∧
   w'.ownsRow w.heap.size 3 1 v ss.length ((ss.mergeSort (fun x y=>decide (x≤y))).map encZ)∧(v= .slice none 0 0↔ss=[])∧Below w.heap.size w w':=by
 refine(callsIn_wide (n:=5)).1 ?_;have hseq:SeqGives Fence.wide 2 Tryz.prog 199 #[.pointer (some ⟨Bm,0,none⟩)] encZ (fun ss=>ss.Perm (intKeys D0)) (Maps.size D0) w :=
  AnyZI.keys_gives (ρ:=Tryz.keysA_ren) { Tryz.keysA with } Fence.wide _ trivial rfl Au Bm b nn D0 w hBm hcell hown
 exact AnyZI.sorted_in Tryz.sortedA Fence.wide 5 Aw Aw Aw Aw O Au (Tryz.sortsA _) (enters_of Tryz.func198 Ap O) 199 #[.pointer (some ⟨Bm,0,none⟩)] Aw (enters_of Tryz.func199 Ap O) _ _ hmax hbytes _ hseq
end Go.Proofs
namespace Go.Proofs.YtboammbpdaoojaaGreat
open Go.Abs Go.Eu
theorem iK:∀(m:Nat),B4 Tryz.prog 193 [.map m] [] (eZ (fun b=> .fn (.func 199) [] [.ptr b 0]) [.map m]):=by
 intro m;refine BD Tryz.func193 O m4 (n:=4) O O (A4 (BP O (Bf O) fun b1=>Az BA 1 [] O (A2 BA 2 [] O (A6 (⟨O,_,_,⟨_,_,O,O,O⟩,(CJ (is:=[0]) O),?_⟩)))));exact⟨_,O,O⟩
theorem Zh:∀(b m:Nat) (M:List (Int×Int)),M.length<1000000→(∀k∈M.map Prod.fst,-65536≤k∧k<8)→B4 Tryz.prog 192 [.fn (.func 199) [] [.ptr b 0]] [.box b [.map m],.map m (Ec (Gy M))] (Gx (.p (.lst ((FX (M.map Prod.fst)).map Gv))) [.box b [.map m],.map m (Ec (Gy M))]):=fun b m M h1 h2=>QD (kT:=3) (eT:=3) Ap Ap (fun Bm b nn D0 R w g1 g2 g3 g4 g5=>Tryz.sortedKeys Bm b nn D0 R w g1 g2 g3 g4 g5) b m M h1 h2
theorem Z4:∀(s m:Nat) (M:List (Int×Int)) (C:Int),(YB (M,C))→B4 Tryz.prog 186 [.ptr s 0] [.box s [.map m,.p (I C)],.map m (Ec (Gy M))] (Gx (.tup [.agg ((CE ((Jc ⟨C,G5 M⟩).1)).map .p),.p (I ((Jc ⟨C,G5 M⟩).2))]) [.box s [.map m,.p (I C)],.map m (Ec (Gy M))]):=by
 intro s m M C h1;have hkl:(FX (M.map Prod.fst)).length=M.length:=by simp[Tc]
 have hml:M.length≤65544:=h1.len;refine BD Tryz.func186 O pF (n:=41) O O (A4 (BP O (BF Ef O) fun b2=>Az BA 1 [] O (A4 (A5 BA 5 [1] O (BP O (BF Ef O) fun b4=>Az BA 1 [0,0] O (A1 (A4 (CH (Hw (i:=0) O (YA (aw (we O) (aw (JJ) (FH))))) (CH (H8 (sz:=2)) (A5 BA 4 [3] O (Ys O O O (.inl ⟨O,O,O⟩) (iK m) (Dm _) fun bk=>Ay O (CS [0,5] O (.inl ⟨O,O,O⟩) (Zh bk m M Au h1.r) ⟨_,_,O,O,⟨_,_,O,O,O⟩⟩ As O (.inl O)) (Ay O (BZ Hp O (List.length_map _)) (Az BA 1 [] O (BH ?_))))))))))))));refine Bo (α:=Nat×Option Nat×Nat) (fun(i,o,cp)=>⟨41,mk [(0,.ptr s 0),(2,.ptr b2 0),(4,.ptr b4 0),(17,.p (.lst (List.map Gv (FX (M.map Prod.fst))))),(18,.p (I ((FX (M.map Prod.fst)).length:Nat))),(19,.p (I (i:Int)))],[.vec o 2 (List.map EF (((FX (M.map Prod.fst)).take i).map (QH M))) cp,.box b4 [.p (I C),.vs o (List.map EF (((FX (M.map Prod.fst)).take i).map (QH M))).length cp],.box b2 [.p (I 0),.p (.nils)],.box s [.map m,.p (I C)],.map m (Ec (Gy M))],[]⟩) (fun(i,o,cp)=>(FX (M.map Prod.fst)).length - i) (fun(i,o,cp)=>i≤(FX (M.map Prod.fst)).length) ⟨0,none,0⟩ AQ ?_ ?_
 ·exact Bk ⟨we O,we O,we O,we O,we O,we O,Aw⟩ (leH (is:=[1,2,3,4,5]) O (wl (oe O) (wl (oe O) (wl (oe O) (wl (oe O) (wl (oe O) (DN)))))))
 rintro⟨i,o,cp⟩ hC
 try simp only at hC
 have hi:=hC;refine A2 BA 1 [] O (A1 (A3 O (fun c=>?_) (fun c=>?_)))
 ·(try simp only[sd,se] at c);refine A7 (A1 (BH (A4 ?_)));obtain⟨x,hx⟩:=BE (l:=FX (M.map Prod.fst)) (i:=i) Au;refine Ay O (BC Hp O O Au (MB hx) (O)) (Az BA 2 [] O (B7 (fun k=>Nat.beq k 11) D7 (A0 O (fun _=>Ax Ea O O) Aw (BT (j:=1) O O O (fun H i hi=>BG (i:=i) Fp O hi O) AB Aw (A0 O (fun _=>BB O) Aw (A0 O (fun _=>BB O) Aw (A0 O (fun _=>CW O) Aw (A0 O (fun _=>Ax Tz O O) Aw (BT (j:=3) O O O (fun H i hi=>BG (i:=i) cg O hi O) AB Aw (A0 O (fun _=>BB O) Aw ?_))))))))));refine BT (j:=4) O O O (fun H i hi=>Wa (i:=i) ec hY (fun _ _=>by simp[CX,Ca]) rfl rfl hi (Vk _ _)) AB trivial ?_;refine A0 O (fun _=>CB Ep FZ O) Aw (A0 O (fun _=>B0 Ck FZ O O O O O) Aw (LS [] O O (Cb (i:=0) (rows':=List.map EF [(CR.mk x ((mg x M).getD 0))]) Ck Ck FZ O O O O O O (Ga _) AG (GW (f:=EF) (((FX (M.map Prod.fst)).take i).map (QH M)) [(CR.mk x ((mg x M).getD 0))])) Ap fun o1 cp1=>⟨AB,Aw,?_⟩));refine A0 O (fun _=>Ax Ea O O) Aw (CF O O (CO (i:=1) Fp O O O O O O) AB Aw (Bv O Ap (A8 (Az BA 2 [] O ?_))));refine⟨⟨i+1,o1,cp1⟩,AU,by omega,Bk ⟨we rfl,we rfl,we rfl,we rfl,we rfl,we rfl,trivial⟩ (leH (is:=[0,1,2,3,4]) rfl (wl (F5 (f:=EF) (((FX (M.map Prod.fst)).take i).map (QH M)++[(CR.mk x ((mg x M).getD 0))]) (by rw[List.take_add_one,hx];simp[QH])) (wl (YA (aw (we rfl) (aw (we (Gg (f:=EF) (((FX (M.map Prod.fst)).take i).map (QH M)++[(CR.mk x ((mg x M).getD 0))]) (by rw[List.take_add_one,hx];simp[QH]))) (FH)))) (wl (oe rfl) (wl (oe rfl) (wl (oe rfl) (DN)))))))⟩
 (try simp only[sd,se] at c);refine Br (A4 (CH (Df (i:=0) (j:=1) (q:=1) [] O O O (EH Aw)) (Ay O (BI (i:=0) DY O O O) (Ay O (BN O O (YI (Cl.mk C (((FX (M.map Prod.fst)).take i).map (QH M))) (by simp only[List.length_map,List.length_take,Dt];omega)) O) (Az BA 4 [1,1] O (A6 (⟨O,_,_,⟨_,_,O,(BJ (i:=1) DY O O Al),⟨_,_,O,O,O⟩⟩,(CJ (is:=[2,3]) O),?_⟩)))))))
 all_goals exact⟨by show (.tup [.agg ((CE ((Jc (Cl.mk C (((FX (M.map Prod.fst)).take i).map (QH M)))).1)).map .p),.p (I ((Jc (Cl.mk C (((FX (M.map Prod.fst)).take i).map (QH M)))).2))]:AV)=_;rw[show ((FX (M.map Prod.fst)).take i).map (QH M)=G5 M from XK Au],rfl⟩
theorem Zz:∀(l:Cl) (ps:List Cl),(M6 l)→(ps.length<Dt)→(∀p∈ps,M6 p)→Et Tryz.prog 166 [.agg ((CE l).map .p),.p (.lst (List.map CE ps))] (.tup [.agg ((CE ((Is l ps).1)).map .p),.p (I ((Is l ps).2))]):=by
 intro l ps h1 h2 h3;have hl:=h1.vars;have hl2:=h2;simp only[Dt] at hl hl2;refine BD Tryz.func166 O nz (n:=63) O O (A4 (BP O (Bf O) fun b2=>BP O (BF Ef O) fun b4=>Az BA 1 [] O (A1 (A1 (Bi [1,2,4] 16 (fun y=>y= .p (.bool ((!(CK l))||(!(ps.all CK))))) ?_ ?_)))))
 ·refine A8 (Ay O (BI (i:=1) DY O O Al) (Ay O (BN O O (Q6 l h1) O) (A5 BA 2 [] O (Ba 12 O (fun g=>?_) (fun g=>?_)))))
  ·(try simp only[sd,se] at g);exact Az BA 4 [] O (⟨O,O,AM,AJ,⟨O,O,O,Aw⟩⟩)
  (try simp only[sd,se] at g);exact BM O (BB O) (BM O (BN O O (Vg ps h2 h3) O) (Az BA 2 [] O (⟨O,O,AM,AJ,⟨O,O,O,Aw⟩⟩)))
 rintro _ rfl;refine A3 O (fun c=>?_) (fun c=>?_)
 ·(try simp only[sd,se] at c);refine A2 BA 3 [0,0] O (BS (Bj (i:=0) O) (A6 (⟨O,_,_,⟨_,_,O,(BJ (i:=0) DY O O O),⟨_,_,O,O,O⟩⟩,(List.nil_sublist _),?_⟩)))
  all_goals exact⟨by show (.tup [.agg [.p (I 0),.p (.lst [])],.p (I 3)]:AV)=_;rw[show Is l ps=(Fq,3) by rw[Is,if_pos (by simpa using c)]];rfl,rfl⟩
 (try simp only[sd,se] at c);have hv:CK l=true∧ps.all CK=true:=by simpa using c
 refine A7 (A1 (A4 (Ay O (BI (i:=1) DY O O Al) (Ay O (BN O O (ah l h1) O) (B6 O (Ay O (BZ En O (List.length_map _)) (Az BA 1 [] O (A3 O (fun c1=>?_) (fun c1=>?_)))))))))
 ·(try simp only[sd,se] at c1);refine A2 BA 3 [0,0] O (BS (Bj (i:=0) O) (A6 (⟨O,_,_,⟨_,_,O,(BJ (i:=0) DY O O O),⟨_,_,O,O,O⟩⟩,(List.nil_sublist _),?_⟩)))
  all_goals exact⟨by show (.tup [.agg [.p (I 0),.p (.lst [])],.p (I 24)]:AV)=_;rw[show Is l ps=(Fq,24) by rw[Is,if_neg (by simp[hv]),if_pos c1]];rfl,rfl⟩
 (try simp only[sd,se] at c1);have hpl:¬(Gj l > ps.length):=by omega
 refine A7 (A4 (ZS O O O (.inl ⟨O,O,O⟩) dU (Dm _) fun bs=>?_));obtain⟨bs,mm⟩:=bs;refine Az BA 1 [] O (A2 BA 6 [3,0,0] O (A1 (A4 (A5 BA 2 [3] O (Ay O (BZ Ck O (List.length_map _)) (Az BA 1 [] O (BH (Bo (α:=Nat) (fun i=>⟨63,mk [(1,.p (.lst (List.map CE ps))),(4,.ptr b4 0),(6,.ptr bs 0),(31,.p (.lst (List.map EF l.vars))),(32,.p (I (l.vars.length:Nat))),(33,.p (I (i:Int)))],[.box bs [.map mm,.p (I (((l.vars.take i).foldl (EO ps) ([],l.const)).2))],.map mm (Ec (Gy ((l.vars.take i).foldl (EO ps) ([],l.const)).1)),.box b4 [.p (I 0),.p (.nils)]],[]⟩) (fun i=>l.vars.length - i) (fun i=>i≤l.vars.length) 0 AQ ?_ ?_))))))))
 ·exact Bk ⟨we O,we O,we O,we O,we O,we O,Aw⟩ (leH (is:=[0,1,2]) O (wl (oe O) (wl (oe O) (wl (oe O) (DN)))))
 rintro i hC
 try simp only at hC
 have hi:=hC;refine A2 BA 1 [] O (A1 (A3 O (fun c2=>?_) (fun c2=>?_)))
 ·(try simp only[sd,se] at c2);refine A7 (A1 (BH (A4 ?_)));obtain⟨x,hx⟩:=BE (l:=l.vars) (i:=i) Au;have hw:=LI hv.1 hx;have hpi:=eG hv.1 hpl hx;refine Ay O (BC Ck O O Au (Cz hx) (O)) (Ay O (BQ Ld O (O)) (BP O (BF FZ O) fun b8=>Az BA 1 [0,1] O (A2 BA 3 [0] O (A3 O (fun c3=>?_) (fun c3=>?_)))))
  ·(try simp only[sd,se] at c3);refine B7 (fun k=>false) D7 (A0 O (fun _=>BB O) Aw (A0 O (fun _=>CW O) Aw (A0 O (fun _=>Ax Tz O O) Aw (BT (j:=1) O O O (fun H i hi=>BG (i:=i) cg O hi O) AB Aw (A0 O (fun _=>Ax Ep O O) Aw (BT (j:=0) O O O (fun H i hi=>BG (i:=i) C0 O hi O) AB Aw (A0 O (fun _=>Ax Ep O O) Aw (BT (j:=0) O O O (fun H i hi=>BG (i:=i) C0 O hi O) AB Aw (CF O O (CS [2] O (.inl ⟨O,O,O⟩) (Vy mm (((l.vars.take i).foldl (EO ps) ([],l.const)).1) x.index x.plus) ⟨_,_,O,O,O⟩ As O (.inl O)) AB Aw (Bv O Ap (A8 (Az BA 2 [] O ?_))))))))))));refine⟨(i+1),AU,by omega,Bk ⟨we rfl,we rfl,we rfl,we rfl,we rfl,we rfl,trivial⟩ (leH (is:=[1,2,3]) rfl (wl (ob (by first | (simp only[step_take hx,T8 c3];done) | (simp only[step_take hx,UI c3 hx1];done))) (wl (om (by first | (simp only[step_take hx,T8 c3];done) | (simp only[step_take hx,UI c3 hx1];done))) (wl (oe rfl) (DN)))))⟩
  (try simp only[sd,se] at c3);refine B7 (fun k=>false) D7 (A0 O (fun _=>BB O) Aw (A0 O (fun _=>BB O) Aw (A0 O (fun _=>Ax Ep O O) Aw (BT (j:=0) O O O (fun H i hi=>BG (i:=i) C0 O hi O) AB Aw ?_))));obtain⟨x1,hx1⟩:=BE (l:=ps) (i:=(x.index:Int).toNat) Au;refine A0 O (fun _=>BC En O O Au (GC hx1) (DT _)) Aw (A0 O (fun _=>BQ DY O (DT _)) Aw (A0 O (fun _=>Ax Ep O O) Aw (BT (j:=0) O O O (fun H i hi=>BG (i:=i) C0 O hi O) AB Aw (CF O O (CS [1,2] O (.inl ⟨O,O,O⟩) (gS bs mm (((l.vars.take i).foldl (EO ps) ([],l.const)).1) (((l.vars.take i).foldl (EO ps) ([],l.const)).2) x1 x.plus (JG.of (List.all_eq_true.1 hv.2 _ (List.mem_of_getElem? hx1))) hw.1.1 hw.1.2) ⟨_,_,O,O,⟨_,_,O,O,O⟩⟩ As O (.inl O)) AB Aw (Bv O Ap (A8 (Az BA 2 [] O ?_)))))));refine⟨(i+1),AU,by omega,Bk ⟨we rfl,we rfl,we rfl,we rfl,we rfl,we rfl,trivial⟩ (leH (is:=[1,2,3]) rfl (wl (ob (by first | (simp only[step_take hx,T8 c3];done) | (simp only[step_take hx,UI c3 hx1];done))) (wl (om (by first | (simp only[step_take hx,T8 c3];done) | (simp only[step_take hx,UI c3 hx1];done))) (wl (oe rfl) (DN)))))⟩
 (try simp only[sd,se] at c2);refine Br (A4 ?_);have hfin:YB ((l.vars.take i).foldl (EO ps) ([],l.const)):=YB.fold (List.all_eq_true.1 hv.2) _ _ (YB.zero _) (fun x hx=>by
  obtain⟨j,hj⟩:=List.mem_iff_getElem?.1 (List.mem_of_mem_take hx);exact⟨LI hv.1 hj,eG hv.1 hpl hj⟩)
 refine B6 O (Ay O (CS [0,1] O (.inl ⟨O,O,O⟩) (Z4 bs mm (((l.vars.take i).foldl (EO ps) ([],l.const)).1) (((l.vars.take i).foldl (EO ps) ([],l.const)).2) hfin) ⟨_,_,O,O,⟨_,_,O,O,O⟩⟩ As O (.inl O)) (Az BA 4 [2,1] O (A6 (⟨O,_,_,⟨_,_,O,(BJ (i:=2) DY O O Al),⟨_,_,O,O,O⟩⟩,(List.nil_sublist _),?_⟩))))
 all_goals exact⟨by show (.tup [.agg ((CE ((Jc ⟨(((l.vars.take i).foldl (EO ps) ([],l.const)).2),G5 (((l.vars.take i).foldl (EO ps) ([],l.const)).1)⟩).1)).map .p),.p (I ((Jc ⟨(((l.vars.take i).foldl (EO ps) ([],l.const)).2),G5 (((l.vars.take i).foldl (EO ps) ([],l.const)).1)⟩).2))]:AV)=_;rw[show Is l ps=Jc ⟨(l.vars.foldl (EO ps) ([],l.const)).2,G5 (l.vars.foldl (EO ps) ([],l.const)).1⟩ by rw[Is,if_neg (by simp[hv]),if_neg hpl]];rw[show l.vars.take i=l.vars from List.take_of_length_le Au],rfl⟩
theorem _root_.Go.Am {α:Prop}(h:α:=by simp[BL]):α:=h
theorem GS:∀(f:Tm) (xs:List Tm),(xs.length<Dt)→Et Tryz.prog 24 [.agg ((Bg f).map .p),.p (.lst (BO xs))] (.agg ((Bg (apply f xs)).map .p)):=by
 intro f xs h1;simp only[Dt] at h1;refine BD Tryz.func24 O qX (n:=20) O O (A4 (BP O (Bf O) fun b2=>BP O (BF B8 O) fun b4=>Bt O (A1 (A2 BA 1 [] O (BH (Bo (α:=Nat) (fun i=>⟨20,mk [(1,.p (.lst (BO xs))),(2,.ptr b2 0),(4,.ptr b4 0),(5,.p (I (i:Int)))],[.box b4 [.p (I 0),.p (I 0),.p (.str ⟨#[]⟩),.p (.nils),.p (.nils)],.box b2 ((Bg (apply f (xs.take i))).map .p)],[]⟩) (fun i=>xs.length - i) (fun i=>i≤xs.length) 0 AQ ?_ ?_))))))
 ·exact Bk ⟨we O,we O,we O,we O,Aw⟩ (leH (is:=[0,1]) O (wl (oe O) (wl (oe O) (DN))))
 rintro i hC
 try simp only at hC
 have hi:=hC;refine A1 (A4 (A5 BA 2 [] O (Ay O (BZ Bq O (Bh _)) (Az BA 1 [] O (A3 O (fun c=>?_) (fun c=>?_))))))
 ·(try simp only[sd,se] at c);refine A7 (A1 (BH (B7 (fun k=>false) D7 (BT (j:=1) O O O (fun H i hi=>BI (i:=i) Bd O hi Am) AB Aw (A0 O (fun _=>BB O) Aw (A0 O (fun _=>BB O) Aw ?_))))));obtain⟨x,hx⟩:=BE (l:=xs) (i:=i) Au;refine A0 O (fun _=>BC Bq O O Au (Bn hx) (BL _)) Aw (A0 O (fun _=>BQ Bd O (BL _)) Aw ?_);generalize hz:(apply f (xs.take i))=z;obtain⟨zk,zi,zn,zl,zs⟩:=z;obtain⟨xk,xi,xn,xl,xs1⟩:=x;refine A0 O (fun _=>B0 Bq B8 O O O O O) Aw (A0 O (fun _=>CB DV B8 O) Aw (CF O O (CO (i:=1) Bd O O O O O O) AB Aw (Bv O Ap (A8 (Az BA 3 [] O ?_)))));refine⟨(i+1),AU,by omega,Bk ⟨we rfl,we rfl,we rfl,we rfl,trivial⟩ (leH (is:=[0,1]) rfl (wl (oe rfl) (wl (on (by rw[Rq hx,hz];rfl)) (DN))))⟩
 (try simp only[sd,se] at c);refine Br (A2 BA 2 [1,0,1] O (A6 (⟨O,_,_,⟨_,_,O,(BJ (i:=0) Bd O O Am),O⟩,(List.nil_sublist _),?_⟩)))
 all_goals exact⟨by show (.agg ((Bg (apply f (xs.take i))).map .p):AV)=_;rw[show i=xs.length by omega,List.take_length],rfl⟩
theorem _root_.Go.Aa {α:Prop}(h:α:=by first | rfl | simp[BL]):α:=h
theorem _root_.Go.Ad {α:Prop}(h:α:=by simp only[Dt];omega):α:=h
theorem a8:∀(n:Nat) (t:Tm),(size t≤n)→(n<Dt)→B4 Tryz.prog 21 [.agg ((Bg t).map .p)] [] (Zd (fun v=> .tup [.agg ((Bg ((BK t).1)).map .p),v]) 5 (BO ((BK t).2))):=by
 intro n
 induction n with
 | zero=>intro t h;cases t;simp[size] at h
 | succ n ih =>
  intro t h1 h2;simp only[Dt] at h2;refine BD Tryz.func21 O pv (n:=32) O O (A4 (BP O (Bf O) fun b1=>BP O (BF B8 O) fun b2=>Az BA 1 [] O (A1 (A1 ?_))));obtain⟨tk,ti,tn,tl,ts⟩:=t;simp only[size] at h1;refine Bi [1,2] 14 (fun y=>y= .p (.bool (((tk:Int) !=(4:Int))||(((ts.length:Nat):Int) !=(2:Int))))) ?_ ?_
  ·refine A8 (A5 BA 4 [1] O (Ba 9 O (fun g=>?_) (fun g=>?_)))
   ·(try simp only[sd,se] at g);exact Az BA 5 [] O (⟨O,O,AM,AJ,⟨O,O,Aw⟩⟩)
   (try simp only[sd,se] at g);exact A5 BA 2 [1] O (BM O (BZ Bq O (Bh _)) (Az BA 2 [] O (⟨O,O,AM,AJ,⟨O,O,Aw⟩⟩)))
  rintro _ rfl;refine A3 O (fun c=>?_) (fun c=>?_)
  ·(try simp only[sd,se] at c);refine A2 BA 3 [1,0,0] O (BS (EY (t:=3) (sz:=5) O) (A6 (⟨O,_,_,⟨_,_,O,(BJ (i:=1) Bd O O O),⟨_,_,O,O,O⟩⟩,(CJ (is:=[0]) O),?_⟩)));rw[SL c]
   all_goals exact⟨_,_,rfl,rfl⟩
  (try simp only[sd,se] at c);refine A7 (A4 (A5 BA 2 [1] O ?_));obtain⟨x,hx⟩:=BE (l:=ts) (i:=0) Au;refine Ay O (BC Bq O O Au (Bn hx) (BL _)) (Ay O (BQ Bd O (BL _)) (NI O O O (.inl ⟨O,O,O⟩) (ih x (by have:=Cs hx;omega) Ad) (.inl O) fun o cp=>A5 BA 3 [] O (BP O (BF B8 O) fun b4=>Az BA 2 [0,1] O (A1 (B7 (fun k=>Nat.beq k 7) D7 (BT (j:=0) O O O (fun H i hi=>BI (i:=i) Bd O hi Am) AB Aw (A0 O (fun _=>BB O) Aw (A0 O (fun _=>Ax DV O O) Aw (BT (j:=3) O O O (fun H i hi=>BG (i:=i) E9 O hi O) AB Aw ?_)))))))));obtain⟨x1,hx1⟩:=BE (l:=ts) (i:=1) Au;refine A0 O (fun _=>BC Bq O O Au (Bn hx1) (BL _)) Aw (A0 O (fun _=>BQ Bd O (BL _)) Aw ?_);obtain⟨x1k,x1i,x1n,x1l,x1s⟩:=x1;refine A0 O (fun _=>B0 Bq B8 O O O O O) Aw (LS [] O O (Cb (i:=1) (rows':=BO [(.mk x1k x1i x1n x1l x1s:Tm)]) Bq Bq B8 O O O O O O (B9 _) (by have:=PG x;have:=Cs hx;simp[Bh];omega) (Jj ((BK x).2) [(.mk x1k x1i x1n x1l x1s:Tm)])) Ap fun o1 cp1=>⟨AB,Aw,?_⟩);refine CF O O (Bc (i:=2) Bd O O O Am Aa (C5 _)) AB Aw (A0 O (fun _=>Bb O) Aw (Bv O Ap (A6 (⟨O,_,_,⟨_,_,O,(BJ (i:=2) Bd O O Am),⟨_,_,O,O,O⟩⟩,(CJ (is:=[1]) O),?_⟩))));rw[TS c hx hx1]
  all_goals exact⟨_,_,rfl,rfl⟩
theorem WN:∀(n:Nat) (t:Tm),size t≤n→n<Dt→Et Tryz.prog 21 [TV t] (.tup [TV (BK t).1,od (BK t).2]) :=
 fun n t h1 h2=>W6 (pre:=[_]) (post:=[]) (a8 n t h1 h2) (fun x _=>WJ x)
theorem Mn:∀(n:Nat) (t:Tm),(size t≤n)→(Nd t)→Et Tryz.prog 77 [.agg ((Bg t).map .p)] (.p (I (FC t))):=by
 intro n
 induction n with
 | zero=>intro t h;cases t;simp[size] at h
 | succ n ih =>
  intro t h1 h2;obtain⟨tk,ti,tn,tl,ts⟩:=t;simp only[size] at h1;simp only[Nd,Dt] at h2;refine BD Tryz.func77 O qd (n:=21) O O (A4 (BP O (Bf O) fun b1=>Az BA 1 [] O (A2 BA 1 [] O (A1 (A2 BA 1 [] O (BH (Bo (α:=Nat×Int) (fun(i,m)=>⟨21,mk [(1,.ptr b1 0),(3,.p (I m)),(4,.p (I (i:Int)))],[.box b1 [.p (I tk),.p (I ti),.p (.str tn),.p (.lst (List.map CE tl)),.p (.lst (BO ts))]],[]⟩) (fun(i,m)=>ts.length - i) (fun(i,m)=>i≤ts.length∧(LM m (ts.drop i)=LM 1 ts)) ⟨0,1⟩ Av ?_ ?_)))))))
  ·exact Bk ⟨we O,we O,we O,Aw⟩ (leH (is:=[0]) O (wl (oe O) (DN)))
  rintro⟨i,m⟩ hC
  try simp only at hC
  obtain⟨hi,hC⟩:=hC;refine A1 (A4 (A5 BA 3 [0] O (Ay O (BZ Bq O (Bh _)) (Az BA 1 [] O (A3 O (fun c=>?_) (fun c=>?_))))))
  ·(try simp only[sd,se] at c);refine A7 (A1 (BH (A8 (A5 BA 4 [0] O ?_))));obtain⟨x,hx⟩:=BE (l:=ts) (i:=i) Au;refine Ay O (BC Bq O O Au (Bn hx) (BL _)) (Ay O (BQ Bd O (BL _)) (Ay O (BN O O (ih x (by have:=Cs hx;omega) (Di h2.2.2.2.2.1 hx)) O) (Ay O (EU O O) (Az BA 1 [] O (A8 (Az BA 3 [] O ?_))))));refine⟨⟨i+1,wr (m+FC x)⟩,AU,⟨by omega,by rw[←hC,Cy hx];rfl⟩,Bk ⟨we rfl,we rfl,we rfl,trivial⟩ (leH (is:=[0]) rfl (wl (oe rfl) (DN)))⟩
  (try simp only[sd,se] at c);refine Br (A2 BA 2 [] O (A6 (⟨O,_,_,⟨_,_,O,O,O⟩,(List.nil_sublist _),?_⟩)))
  all_goals exact⟨pI (by rw[show FC (.mk tk ti tn tl ts)=LM 1 ts from rfl,←hC,show i=ts.length by omega,List.drop_length];rfl),rfl⟩
theorem Nz:∀(n:Nat) (t:Tm),(size t≤n)→(Nd t)→Et Tryz.prog 93 [.agg ((Bg t).map .p)] (.p (I (FE t))):=by
 intro n
 induction n with
 | zero=>intro t h;cases t;simp[size] at h
 | succ n ih =>
  intro t h1 h2;obtain⟨tk,ti,tn,tl,ts⟩:=t;simp only[size] at h1;simp only[Nd,Dt] at h2;refine BD Tryz.func93 O qE (n:=22) O O (A4 (BP O (Bf O) fun b1=>Az BA 1 [] O (A2 BA 1 [] O (A1 (A2 BA 1 [] O (BH (Bo (α:=Nat×Int) (fun(i,m)=>⟨22,mk [(1,.ptr b1 0),(3,.p (I m)),(4,.p (I (i:Int)))],[.box b1 [.p (I tk),.p (I ti),.p (.str tn),.p (.lst (List.map CE tl)),.p (.lst (BO ts))]],[]⟩) (fun(i,m)=>ts.length - i) (fun(i,m)=>i≤ts.length∧(Jk m (ts.drop i)=Jk 0 ts)) ⟨0,0⟩ Av ?_ ?_)))))))
  ·exact Bk ⟨we O,we O,we O,Aw⟩ (leH (is:=[0]) O (wl (oe O) (DN)))
  rintro⟨i,m⟩ hC
  try simp only at hC
  obtain⟨hi,hC⟩:=hC;refine A1 (A4 (A5 BA 3 [0] O (Ay O (BZ Bq O (Bh _)) (Az BA 1 [] O (A3 O (fun c=>?_) (fun c=>?_))))))
  ·(try simp only[sd,se] at c);refine A7 (A1 (BH (A8 (A5 BA 4 [0] O ?_))));obtain⟨x,hx⟩:=BE (l:=ts) (i:=i) Au;refine Ay O (BC Bq O O Au (Bn hx) (BL _)) (Ay O (BQ Bd O (BL _)) (Ay O (BN O O (ih x (by have:=Cs hx;omega) (Di h2.2.2.2.2.1 hx)) O) (Ay O (Ff O O) (Az BA 1 [] O (A8 (Az BA 3 [] O ?_))))));refine⟨⟨i+1,max m (FE x)⟩,AU,⟨by omega,by rw[←hC,Cy hx];rfl⟩,Bk ⟨we rfl,we rfl,we rfl,trivial⟩ (leH (is:=[0]) rfl (wl (oe rfl) (DN)))⟩
  (try simp only[sd,se] at c);refine Br (A4 (B6 O (Ay O (EU O O) (Az BA 1 [] O (A6 (⟨O,_,_,⟨_,_,O,O,O⟩,(List.nil_sublist _),?_⟩))))))
  all_goals exact⟨pI (by rw[show FE (.mk tk ti tn tl ts)=wr (Jk 0 ts+1) from rfl,←hC,show i=ts.length by omega,List.drop_length];rfl),rfl⟩
theorem YF:∀(b:Nat) (er nd e:Int),B4 Tryz.prog 141 [.ptr b 0,.p (I e)] [.box b [.p (I er),.p (I nd)]] (Gx (.tup []) [.box b [.p (I (Gs er e)),.p (I nd)]]):=by
 intro b er nd e;refine BD Tryz.func141 O l7 (n:=13) O O (A2 BA 5 [0] O (A3 O (fun c=>?_) (fun c=>?_)))
 ·(try simp only[sd,se] at c);refine A8 (Az BA 5 [0,0] O ⟨O,_,_,O,(CJ (is:=[0]) O),?_⟩);refine⟨O,?_⟩;show ([.box b [.p (I e),.p (I nd)]]:List BU)=_;simp[Gs,c]
 (try simp only[sd,se] at c);refine A7 ⟨O,_,_,O,(CJ (is:=[0]) O),?_⟩;refine⟨O,?_⟩;show ([.box b [.p (I er),.p (I nd)]]:List BU)=_;simp[Gs,c]
theorem Q3:∀(b:Nat) (er nd i:Int),B4 Tryz.prog 126 [.ptr b 0,.p (I i)] [.box b [.p (I er),.p (I nd)]] (Gx (.agg ((Bg (PB i)).map .p)) [.box b [.p (I (NO er i)),.p (I nd)]]):=by
 intro b er nd i;refine BD Tryz.func126 O pC (n:=11) O O (A4 (BP O (BF B8 O) fun b4=>Bt O (A1 (A2 BA 2 [] O (A3 O (fun c=>?_) (fun c=>?_))))))
 ·(try simp only[sd,se] at c);refine A8 (B6 O (Ay O (CS [1] O (.inl ⟨O,O,O⟩) (YF b er nd 24) ⟨_,_,O,O,O⟩ As O (.inl O)) (Bt O (A2 BA 3 [0,0] O (BS (Bj (i:=0) O) (A6 (⟨O,_,_,⟨_,_,O,(BJ (i:=0) Bd O O O),O⟩,(CJ (is:=[1]) O),?_⟩)))))));refine⟨O,?_⟩;show ([.box b [.p (I (Gs er 24)),.p (I nd)]]:List BU)=_;simp[NO,show i > 65535 by omega]
 (try simp only[sd,se] at c);refine A7 (A2 BA 3 [0,0] O (BS (Bj (i:=0) O) (A6 (⟨O,_,_,⟨_,_,O,(BJ (i:=0) Bd O O O),O⟩,(CJ (is:=[1]) O),?_⟩))));refine⟨O,?_⟩;show ([.box b [.p (I er),.p (I nd)]]:List BU)=_;simp[NO,show ¬i > 65535 by omega]
theorem _root_.Go.AE {α:Prop}(h:α:=by simp only[Bh,List.length_map,List.length_cons,List.length_nil,List.nil_append,List.length_append];omega):α:=h
theorem Yc:∀(n:Nat) (t:Tm) (b:Nat) (by' fr d er nd:Int),(size t≤n)→(Nd t)→(0≤d)→(d+n<2 ^ 62)→B4 Tryz.prog 125 [.ptr b 0,.agg ((Bg t).map .p),.p (I by'),.p (I fr),.p (I d)] [.box b [.p (I er),.p (I nd)]] (Gx (.agg ((Bg ((Cu by' fr d er t).1)).map .p)) [.box b [.p (I ((Cu by' fr d er t).2)),.p (I nd)]]):=by
 intro n
 induction n with
 | zero=>intro t b by' fr d er nd h;cases t;simp[size] at h
 | succ n ih =>
  intro t b by' fr d er nd h1 h2 h3 h4
  obtain⟨tk,ti,tn,tl,ts⟩:=t;simp only[size] at h1;simp only[Nd,Dt] at h2;refine BD Tryz.func125 O nc (n:=68) O O (A4 (BP O (Bf O) fun b6=>BP O (BF B8 O) fun b10=>Bt O (A1 (A2 BA 3 [1] O (A3 O (fun c=>?_) (fun c=>?_))))))
  ·(try simp only[sd,se] at c);refine A1 (A4 (A5 BA 4 [1] O (Ay O (EU O O) (Az BA 1 [] O (A3 O (fun c1=>?_) (fun c1=>?_))))))
   ·(try simp only[sd,se] at c1);refine A2 BA 2 [1,0,0] O (A6 (⟨O,_,_,⟨_,_,O,(BJ (i:=0) Bd O O O),O⟩,(CJ (is:=[2]) O),?_⟩));refine⟨by show (.agg [.p (I tk),.p (I ti),.p (.str tn),.p (.lst (List.map CE tl)),.p (.lst (BO ts))]:AV)=_;rw[Cu,if_pos c,if_pos c1];rfl,?_⟩;show ([.box b [.p (I er),.p (I nd)]]:List BU)=_;rw[Cu,if_pos c,if_pos c1]
   (try simp only[sd,se] at c1);refine A7 (A1 (A4 (A5 BA 3 [1] O (Ay O (EU O O) (A5 BA 2 [] O (Ay O (EU O O) (Az BA 1 [] O (A3 O (fun c2=>?_) (fun c2=>?_)))))))))
   ·(try simp only[sd,se] at c2);refine A4 (B6 O (Ay O (CS [2] O (.inl ⟨O,O,O⟩) (YF b er nd 24) ⟨_,_,O,O,O⟩ As O (.inl O)) (Bt O (A2 BA 2 [1,0,0] O (A6 (⟨O,_,_,⟨_,_,O,(BJ (i:=0) Bd O O O),O⟩,(CJ (is:=[2]) O),?_⟩))))));refine⟨by show (.agg [.p (I tk),.p (I ti),.p (.str tn),.p (.lst (List.map CE tl)),.p (.lst (BO ts))]:AV)=_;rw[Cu,if_pos c,if_neg Au,if_pos c2];rfl,?_⟩;show ([.box b [.p (I (Gs er 24)),.p (I nd)]]:List BU)=_;rw[Cu,if_pos c,if_neg Au,if_pos c2]
   (try simp only[sd,se] at c2);refine A7 (A4 (A5 BA 4 [1] O (Ay O (EU O O) (Ay O (CS [2] O (.inl ⟨O,O,O⟩) (Q3 b er nd (wr ((ti:Int)+(by':Int)))) ⟨_,_,rfl,rfl,rfl⟩ As rfl (.inl rfl)) (Az BA 1 [0,1] O (A6 (⟨O,_,_,⟨_,_,O,(BJ (i:=0) Bd O O Am),O⟩,(CJ (is:=[2]) O),?_⟩)))))));refine⟨by show (.agg ((Bg (PB (wr ((ti:Int)+(by':Int))))).map .p):AV)=_;rw[Cu,if_pos c,if_neg Au,if_neg Au],?_⟩;show ([.box b [.p (I (NO er (wr ((ti:Int)+(by':Int))))),.p (I nd)]]:List BU)=_;rw[Cu,if_pos c,if_neg Au,if_neg Au]
  (try simp only[sd,se] at c);refine A7 (A2 BA 1 [] O (A1 (A2 BA 1 [] O (BH (BS (EY (t:=11) (sz:=5) O) (Bo (α:=Nat×List Tm×Int×Option Nat×Nat) (fun(i,ys,e,o,cp)=>⟨68,mk [(0,.ptr b 0),(2,.p (I by')),(3,.p (I fr)),(4,.p (I d)),(6,.ptr b6 0),(10,.ptr b10 0),(11,.vs o (BO ys).length cp),(12,.p (I (i:Int)))],[.vec o 5 (BO ys) cp,.box b10 [.p (I 0),.p (I 0),.p (.str ⟨#[]⟩),.p (.nils),.p (.nils)],.box b6 [.p (I tk),.p (I ti),.p (.str tn),.p (.lst (List.map CE tl)),.p (.lst (BO ts))],.box b [.p (I e),.p (I nd)]],[]⟩) (fun(i,ys,e,o,cp)=>ts.length - i) (fun(i,ys,e,o,cp)=>i≤ts.length∧(ys.length=i∧(ys++(DU by' fr tk d i e (ts.drop i)).1,(DU by' fr tk d i e (ts.drop i)).2)=DU by' fr tk d 0 er ts)) ⟨0,[],er,none,0⟩ Av ?_ ?_))))))
  ·exact Bk ⟨we O,we O,we O,we O,we O,we O,we O,we O,Aw⟩ (leH (is:=[0,1,2,3]) O (wl (oe O) (wl (oe O) (wl (oe O) (wl (oe O) (DN))))))
  rintro⟨i,ys,e,o,cp⟩ hC
  try simp only at hC
  obtain⟨hi,hl,hC⟩:=hC;refine A1 (A4 (A5 BA 3 [2] O (Ay O (BZ Bq O (Bh _)) (Az BA 1 [] O (A3 O (fun c1=>?_) (fun c1=>?_))))))
  ·(try simp only[sd,se] at c1);refine A7 (A1 (BH (B7 (fun k=>Nat.beq k 17) D7 (A0 O (fun _=>BB O) Aw (A0 O (fun _=>BB O) Aw (A0 O (fun _=>Ax DV O O) Aw (BT (j:=2) O O O (fun H i hi=>BG (i:=i) E9 O hi O) AB Aw (A0 O (fun _=>BB O) Aw ?_))))))));obtain⟨x,hx⟩:=BE (l:=ts) (i:=i) Au;refine A0 O (fun _=>BC Bq O O Au (Bn hx) (BL _)) Aw (A0 O (fun _=>BQ Bd O (BL _)) Aw (A0 O (fun _=>BB O) Aw (A0 O (fun _=>BB O) Aw (A0 O (fun _=>BB O) Aw (A0 O (fun _=>Ax DV O O) Aw (BT (j:=2) O O O (fun H i hi=>BG (i:=i) C0 O hi O) AB Aw (A0 O (fun _=>BB O) Aw (A0 O (fun _=>BN O O (Uj tk (i:Int)) O) Aw (A0 O (fun _=>ET O O (by have:=DK tk i;omega) (by have:=DK tk i;omega)) Aw (CF O O (CS [3] O (.inl ⟨O,O,O⟩) (ih x b by' fr ((d:Int)+(below tk (i:Int):Int)) e nd (by have:=Cs hx;omega) (Di h2.2.2.2.2.1 hx) (by have:=DK tk i;omega) (by have:=DK tk i;omega)) ⟨_,_,rfl,rfl,rfl⟩ As rfl (.inl rfl)) AB trivial ?_))))))))));generalize hz:(Cu by' fr ((d:Int)+(below tk (i:Int):Int)) e x).1=z;obtain⟨zk,zi,zn,zl,zs⟩:=z;refine A0 O (fun _=>B0 Bq B8 O O O O O) Aw (LS [] O O (Cb (i:=0) (rows':=BO [(.mk zk zi zn zl zs:Tm)]) Bq Bq B8 O O O O O O (B9 _) AE (Jj ys [(.mk zk zi zn zl zs:Tm)])) Ap fun o1 cp1=>⟨AB,Aw,?_⟩);refine A0 O (fun _=>Bb O) Aw (Bv O Ap (A8 (Az BA 3 [] O ?_)));refine⟨⟨i+1,ys++[(Cu by' fr (d+below tk i) e x).1],(Cu by' fr (d+below tk i) e x).2,o1,cp1⟩,AU,⟨by omega,⟨by simp[hl],by rw[←hC,Cy hx];simp[DU]⟩⟩,Bk ⟨we rfl,we rfl,we rfl,we rfl,we rfl,we rfl,we (L1 (ys++[(.mk zk zi zn zl zs:Tm)]) (by rw[hz])),we rfl,trivial⟩ (leH (is:=[0,1,2,3]) rfl (wl (KA (ys++[(.mk zk zi zn zl zs:Tm)]) (by rw[hz])) (wl (oe rfl) (wl (oe rfl) (wl (oe rfl) (DN))))))⟩
  (try simp only[sd,se] at c1);refine Br (A4 (A5 BA 2 [] O (CH (Cx (i:=0) [11,65] O (EH ⟨O,O,Aw⟩)) (Az BA 1 [1,0] O (A2 BA 2 [1,0,0] O (A6 (⟨O,_,_,⟨_,_,O,(BJ (i:=0) Bd O O O),O⟩,(CJ (is:=[2]) O),?_⟩)))))));refine⟨by show (.agg [.p (I tk),.p (I ti),.p (.str tn),.p (.lst (List.map CE tl)),.p (.lst (BO ys))]:AV)=_;rw[Cu,if_neg c];rw[show i=ts.length by omega,List.drop_length] at hC;rw[←hC];simp[DU];rfl,?_⟩;show ([.box b [.p (I e),.p (I nd)]]:List BU)=_;rw[Cu,if_neg c];rw[show i=ts.length by omega,List.drop_length] at hC;rw[←hC];simp[DU]
theorem gx:∀(n:Nat) (t:Tm) (vs:List Tm) (b:Nat) (d er nd:Int),(size t≤n)→(Nd t)→(Lo vs)→(Bl vs+d+n<2 ^ 62)→(0≤d)→B4 Tryz.prog 94 [.ptr b 0,.agg ((Bg t).map .p),.p (.lst (BO vs)),.p (I d)] [.box b [.p (I er),.p (I nd)]] (Gx (.agg ((Bg ((CQ vs d er nd t).1)).map .p)) [.box b [.p (I ((CQ vs d er nd t).2.1)),.p (I ((CQ vs d er nd t).2.2))]]):=by
 intro n
 induction n with
 | zero=>intro t vs b d er nd h;cases t;simp[size] at h
 | succ n ih =>
  intro t vs b d er nd h1 h2 h3 h4 h5;obtain⟨tk,ti,tn,tl,ts⟩:=t;simp only[size] at h1;simp only[Nd,I3,Dt] at h2;have hvl:=JC vs;refine BD Tryz.func94 O rh (n:=105) O O (A4 (BP O (Bf O) fun b5=>BP O (BF B8 O) fun b8=>Bt O (A1 (A2 BA 5 [2] O (A3 O (fun c=>?_) (fun c=>?_))))))
  ·(try simp only[sd,se] at c);refine A2 BA 2 [1,0,0] O (A6 (⟨O,_,_,⟨_,_,O,(BJ (i:=0) Bd O O O),O⟩,(CJ (is:=[2]) O),?_⟩));refine⟨by show (.agg [.p (I tk),.p (I ti),.p (.str tn),.p (.lst (List.map CE tl)),.p (.lst (BO ts))]:AV)=_;rw[CQ,if_pos Au];rfl,?_⟩;show ([.box b [.p (I er),.p (I nd)]]:List BU)=_;rw[CQ,if_pos Au]
  (try simp only[sd,se] at c);refine A7 (A1 (A1 (Bi [0,2,3,5,8] 35 (fun y=>y= .p (.bool ((((tk:Int)==(0:Int))&&(decide ((ti:Int)≥(d:Int))))&&(decide (((ti:Int) - (d:Int):Int)<((vs.length:Nat):Int)))))) ?_ ?_)))
  ·refine A8 (A5 BA 4 [1] O (Ba 21 O (fun g=>?_) (fun g=>?_)))
   ·(try simp only[sd,se] at g);refine A5 BA 6 [1] O (Ba 27 O (fun g1=>?_) (fun g1=>?_))
    ·(try simp only[sd,se] at g1);exact A5 BA 5 [1] O (BM O (BZ Bq O (Bh _)) (Az BA 2 [] O (⟨O,O,AM,AJ,⟨O,O,O,O,O,Aw⟩⟩)))
    (try simp only[sd,se] at g1);exact Az BA 8 [] O (⟨O,O,AM,AJ,⟨O,O,O,O,O,Aw⟩⟩)
   (try simp only[sd,se] at g);exact Az BA 14 [] O (⟨O,O,AM,AJ,⟨O,O,O,O,O,Aw⟩⟩)
  rintro _ rfl;refine A3 O (fun c1=>?_) (fun c1=>?_)
  ·(try simp only[sd,se] at c1);refine A4 (A5 BA 5 [1] O ?_);obtain⟨x,hx⟩:=BE (l:=vs) (i:=((ti:Int) - (d:Int):Int).toNat) Au;refine Ay O (BC Bq O O Au (Bn hx) (BL _)) (Ay O (BQ Bd O (BL _)) (BP O (BF B8 O) fun b9=>Az BA 1 [0,1] O (A1 (B7 (fun k=>false) D7 (A0 O (fun _=>BB O) Aw (A0 O (fun _=>CW O) Aw (A0 O (fun _=>Ax P2 O O) Aw (BT (j:=3) O O O (fun H i hi=>BG (i:=i) C0 O hi O) AB Aw (BT (j:=0) O O O (fun H i hi=>BI (i:=i) Bd O hi Am) AB Aw (A0 O (fun _=>BN O O (Mn _ x (Nat.le_refl _) (Di h3 hx)) O) Aw (A0 O (fun _=>EU O O) Aw (A0 O (fun _=>CW O) Aw (A0 O (fun _=>Ax P2 O O) Aw (CF O O (CO (i:=3) C0 O O O O O O) AB Aw (Bv O Ap (A4 (A5 BA 3 [0] O ?_)))))))))))))))));refine Ay O (CS [3] O (.inl ⟨O,O,O⟩) (Yc _ x b d 0 0 er (wr ((nd:Int)+(FC x:Int))) (Nat.le_refl _) (Di h3 hx) Au (by have:=Cs hx;omega)) ⟨_,_,O,O,O⟩ As O (.inl O)) (Az BA 1 [1,1] O (A6 (⟨O,_,_,⟨_,_,O,(BJ (i:=1) Bd O O Am),O⟩,(CJ (is:=[3]) O),?_⟩)));refine⟨by show (.agg ((Bg ((Cu d 0 0 er x).1)).map .p):AV)=_;rw[CQ,if_neg Au,if_pos Au,OG hx],?_⟩;show ([.box b [.p (I ((Cu d 0 0 er x).2)),.p (I (wr ((nd:Int)+(FC x:Int))))]]:List BU)=_;rw[CQ,if_neg Au,if_pos Au,OG hx]
  (try simp only[sd,se] at c1);refine A7 (A4 (A5 BA 4 [2] O (Ay O (EU O O) (Az BA 3 [2,0] O (A1 (A2 BA 3 [1] O (A3 O (fun c2=>?_) (fun c2=>?_))))))))
  ·(try simp only[sd,se] at c2);refine A1 (A2 BA 4 [1] O (A3 O (fun c3=>?_) (fun c3=>?_)))
   ·(try simp only[sd,se] at c3);refine A4 (A5 BA 4 [1] O (Ay O (BZ Bq O (Bh _)) (Ay O (Ja O O) (Ay O (CS [2] O (.inl ⟨O,O,O⟩) (Q3 b er (wr ((nd:Int)+(1:Int))) (wr ((ti:Int) - ((vs.length:Nat):Int)))) ⟨_,_,O,O,O⟩ As O (.inl O)) (Az BA 1 [0,1] O (A6 (⟨O,_,_,⟨_,_,O,(BJ (i:=0) Bd O O Am),O⟩,(CJ (is:=[2]) O),?_⟩)))))));refine⟨by show (.agg ((Bg (PB (wr ((ti:Int) - ((vs.length:Nat):Int))))).map .p):AV)=_;rw[CQ,if_neg Au,if_neg Au,if_pos Au,if_pos Au],?_⟩;show ([.box b [.p (I (NO er (wr ((ti:Int) - ((vs.length:Nat):Int))))),.p (I (wr ((nd:Int)+(1:Int))))]]:List BU)=_;rw[CQ,if_neg Au,if_neg Au,if_pos Au,if_pos Au]
   (try simp only[sd,se] at c3);refine A7 (A2 BA 2 [1,0,0] O (A6 (⟨O,_,_,⟨_,_,O,(BJ (i:=0) Bd O O O),O⟩,(CJ (is:=[2]) O),?_⟩)));refine⟨by show (.agg [.p (I tk),.p (I ti),.p (.str tn),.p (.lst (List.map CE tl)),.p (.lst (BO ts))]:AV)=_;rw[CQ,if_neg Au,if_neg Au,if_pos Au,if_neg Au];rfl,?_⟩;show ([.box b [.p (I er),.p (I (wr ((nd:Int)+(1:Int))))]]:List BU)=_;rw[CQ,if_neg Au,if_neg Au,if_pos Au,if_neg Au]
  (try simp only[sd,se] at c2);refine A7 (A2 BA 1 [] O (A1 (A2 BA 1 [] O (BH (BS (EY (t:=10) (sz:=5) O) (Bo (α:=Nat×List Tm×Int×Int×Option Nat×Nat) (fun(i,ys,e,m,o,cp)=>⟨105,mk [(0,.ptr b 0),(2,.p (.lst (BO vs))),(3,.p (I d)),(5,.ptr b5 0),(8,.ptr b8 0),(10,.vs o (BO ys).length cp),(11,.p (I (i:Int)))],[.vec o 5 (BO ys) cp,.box b8 [.p (I 0),.p (I 0),.p (.str ⟨#[]⟩),.p (.nils),.p (.nils)],.box b5 [.p (I tk),.p (I ti),.p (.str tn),.p (.lst (List.map CE tl)),.p (.lst (BO ts))],.box b [.p (I e),.p (I m)]],[]⟩) (fun(i,ys,e,m,o,cp)=>ts.length - i) (fun(i,ys,e,m,o,cp)=>i≤ts.length∧(ys.length=i∧(ys++(Cq vs tk d i e m (ts.drop i)).1,(Cq vs tk d i e m (ts.drop i)).2)=Cq vs tk d 0 er (wr (nd+1)) ts)) ⟨0,[],er,wr (nd+1),none,0⟩ Av ?_ ?_))))))
  ·exact Bk ⟨we O,we O,we O,we O,we O,we O,we O,Aw⟩ (leH (is:=[0,1,2,3]) O (wl (oe O) (wl (oe O) (wl (oe O) (wl (oe O) (DN))))))
  rintro⟨i,ys,e,m,o,cp⟩ hC
  try simp only at hC
  obtain⟨hi,hl,hC⟩:=hC;refine A1 (A4 (A5 BA 3 [2] O (Ay O (BZ Bq O (Bh _)) (Az BA 1 [] O (A3 O (fun c3=>?_) (fun c3=>?_))))))
  ·(try simp only[sd,se] at c3);refine A7 (A1 (BH (B7 (fun k=>Nat.beq k 16) D7 (A0 O (fun _=>BB O) Aw (A0 O (fun _=>BB O) Aw (A0 O (fun _=>Ax DV O O) Aw (BT (j:=2) O O O (fun H i hi=>BG (i:=i) E9 O hi O) AB Aw (A0 O (fun _=>BB O) Aw ?_))))))));obtain⟨x,hx⟩:=BE (l:=ts) (i:=i) Au;refine A0 O (fun _=>BC Bq O O Au (Bn hx) (BL _)) Aw (A0 O (fun _=>BQ Bd O (BL _)) Aw (A0 O (fun _=>BB O) Aw (A0 O (fun _=>BB O) Aw (A0 O (fun _=>Ax DV O O) Aw (BT (j:=2) O O O (fun H i hi=>BG (i:=i) C0 O hi O) AB Aw (A0 O (fun _=>BB O) Aw (A0 O (fun _=>BN O O (Uj tk (i:Int)) O) Aw (A0 O (fun _=>ET O O (by have:=DK tk i;omega) (by have:=DK tk i;omega)) Aw (CF O O (CS [3] O (.inl ⟨O,O,O⟩) (ih x vs b ((d:Int)+(below tk (i:Int):Int)) e m (by have:=Cs hx;omega) (Di h2.2.2.2.2.1 hx) h3 (by have:=DK tk i;omega) (by have:=DK tk i;omega)) ⟨_,_,O,O,O⟩ As O (.inl O)) AB Aw ?_)))))))));generalize hz:(CQ vs ((d:Int)+(below tk (i:Int):Int)) e m x).1=z;obtain⟨zk,zi,zn,zl,zs⟩:=z;refine A0 O (fun _=>B0 Bq B8 O O O O O) Aw (LS [] O O (Cb (i:=0) (rows':=BO [(.mk zk zi zn zl zs:Tm)]) Bq Bq B8 O O O O O O (B9 _) AE (Jj ys [(.mk zk zi zn zl zs:Tm)])) Ap fun o1 cp1=>⟨AB,Aw,?_⟩);refine A0 O (fun _=>Bb O) Aw (Bv O Ap (A8 (Az BA 3 [] O ?_)));refine⟨⟨i+1,ys++[(CQ vs (d+below tk i) e m x).1],(CQ vs (d+below tk i) e m x).2.1,(CQ vs (d+below tk i) e m x).2.2,o1,cp1⟩,AU,⟨by omega,⟨by simp[hl],by rw[←hC,Cy hx];simp[Cq]⟩⟩,Bk ⟨we rfl,we rfl,we rfl,we rfl,we rfl,we (L1 (ys++[(.mk zk zi zn zl zs:Tm)]) (by rw[hz])),we rfl,trivial⟩ (leH (is:=[0,1,2,3]) rfl (wl (KA (ys++[(.mk zk zi zn zl zs:Tm)]) (by rw[hz])) (wl (oe rfl) (wl (oe rfl) (wl (oe rfl) (DN))))))⟩
  (try simp only[sd,se] at c3);refine Br (A4 (A5 BA 2 [] O (CH (Cx (i:=0) [10,102] O (EH ⟨O,O,Aw⟩)) (Az BA 1 [1,0] O (A2 BA 2 [1,0,0] O (A6 (⟨O,_,_,⟨_,_,O,(BJ (i:=0) Bd O O O),O⟩,(CJ (is:=[2]) O),?_⟩)))))));refine⟨by show (.agg [.p (I tk),.p (I ti),.p (.str tn),.p (.lst (List.map CE tl)),.p (.lst (BO ys))]:AV)=_;rw[CQ,if_neg Au,if_neg Au,if_neg Au];rw[show i=ts.length by omega,List.drop_length] at hC;rw[←hC];simp[Cq];rfl,?_⟩;show ([.box b [.p (I e),.p (I m)]]:List BU)=_;rw[CQ,if_neg Au,if_neg Au,if_neg Au];rw[show i=ts.length by omega,List.drop_length] at hC;rw[←hC];simp[Cq]
theorem bq:∀(t:Tm) (vs:List Tm) (d:Int),(size t<2 ^ 60)→(Nd t)→(Lo vs)→(Bl vs<2 ^ 60)→(0≤d)→Et Tryz.prog 59 [.agg ((Bg t).map .p),.p (.lst (BO vs)),.p (I d)] (.tup [.agg ((Bg ((Ce t vs d).1)).map .p),.p (I ((Ce t vs d).2))]):=by
 intro t vs d h1 h2 h3 h4 h5;generalize hr:CQ vs (min d 65536) 0 0 t=r;refine BD Tryz.func59 O rN (n:=42) O O (A4 (BP O (Bf O) fun b3=>BP O (BF B8 O) fun b6=>Az BA 1 [] O (A1 (A2 BA 2 [] O (A3 O (fun c=>?_) (fun c=>?_))))))
 ·(try simp only[sd,se] at c);exact A2 BA 3 [0,0] O (BS (Bj (i:=0) O) (A6 (absurd c Au)))
 (try simp only[sd,se] at c);refine A7 (A4 (Ay O (CB P2 eR O) (BP O (Bf O) fun b14=>Az BA 1 [] O (A4 (A5 BA 4 [2] O (Ay O (Yt O O) (Ay O (CS [0] O (.inl ⟨O,O,O⟩) (gx _ t vs b14 (min (d:Int) (65536:Int)) 0 0 (Nat.le_refl _) h2 h3 Au Au) ⟨_,_,O,O,O⟩ As O (.inl O)) (BP O (BF B8 O) fun b9=>Az BA 1 [0,1] O (A1 (A2 BA 5 [1] O (A3 O (fun c1=>?_) (fun c1=>?_))))))))))))
 ·(try simp only[sd,se] at c1);refine A2 BA 3 [2,0] O (BS (Bj (i:=2) O) (A6 (⟨O,_,_,⟨_,_,O,(BJ (i:=2) Bd O O O),⟨_,_,O,O,O⟩⟩,(List.nil_sublist _),?_⟩)));unfold Ce;rw[if_pos (by simpa using c1)]
  all_goals exact⟨rfl,rfl⟩
 (try simp only[sd,se] at c1);refine A7 (A1 (A2 BA 5 [1] O (A3 O (fun c2=>?_) (fun c2=>?_))))
 ·(try simp only[sd,se] at c2);refine A1 (B7 (fun k=>false) D7 (A0 O (fun _=>CB DV B8 O) Aw (A0 O (fun _=>BB O) Aw (A0 O (fun _=>CW O) Aw (A0 O (fun _=>Ax P2 O O) Aw (BT (j:=1) O O O (fun H i hi=>BG (i:=i) C0 O hi O) AB Aw (CF O O (CO (i:=2) Bd O O O O O O) AB Aw (A0 O (fun _=>Bb O) Aw (Bv O Ap (BS (Bj (i:=2) O) (A6 (⟨O,_,_,⟨_,_,O,(BJ (i:=2) Bd O O O),⟨_,_,O,O,O⟩⟩,(List.nil_sublist _),?_⟩))))))))))));unfold Ce;rw[if_neg Au,if_pos c2]
  all_goals exact⟨rfl,rfl⟩
 (try simp only[sd,se] at c2);refine A7 (A1 (A4 (Ay O (BI (i:=0) Bd O O Am) (Ay O (BN O O (Nz _ ((CQ vs (min (d:Int) (65536:Int)) 0 0 t).1) (Nat.le_refl _) (Ov t vs _ _ _ h2 h3)) O) (Az BA 1 [] O (A3 O (fun c3=>?_) (fun c3=>?_)))))))
 ·(try simp only[sd,se] at c3);refine A2 BA 3 [2,0] O (BS (Bj (i:=2) O) (A6 (⟨O,_,_,⟨_,_,O,(BJ (i:=2) Bd O O O),⟨_,_,O,O,O⟩⟩,(List.nil_sublist _),?_⟩)));unfold Ce;rw[if_neg Au,if_neg (by simpa using c2),if_pos c3]
  all_goals exact⟨rfl,rfl⟩
 (try simp only[sd,se] at c3);refine A7 (A2 BA 3 [0,2,1] O (A6 (⟨O,_,_,⟨_,_,O,(BJ (i:=2) Bd O O Am),⟨_,_,O,O,O⟩⟩,(List.nil_sublist _),?_⟩)));unfold Ce;rw[if_neg Au,if_neg (by simpa using c2),if_neg Au]
 all_goals exact⟨rfl,rfl⟩
theorem Q4:∀(t:Tm) (vs:List Tm),(size t<2 ^ 60)→(Nd t)→(Lo vs)→(Bl vs<2 ^ 60)→Et Tryz.prog 23 [.agg ((Bg t).map .p),.p (.lst (BO vs))] (.tup [.agg ((Bg ((Ce t vs 0).1)).map .p),.p (I ((Ce t vs 0).2))]):=by
 intro t vs h1 h2 h3 h4;refine BD Tryz.func23 O rv (n:=11) O O (A4 (BP O (Bf O) fun b2=>BP O (BF B8 O) fun b4=>Az BA 1 [] O (A4 (A5 BA 2 [1] O (Ay O (BN O O (bq t vs 0 h1 h2 h3 h4 Au) O) (Az BA 4 [0,1] O (A6 (⟨O,_,_,⟨_,_,O,(BJ (i:=0) Bd O O Am),⟨_,_,O,O,O⟩⟩,(List.nil_sublist _),?_⟩))))))))
 all_goals exact⟨rfl,rfl⟩
theorem fp:∀(b:Nat) (c:Ev) (t:Tm) (e:Int),(Nd t)→B4 Tryz.prog 78 [.ptr b 0,.agg ((Bg t).map .p),.p (I e)] [.box b ((I5 c).map .p)] (Gx (.tup []) [.box b ((I5 (c.form t e)).map .p)]):=by
 intro b c t e h1;refine BD Tryz.func78 O rF (n:=65) O O (A4 (BP O (Bf O) fun b4=>Bt O (A1 (B7 (fun k=>false) D7 (A0 O (fun _=>BB O) Aw (A0 O (fun _=>CW O) Aw (A0 O (fun _=>Ax Q2 O O) Aw (BT (j:=1) O O O (fun H i hi=>BG (i:=i) C0 O hi O) AB Aw (BT (j:=0) O O O (fun H i hi=>BI (i:=i) Bd O hi Am) AB Aw (A0 O (fun _=>BN O O (Mn _ t (Nat.le_refl _) h1) O) Aw (A0 O (fun _=>EU O O) Aw (A0 O (fun _=>CW O) Aw (A0 O (fun _=>Ax Q2 O O) Aw (CF O O (CO (i:=1) C0 O O O O O O) AB Aw (Bv O Ap (A1 ?_))))))))))))))));refine Bi [0] 61 (fun y=>y= .p (.bool (((((((e:Int) !=(0:Int))||(decide ((c.steps:Int) > (c.limit:Int))))||(decide ((c.nodes:Int) > (wr ((2:Int)*(c.limit:Int)):Int))))||(decide ((wr ((c.forms:Int)+(FC t:Int)):Int) > (wr ((40:Int)*(c.limit:Int)):Int))))||(decide ((FC t:Int) > (2000:Int))))||(decide ((FE t:Int) > (95:Int)))))) ?_ ?_
 ·refine B7 (fun k=>false) D7 (A0 O (fun _=>BB O) Aw (A0 O (fun _=>C4 O O O) Aw (A0 O (fun _=>BB O) Aw (EB 17 O (fun g=>?_) (fun g=>?_)))))
  ·(try simp only[sd,se] at g);refine BR O Aw (BR O Aw (BR O Aw (BR O Aw (BR O Aw (BR O Aw (BR O Aw (BR O Aw (BR O Aw (A0 O (fun _=>B2 O O) Aw (A0 O (fun _=>BB O) Aw (BR O Aw (BR O Aw (BR O Aw (BR O Aw (BR O Aw (BR O Aw (BR O Aw (BR O Aw (BR O Aw (BR O Aw (A0 O (fun _=>B2 O O) Aw (A0 O (fun _=>BB O) Aw (BR O Aw (BR O Aw (BR O Aw (BR O Aw (BR O Aw (BR O Aw (BR O Aw (BR O Aw (BR O Aw (BR O Aw (A0 O (fun _=>B2 O O) Aw (A0 O (fun _=>BB O) Aw (BR O Aw (BR O Aw (BR O Aw (A0 O (fun _=>B2 O O) Aw (A0 O (fun _=>BB O) Aw ?_)))))))))))))))))))))))))))))))))))))));exact BR O Aw (BR O Aw (BR O Aw (A0 O (fun _=>B2 O O) Aw (Bv O Ap (⟨O,O,AM,AJ,⟨O,Aw⟩⟩)))))
  (try simp only[sd,se] at g);refine Be O (fun _=>BB O) Aw (Be O (fun _=>CW O) Aw (Be O (fun _=>Ax Q2 O O) Aw (Co (i:=1) O O O O O (fun H i hi=>BG (i:=i) C0 O hi O) AB Aw (Be O (fun _=>BB O) Aw (Be O (fun _=>CW O) Aw (Be O (fun _=>Ax Q2 O O) Aw (Co (i:=1) O O O O O (fun H i hi=>BG (i:=i) C0 O hi O) AB Aw (Be O (fun _=>C4 O O O) Aw (A0 O (fun _=>B2 O O) Aw (A0 O (fun _=>BB O) Aw (EB 28 O (fun g1=>?_) (fun g1=>?_))))))))))))
  ·(try simp only[sd,se] at g1);exact BR O Aw (BR O Aw (BR O Aw (BR O Aw (BR O Aw (BR O Aw (BR O Aw (BR O Aw (BR O Aw (BR O Aw (A0 O (fun _=>B2 O O) Aw (A0 O (fun _=>BB O) Aw (BR O Aw (BR O Aw (BR O Aw (BR O Aw (BR O Aw (BR O Aw (BR O Aw (BR O Aw (BR O Aw (BR O Aw (A0 O (fun _=>B2 O O) Aw (A0 O (fun _=>BB O) Aw (BR O Aw (BR O Aw (BR O Aw (A0 O (fun _=>B2 O O) Aw (A0 O (fun _=>BB O) Aw (BR O Aw (BR O Aw (BR O Aw (A0 O (fun _=>B2 O O) Aw (Bv O Ap (⟨O,O,AM,AJ,⟨O,Aw⟩⟩))))))))))))))))))))))))))))))))))
  (try simp only[sd,se] at g1);refine Be O (fun _=>BB O) Aw (Be O (fun _=>CW O) Aw (Be O (fun _=>Ax Q2 O O) Aw (Co (i:=1) O O O O O (fun H i hi=>BG (i:=i) C0 O hi O) AB Aw (Be O (fun _=>BB O) Aw (Be O (fun _=>CW O) Aw (Be O (fun _=>Ax Q2 O O) Aw (Co (i:=1) O O O O O (fun H i hi=>BG (i:=i) C0 O hi O) AB Aw (Be O (fun _=>Vn O O) Aw (Be O (fun _=>C4 O O O) Aw (A0 O (fun _=>B2 O O) Aw (A0 O (fun _=>BB O) Aw (EB 40 O (fun g2=>?_) (fun g2=>?_)))))))))))))
  ·(try simp only[sd,se] at g2);exact BR O Aw (BR O Aw (BR O Aw (BR O Aw (BR O Aw (BR O Aw (BR O Aw (BR O Aw (BR O Aw (BR O Aw (A0 O (fun _=>B2 O O) Aw (A0 O (fun _=>BB O) Aw (BR O Aw (BR O Aw (BR O Aw (A0 O (fun _=>B2 O O) Aw (A0 O (fun _=>BB O) Aw (BR O Aw (BR O Aw (BR O Aw (A0 O (fun _=>B2 O O) Aw (Bv O Ap (⟨O,O,AM,AJ,⟨O,Aw⟩⟩))))))))))))))))))))))
  (try simp only[sd,se] at g2);refine Be O (fun _=>BB O) Aw (Be O (fun _=>CW O) Aw (Be O (fun _=>Ax Q2 O O) Aw (Co (i:=1) O O O O O (fun H i hi=>BG (i:=i) C0 O hi O) AB Aw (Be O (fun _=>BB O) Aw (Be O (fun _=>CW O) Aw (Be O (fun _=>Ax Q2 O O) Aw (Co (i:=1) O O O O O (fun H i hi=>BG (i:=i) C0 O hi O) AB Aw (Be O (fun _=>Vn O O) Aw (Be O (fun _=>C4 O O O) Aw (A0 O (fun _=>B2 O O) Aw (A0 O (fun _=>BB O) Aw (EB 52 O (fun g3=>?_) (fun g3=>?_)))))))))))))
  ·(try simp only[sd,se] at g3);exact BR O Aw (BR O Aw (BR O Aw (A0 O (fun _=>B2 O O) Aw (A0 O (fun _=>BB O) Aw (BR O Aw (BR O Aw (BR O Aw (A0 O (fun _=>B2 O O) Aw (Bv O Ap (⟨O,O,AM,AJ,⟨O,Aw⟩⟩))))))))))
  (try simp only[sd,se] at g3);refine Co (i:=0) O O O O O (fun H i hi=>BI (i:=i) Bd O hi Am) AB Aw (Be O (fun _=>BN O O (Mn _ t (Nat.le_refl _) h1) O) Aw (Be O (fun _=>C4 O O O) Aw (A0 O (fun _=>B2 O O) Aw (A0 O (fun _=>BB O) Aw (EB 57 O (fun g4=>?_) (fun g4=>?_))))))
  ·(try simp only[sd,se] at g4);exact BR O Aw (BR O Aw (BR O Aw (A0 O (fun _=>B2 O O) Aw (Bv O Ap (⟨O,O,AM,AJ,⟨O,Aw⟩⟩)))))
  (try simp only[sd,se] at g4);exact Co (i:=0) O O O O O (fun H i hi=>BI (i:=i) Bd O hi Am) AB Aw (Be O (fun _=>BN O O (Nz _ t (Nat.le_refl _) h1) O) Aw (Be O (fun _=>C4 O O O) Aw (A0 O (fun _=>B2 O O) Aw (Bv O Ap (⟨O,O,AM,AJ,⟨O,Aw⟩⟩)))))
 rintro _ rfl;refine A3 O (fun c1=>?_) (fun c1=>?_)
 ·have c1R:=c1;(try simp only[sd,se] at c1);refine A8 (Az BA 4 [1,0] O ⟨O,_,_,O,(CJ (is:=[1]) O),?_⟩);refine⟨O,?_⟩;show ([.box b [.p (I c.steps),.p (I c.nodes),.p (I (wr ((c.forms:Int)+(FC t:Int)))),.p (I c.limit),.p (.bool true)]]:List BU)=_;simp only[Ev.form,I5,List.map_cons,List.map_nil];rw[c1R];simp
 have c1R:=c1;(try simp only[sd,se] at c1);refine A7 ⟨O,_,_,O,(CJ (is:=[1]) O),?_⟩;refine⟨O,?_⟩;show ([.box b [.p (I c.steps),.p (I c.nodes),.p (I (wr ((c.forms:Int)+(FC t:Int)))),.p (I c.limit),.p (.bool c.over)]]:List BU)=_;simp only[Ev.form,I5,List.map_cons,List.map_nil];rw[c1R];simp
theorem gG:∀{σ:Type}(st:σ→Int→Tm→σ×Bool) (Inv:Nat→σ→Prop) (HP:Bool→σ→List BU→Prop) (l b2 b3 b4:Nat) (hI:∀m s d t,Inv (m+1) s→Inv m (st s d t).1) (hy:∀m s d t T,Nd t→Inv (m+1) s→HP true s T→L7 Tryz.prog l [.p (I d),TV t] T (WL (.p (.bool (st s d t).2)) (HP (st s d t).2 (st s d t).1))) (n:Nat) (t:Tm) (d:Int) (s:σ) (T0:List BU) (m:Nat),size t≤n→Nd t→0≤d→d+n<4611686018427387904→Inv (m+size t) s→HP true s T0→B4 Tryz.prog 114 [TV t,.p (I d),.ptr b2 0,.ptr b3 0,.ptr b4 0] (.box b2 [.fn (.yield l) [] []]:: .box b3 PR:: .box b4 [.fn (.func 114) [] [.ptr b2 0,.ptr b3 0,.ptr b4 0]]::T0) (WL (.p (.bool (E2 st t d s).2)) (fun H=>∃T,HP (E2 st t d s).2 (E2 st t d s).1 T∧H= .box b2 [.fn (.yield l) [] []]:: .box b3 PR:: .box b4 [.fn (.func 114) [] [.ptr b2 0,.ptr b3 0,.ptr b4 0]]::T)):=by
 intro σ st Inv HP l b2 b3 b4 hI hy n
 induction n with
 | zero=>intro t d s T0 m h;cases t;simp[size] at h
 | succ n ih =>
  intro t d s T0 m h1 h2 h3 h4 h5 h6;obtain⟨tk,ti,tn,tl,ts⟩:=t;have h2':=h2;simp only[size] at h1 h5;simp only[Nd,I3,Dt] at h2;refine BD Tryz.func114 O mj (n:=50) O O (A4 (BP O (Bf O) fun b5=>Az BA 1 [] O (A1 (A4 (A5 BA 3 [1,0] O (JI [_,_,_,_] O O O O (hy (m+Bl ts) _ _ _ _ h2' (by rw[Nat.add_assoc,Nat.add_comm (Bl ts)];exact h5) h6) O ?_ (fun _ _ h=>h.elim)))))));rintro _ T ⟨rfl,hT⟩;refine Az BA 1 [] O (A3 O (fun c=>?_) (fun c=>?_))
  ·(try simp only[sd,se] at c);refine A2 BA 1 [] O (A6 (⟨O,_,_,⟨_,_,O,O,O⟩,(Gz [1,2,3] [_,_,_,_] O),?_⟩));rw[VZ c];rw[c] at hT;exact⟨O,_,hT,O⟩
  (try simp only[sd,se] at c);rw[c] at hT;refine A7 (A2 BA 1 [] O (A1 (A1 (Bi [1,3,4,5,8] 24 (fun y=>y= .p (.bool ((decide ((tk:Int)≥(0:Int)))&&(decide ((tk:Int)<(13:Int)))))) ?_ ?_))))
  ·refine A8 (A5 BA 4 [0] O (Ba 20 O (fun g=>?_) (fun g=>?_)))
   ·(try simp only[sd,se] at g);exact Az BA 4 [0] O (⟨O,O,AM,AJ,⟨O,O,O,O,O,Aw⟩⟩)
   (try simp only[sd,se] at g);exact Az BA 4 [] O (⟨O,O,AM,AJ,⟨O,O,O,O,O,Aw⟩⟩)
  rintro _ rfl;refine A3 O (fun c1=>?_) (fun c1=>?_)
  ·(try simp only[sd,se] at c1);refine A8 (A5 BA 2 [0] O (Ay O (RS js j1 O O Au Au) (Ay O (Ax mP O O) (Ay O (BG (i:=2) C0 O O (ey Au)) (Az BA 1 [] O (A1 (A4 (A5 BA 2 [0] O (Ay O (BZ Bq O (Bh _)) (Az BA 1 [] O (BH ?_)))))))))));refine Bo (α:=Nat×σ×List BU) (fun(i,q,U)=>⟨50,mk [(1,.p (I d)),(4,.ptr b4 0),(8,.p (I (Ju tk))),(31,.p (.lst (BO ts))),(32,.p (I (ts.length:Nat))),(33,.p (I (i:Int)))],(.box b2 [.fn (.yield l) [] []]:: .box b3 PR:: .box b4 [.fn (.func 114) [] [.ptr b2 0,.ptr b3 0,.ptr b4 0]]::U),[]⟩) (fun(i,q,U)=>ts.length - i) (fun(i,q,U)=>i≤ts.length∧(E3 st tk d i q (ts.drop i)=E3 st tk d 0 (st s d (.mk tk ti tn tl ts)).1 ts∧Inv (m+Bl (ts.drop i)) q∧HP true q U)) ⟨0,(st s d (.mk tk ti tn tl ts)).1,T⟩ (⟨by omega,by simp,by simpa using hI _ _ _ _ (by rw[Nat.add_assoc,Nat.add_comm (Bl ts)];exact h5),by assumption⟩) ?_ ?_
   ·exact Bk ⟨we O,we O,we O,we O,we O,we O,Aw⟩ (Yx [1,2,3] [_,_,_,_] (l':=[_,_,_]) O (wl (oe O) (wl (oe O) (wl (oe O) (DN)))))
   rintro⟨i,q,U⟩ hC
   try simp only at hC
   obtain⟨hi,hC,hJ,hK⟩:=hC;refine A2 BA 1 [] O (A1 (A3 O (fun c2=>?_) (fun c2=>?_)))
   ·(try simp only[sd,se] at c2);refine A7 (A1 (BH (A4 (B6 O ?_))));obtain⟨x,hx⟩:=BE (l:=ts) (i:=i) Au;refine Ay O (BC Bq O O Au (Bn hx) (BL _)) (Ay O (BQ Bd O (BL _)) (BP O (BF B8 O) fun b10=>Az BA 2 [0,1] O (A2 BA 2 [] O (A1 (A2 BA 3 [] O (A3 O (fun c3=>?_) (fun c3=>?_)))))))
    ·(try simp only[sd,se] at c3);refine A8 (Az BA 3 [] O (BS (DQ (t:=11) (x:= .p (I (d+below tk i))) (pI (by have:=Wg (k:=tk) (i:=i) Au Au;omega))) (A4 (A5 BA 3 [3,0] O (IV [_] O O O (.inr O) (ih x (d+below tk i) q _ (m+Bl (ts.drop (i+1))) (by have:=Cs hx;omega) (Di h2.2.2.2.2.1 hx) (by have:=DK tk i;omega) (by have:=DK tk i;omega) (by rw[Cy hx,Bl] at hJ;rw[Nat.add_assoc,Nat.add_comm (Bl _)];exact hJ) hK) (aw (we O) (aw (we O) (aw (we O) (aw (we O) (aw (we O) (FH)))))) ?_ (fun _ _ h=>h.elim))))));rintro _ _ ⟨rfl,T1,hT1,rfl⟩;refine Az BA 1 [] O (A3 O (fun c4=>?_) (fun c4=>?_))
     ·(try simp only[sd,se] at c4);refine A2 BA 1 [] O (A6 (⟨O,_,_,⟨_,_,O,O,O⟩,(Gz [1,2,3] [_,_,_,_] O),?_⟩));rw[II Aq,←hC,I6 hx c4];rw[c4] at hT1;exact⟨O,_,hT1,O⟩
     (try simp only[sd,se] at c4);rw[c4] at hT1;refine A7 (A8 (Az BA 2 [] O ?_));refine⟨⟨i+1,(E2 st x (d+below tk i) q).1,T1⟩,AU,⟨by omega,⟨by rw[←hC];exact(Ku hx Aq).symm,by rw[Cy hx,Bl] at hJ;exact JZ hI x _ _ _ (by rw[Nat.add_assoc,Nat.add_comm (Bl _)];exact hJ) Aq,by assumption⟩⟩,Bk ⟨we rfl,we rfl,we rfl,we rfl,we rfl,we rfl,trivial⟩ (Yx [1,2,3] [_,_,_,_] (l':=[_,_,_]) rfl (wl (oe rfl) (wl (oe rfl) (wl (oe rfl) (DN)))))⟩
    (try simp only[sd,se] at c3);refine A7 (BS (DQ (t:=11) (x:= .p (I (d+below tk i))) (pI (by have:=Tb (k:=tk) (i:=i) Au;omega))) (A4 (A5 BA 3 [3,0] O (IV [_] O O O (.inr O) (ih x (d+below tk i) q _ (m+Bl (ts.drop (i+1))) (by have:=Cs hx;omega) (Di h2.2.2.2.2.1 hx) (by have:=DK tk i;omega) (by have:=DK tk i;omega) (by rw[Cy hx,Bl] at hJ;rw[Nat.add_assoc,Nat.add_comm (Bl _)];exact hJ) hK) (aw (we O) (aw (we O) (aw (we O) (aw (we O) (aw (we O) (FH)))))) ?_ (fun _ _ h=>h.elim)))));rintro _ _ ⟨rfl,T1,hT1,rfl⟩;refine Az BA 1 [] O (A3 O (fun c4=>?_) (fun c4=>?_))
    ·(try simp only[sd,se] at c4);refine A2 BA 1 [] O (A6 (⟨O,_,_,⟨_,_,O,O,O⟩,(Gz [1,2,3] [_,_,_,_] O),?_⟩));rw[II Aq,←hC,I6 hx c4];rw[c4] at hT1;exact⟨O,_,hT1,O⟩
    (try simp only[sd,se] at c4);rw[c4] at hT1;refine A7 (A8 (Az BA 2 [] O ?_));refine⟨⟨i+1,(E2 st x (d+below tk i) q).1,T1⟩,AU,⟨by omega,⟨by rw[←hC];exact(Ku hx Aq).symm,by rw[Cy hx,Bl] at hJ;exact JZ hI x _ _ _ (by rw[Nat.add_assoc,Nat.add_comm (Bl _)];exact hJ) Aq,by assumption⟩⟩,Bk ⟨we rfl,we rfl,we rfl,we rfl,we rfl,we rfl,trivial⟩ (Yx [1,2,3] [_,_,_,_] (l':=[_,_,_]) rfl (wl (oe rfl) (wl (oe rfl) (wl (oe rfl) (DN)))))⟩
   (try simp only[sd,se] at c2);refine Br (A2 BA 1 [] O (A6 (⟨O,_,_,⟨_,_,O,O,O⟩,(Gz [0,1,2] [_,_,_] O),?_⟩)));rw[II Aq,←hC,show i=ts.length by omega,List.drop_length];exact⟨O,_,hK,O⟩
  (try simp only[sd,se] at c1);have hbx:=WH (k:=tk) Au;refine A7 (A1 (A4 (A5 BA 2 [0] O (Ay O (BZ Bq O (Bh _)) (Az BA 1 [] O (BH ?_))))));refine Bo (α:=Nat×σ×List BU) (fun(i,q,U)=>⟨50,mk [(1,.p (I d)),(4,.ptr b4 0),(8,.p (I (-1))),(31,.p (.lst (BO ts))),(32,.p (I (ts.length:Nat))),(33,.p (I (i:Int)))],(.box b2 [.fn (.yield l) [] []]:: .box b3 PR:: .box b4 [.fn (.func 114) [] [.ptr b2 0,.ptr b3 0,.ptr b4 0]]::U),[]⟩) (fun(i,q,U)=>ts.length - i) (fun(i,q,U)=>i≤ts.length∧(E3 st tk d i q (ts.drop i)=E3 st tk d 0 (st s d (.mk tk ti tn tl ts)).1 ts∧Inv (m+Bl (ts.drop i)) q∧HP true q U)) ⟨0,(st s d (.mk tk ti tn tl ts)).1,T⟩ (⟨by omega,by simp,by simpa using hI _ _ _ _ (by rw[Nat.add_assoc,Nat.add_comm (Bl ts)];exact h5),by assumption⟩) ?_ ?_
  ·exact Bk ⟨we O,we O,we O,we O,we O,we O,Aw⟩ (Yx [1,2,3] [_,_,_,_] (l':=[_,_,_]) O (wl (oe O) (wl (oe O) (wl (oe O) (DN)))))
  rintro⟨i,q,U⟩ hC
  try simp only at hC
  obtain⟨hi,hC,hJ,hK⟩:=hC;refine A2 BA 1 [] O (A1 (A3 O (fun c2=>?_) (fun c2=>?_)))
  ·(try simp only[sd,se] at c2);refine A7 (A1 (BH (A4 (B6 O ?_))));obtain⟨x,hx⟩:=BE (l:=ts) (i:=i) Au;refine Ay O (BC Bq O O Au (Bn hx) (BL _)) (Ay O (BQ Bd O (BL _)) (BP O (BF B8 O) fun b10=>Az BA 2 [0,1] O (A2 BA 2 [] O (A1 (A2 BA 3 [] O (A3 O (fun c3=>?_) (fun c3=>?_)))))))
   ·(try simp only[sd,se] at c3);refine A8 (Az BA 3 [] O (BS (DQ (t:=11) (x:= .p (I (d+below tk i))) (pI (by have:=Wg (k:=tk) (i:=i) Au Au;omega))) (A4 (A5 BA 3 [3,0] O (IV [_] O O O (.inr O) (ih x (d+below tk i) q _ (m+Bl (ts.drop (i+1))) (by have:=Cs hx;omega) (Di h2.2.2.2.2.1 hx) (by have:=DK tk i;omega) (by have:=DK tk i;omega) (by rw[Cy hx,Bl] at hJ;rw[Nat.add_assoc,Nat.add_comm (Bl _)];exact hJ) hK) (aw (we O) (aw (we O) (aw (we O) (aw (we O) (aw (we O) (FH)))))) ?_ (fun _ _ h=>h.elim))))));rintro _ _ ⟨rfl,T1,hT1,rfl⟩;refine Az BA 1 [] O (A3 O (fun c4=>?_) (fun c4=>?_))
    ·(try simp only[sd,se] at c4);refine A2 BA 1 [] O (A6 (⟨O,_,_,⟨_,_,O,O,O⟩,(Gz [1,2,3] [_,_,_,_] O),?_⟩));rw[II Aq,←hC,I6 hx c4];rw[c4] at hT1;exact⟨O,_,hT1,O⟩
    (try simp only[sd,se] at c4);rw[c4] at hT1;refine A7 (A8 (Az BA 2 [] O ?_));refine⟨⟨i+1,(E2 st x (d+below tk i) q).1,T1⟩,AU,⟨by omega,⟨by rw[←hC];exact(Ku hx Aq).symm,by rw[Cy hx,Bl] at hJ;exact JZ hI x _ _ _ (by rw[Nat.add_assoc,Nat.add_comm (Bl _)];exact hJ) Aq,by assumption⟩⟩,Bk ⟨we rfl,we rfl,we rfl,we rfl,we rfl,we rfl,trivial⟩ (Yx [1,2,3] [_,_,_,_] (l':=[_,_,_]) rfl (wl (oe rfl) (wl (oe rfl) (wl (oe rfl) (DN)))))⟩
   (try simp only[sd,se] at c3);refine A7 (BS (DQ (t:=11) (x:= .p (I (d+below tk i))) (pI (by have:=Tb (k:=tk) (i:=i) Au;omega))) (A4 (A5 BA 3 [3,0] O (IV [_] O O O (.inr O) (ih x (d+below tk i) q _ (m+Bl (ts.drop (i+1))) (by have:=Cs hx;omega) (Di h2.2.2.2.2.1 hx) (by have:=DK tk i;omega) (by have:=DK tk i;omega) (by rw[Cy hx,Bl] at hJ;rw[Nat.add_assoc,Nat.add_comm (Bl _)];exact hJ) hK) (aw (we O) (aw (we O) (aw (we O) (aw (we O) (aw (we O) (FH)))))) ?_ (fun _ _ h=>h.elim)))));rintro _ _ ⟨rfl,T1,hT1,rfl⟩;refine Az BA 1 [] O (A3 O (fun c4=>?_) (fun c4=>?_))
   ·(try simp only[sd,se] at c4);refine A2 BA 1 [] O (A6 (⟨O,_,_,⟨_,_,O,O,O⟩,(Gz [1,2,3] [_,_,_,_] O),?_⟩));rw[II Aq,←hC,I6 hx c4];rw[c4] at hT1;exact⟨O,_,hT1,O⟩
   (try simp only[sd,se] at c4);rw[c4] at hT1;refine A7 (A8 (Az BA 2 [] O ?_));refine⟨⟨i+1,(E2 st x (d+below tk i) q).1,T1⟩,AU,⟨by omega,⟨by rw[←hC];exact(Ku hx Aq).symm,by rw[Cy hx,Bl] at hJ;exact JZ hI x _ _ _ (by rw[Nat.add_assoc,Nat.add_comm (Bl _)];exact hJ) Aq,by assumption⟩⟩,Bk ⟨we rfl,we rfl,we rfl,we rfl,we rfl,we rfl,trivial⟩ (Yx [1,2,3] [_,_,_,_] (l':=[_,_,_]) rfl (wl (oe rfl) (wl (oe rfl) (wl (oe rfl) (DN)))))⟩
  (try simp only[sd,se] at c2);refine Br (A2 BA 1 [] O (A6 (⟨O,_,_,⟨_,_,O,O,O⟩,(Gz [0,1,2] [_,_,_] O),?_⟩)));rw[II Aq,←hC,show i=ts.length by omega,List.drop_length];exact⟨O,_,hK,O⟩
theorem kS:Et Tryz.prog 113 [] (.agg PR):=by
 refine BD Tryz.func113 O nv (n:=15) O O (A4 (BP O (BF ew O) fun b0=>Bt O (A4 (A5 BA 13 [] O (Ay O (Eg js j1 ew O) (Az BA 1 [0,0] O (A6 (⟨O,_,_,⟨_,_,O,(BJ (i:=0) n4 O O O),O⟩,(List.nil_sublist _),?_⟩))))))))
 all_goals exact⟨rfl,rfl⟩
theorem du:∀(t:Tm),B4 Tryz.prog 82 [.agg ((Bg t).map .p)] [] (fun r H'=>∃b,r= .val (.fn (.func 112) [] [.ptr b 0])∧H'=[.box b ((Bg t).map .p)]):=by
 intro t;refine BD Tryz.func82 O qu (n:=4) O O (A4 (BP O (Bf O) fun b1=>Az BA 1 [] O (A2 BA 2 [] O (A6 (⟨O,_,_,⟨_,_,O,O,O⟩,(CJ (is:=[0]) O),?_⟩)))));exact⟨_,O,O⟩
theorem ca:∀{σ:Type}(st:σ→Int→Tm→σ×Bool) (Inv:Nat→σ→Prop) (HP:Bool→σ→List BU→Prop) (l b1:Nat) (hI:∀m s d t,Inv (m+1) s→Inv m (st s d t).1) (hy:∀m s d t T,Nd t→Inv (m+1) s→HP true s T→L7 Tryz.prog l [.p (I d),TV t] T (WL (.p (.bool (st s d t).2)) (HP (st s d t).2 (st s d t).1))) (t:Tm) (s:σ) (T0:List BU) (m:Nat),Nd t→size t<4611686018427387904→Inv (m+size t) s→HP true s T0→B4 Tryz.prog 112 [.fn (.yield l) [] [],.ptr b1 0] (.box b1 ((Bg t).map .p)::T0) (WL (.tup []) (fun H=>∃T,HP (E2 st t 0 s).2 (E2 st t 0 s).1 T∧H= .box b1 ((Bg t).map .p)::T)):=by
 intro σ st Inv HP l b1 hI hy t s T0 m h1 h2 h3 h4;refine BD Tryz.func112 O nB (n:=10) O O (A4 (BP O (Bf O) fun b2=>Bt O (A4 (Ay O (BN O O (kS ) O) (BP O (BF ew O) fun b3=>Az BA 1 [0,0] O (A4 (BP O (BF oA O) fun b4=>Bt O (A2 BA 2 [0,0] O (A8 (A5 BA 2 [0,3] O (MN ((List.reverse_perm [_,_,_,_]).symm.append_right _) (IV [_] O O O (.inr O) (gG st Inv HP l b2 b3 b4 hI hy _ t 0 s T0 m (Nat.le_refl _) h1 Au Au h3 h4) (aw (we O) (aw (we O) (aw (we O) (aw (we O) (aw (we O) (FH)))))) ?_ (fun _ _ h=>h.elim)))))))))))));rintro _ _ ⟨rfl,T,hT,rfl⟩;refine Bt O ⟨O,_,_,O,(Gz [0] [_,_,_,_] O),?_⟩;exact⟨O,_,hT,O⟩
theorem ZQ:∀(t:Tm),(Nd t)→(size t<1152921504606846976)→Et Tryz.prog 45 [.agg ((Bg t).map .p)] (.p (I (size t:Nat))):=by
 intro t h1 h2;refine Fs Tryz.func45 O qP (n:=11) O O (A4 (BP O (Bf O) fun b1=>Az BA 1 [] O (A4 (BP O (BF hY O) fun b3=>Az BA 1 [0,0] O (A1 (A4 (Ay O (BI (i:=1) Bd O O Am) ?_)))))));refine cm [] O O O (.inl ⟨O,O,O⟩) (du t) O Av (aw (we O) FH) ?_ (fun _ _ ⟨_,h,_⟩=>by cases h);rintro _ _ ⟨bn,h,rfl⟩;cases h;refine Bt O (BH (Rn (.inr O) fun dd l L hL=>⟨_,_,Dj (is:=[2,0,3]) As ⟨_,_,O,O,⟨_,_,O,O,⟨_,_,O,O,O⟩⟩⟩,?_⟩));have hy:∀(m:Nat) (s:Int) (d:Int) (t:Tm) (T:List BU),Nd t→(fun _ _=>True) (m+1) s→(fun(_:Bool) (s:Int) (T:List BU)=>T=[.loop l L,.box b3 [.p (I s)]]) true s T→L7 Tryz.prog l [.p (I d),TV t] T (WL (.p (.bool (XR s d t).2)) ((fun(_:Bool) (s:Int) (T:List BU)=>T=[.loop l L,.box b3 [.p (I s)]]) (XR s d t).2 (XR s d t).1)):=by
  rintro m s d tt T hnd hinv rfl;subst hL;refine TJ (i:=0) O O O O (A7 ⟨O,0,O,?_⟩);refine BH (A8 (Ay O (BG (i:=1) C0 O O O) (Ay O (EU O O) (Az BA 1 [1,0] O ⟨0,_,O,CJ (is:=[0,1]) O,?_⟩))));exact⟨O,O⟩
 refine(ca XR (fun _ _=>True) (fun(_:Bool) (s:Int) (T:List BU)=>T=[.loop l L,.box b3 [.p (I s)]]) l bn (fun _ _ _ _ _=>Aw) hy t 0 _ 0 (h1) Au (Aw) O).mono ?_;rintro(v | v) H' hR
 rotate_left
 ·exact hR.elim
 obtain⟨rfl,_,rfl,rfl⟩:=hR;subst hL;refine⟨1,_,O,Av,?_⟩;refine A2 BA 2 [1] O (A6 (⟨2,O,_,_,⟨_,_,O,O,O⟩,(List.nil_sublist _),?_⟩))
 all_goals exact⟨pI (by rw[V3 4611686018427387904 (Int.le_refl _) t 0 0 Au Au];simp),rfl⟩
theorem Vm:∀(n:Nat) (t:Tm),(size t≤n)→(Nd t)→Et Tryz.prog 46 [.agg ((Bg t).map .p)] (.p (I (FE t))):=by
 intro n
 induction n with
 | zero=>intro t h;cases t;simp[size] at h
 | succ n ih =>
  intro t h1 h2;obtain⟨tk,ti,tn,tl,ts⟩:=t;simp only[size] at h1;simp only[Nd,Dt] at h2;refine BD Tryz.func46 O rI (n:=20) O O (A4 (BP O (Bf O) fun b1=>Az BA 1 [] O (A2 BA 1 [] O (A1 (A4 (A5 BA 2 [0] O (Ay O (BZ Bq O (Bh _)) (Az BA 1 [] O (BH (Bo (α:=Nat×Int) (fun(i,m)=>⟨20,mk [(3,.p (I m)),(7,.p (.lst (BO ts))),(8,.p (I (ts.length:Nat))),(9,.p (I (i:Int)))],[],[]⟩) (fun(i,m)=>ts.length - i) (fun(i,m)=>i≤ts.length∧(Jk m (ts.drop i)=Jk 0 ts)) ⟨0,0⟩ Av ?_ ?_))))))))))
  ·exact Bk ⟨we O,we O,we O,we O,Aw⟩ (leH (is:=[]) O (DN))
  rintro⟨i,m⟩ hC
  try simp only at hC
  obtain⟨hi,hC⟩:=hC;refine A2 BA 1 [] O (A1 (A3 O (fun c=>?_) (fun c=>?_)))
  ·(try simp only[sd,se] at c);refine A7 (A1 (BH (A4 ?_)));obtain⟨x,hx⟩:=BE (l:=ts) (i:=i) Au;refine Ay O (BC Bq O O Au (Bn hx) (BL _)) (Ay O (BQ Bd O (BL _)) (BP O (BF B8 O) fun b5=>Az BA 1 [0,1] O (A8 (A5 BA 2 [0] O (Ay O (BN O O (ih x (by have:=Cs hx;omega) (Di h2.2.2.2.2.1 hx)) O) (Ay O (Ff O O) (Az BA 1 [] O (A8 (Az BA 2 [] O ?_)))))))));refine⟨⟨i+1,max m (FE x)⟩,AU,⟨by omega,by rw[←hC,Cy hx];rfl⟩,Bk ⟨we rfl,we rfl,we rfl,we rfl,trivial⟩ (leH (is:=[]) rfl (DN))⟩
  (try simp only[sd,se] at c);refine Br (A4 (B6 O (Ay O (EU O O) (Az BA 1 [] O (A6 (⟨O,_,_,⟨_,_,O,O,O⟩,(List.nil_sublist _),?_⟩))))))
  all_goals exact⟨pI (by rw[show FE (.mk tk ti tn tl ts)=wr (Jk 0 ts+1) from rfl,←hC,show i=ts.length by omega,List.drop_length];rfl),rfl⟩
theorem Ee:∀(f:Tm) (xs:List Tm),(xs.length<Dt)→Et Tryz.prog 73 [.agg ((Bg f).map .p),.p (.lst (BO xs))] (.agg ((Bg (apply f xs)).map .p)):=by
 intro f xs h1;simp only[Dt] at h1;refine BD Tryz.func73 O rp (n:=19) O O (A4 (BP O (Bf O) fun b2=>BP O (BF B8 O) fun b4=>Bt O (A1 (A4 (B6 O (Ay O (BZ Bq O (Bh _)) (Az BA 1 [] O (BH (Bo (α:=Nat) (fun i=>⟨19,mk [(2,.ptr b2 0),(4,.ptr b4 0),(7,.p (.lst (BO xs))),(8,.p (I (xs.length:Nat))),(9,.p (I (i:Int)))],[.box b4 [.p (I 0),.p (I 0),.p (.str ⟨#[]⟩),.p (.nils),.p (.nils)],.box b2 ((Bg (apply f (xs.take i))).map .p)],[]⟩) (fun i=>xs.length - i) (fun i=>i≤xs.length) 0 AQ ?_ ?_)))))))))
 ·exact Bk ⟨we O,we O,we O,we O,we O,Aw⟩ (leH (is:=[0,1]) O (wl (oe O) (wl (oe O) (DN))))
 rintro i hC
 try simp only at hC
 have hi:=hC;refine A2 BA 1 [] O (A1 (A3 O (fun c=>?_) (fun c=>?_)))
 ·(try simp only[sd,se] at c);refine A7 (A1 (BH (A4 ?_)));obtain⟨x,hx⟩:=BE (l:=xs) (i:=i) Au;refine Ay O (BC Bq O O Au (Bn hx) (BL _)) (Ay O (BQ Bd O (BL _)) (BP O (BF B8 O) fun b6=>Az BA 1 [0,1] O (A8 (A5 BA 2 [2,0] O ?_))));generalize hz:(apply f (xs.take i))=z;obtain⟨zk,zi,zn,zl,zs⟩:=z;obtain⟨xk,xi,xn,xl,xs1⟩:=x;refine Ay O (B0 Bq B8 O O O O O) (Az BA 2 [2,0] O (A8 (Az BA 2 [] O ?_)));refine⟨(i+1),AU,by omega,Bk ⟨we rfl,we rfl,we rfl,we rfl,we rfl,trivial⟩ (leH (is:=[1,2]) rfl (wl (oe rfl) (wl (on (by rw[Rq hx,hz];rfl)) (DN))))⟩
 (try simp only[sd,se] at c);refine Br (A2 BA 2 [1,0,1] O (A6 (⟨O,_,_,⟨_,_,O,(BJ (i:=0) Bd O O Am),O⟩,(List.nil_sublist _),?_⟩)))
 all_goals exact⟨by show (.agg ((Bg (apply f (xs.take i))).map .p):AV)=_;rw[show i=xs.length by omega,List.take_length],rfl⟩
theorem _root_.Go.AN {α:Prop}(h:α:=by simp only[Bh,List.length_map,List.length_set];omega):α:=h
theorem _root_.Go.Ab {α:Prop}(h:α:=by simp only[Bh];omega):α:=h
theorem _root_.Go.Ac {α:Prop}(h:α:=by simp[Bh];omega):α:=h
theorem df:∀(xs:List Tm) (o0:Option Nat) (c0:Nat),(xs.length<Dt)→B4 Tryz.prog 98 [.vs o0 (BO xs).length c0] [.vec o0 5 (BO xs) c0] (Gx (.tup []) [.vec o0 5 (BO xs.reverse) c0]):=by
 intro xs o0 c0 h1;simp only[Dt] at h1;refine BD Tryz.func98 O rD (n:=28) O O (A4 (B6 O (Ay O (KH Bq O (Bh _)) (Az BA 3 [] O (BH (Bo (α:=Nat×List Tm×Option Nat×Nat) (fun(i,ys,o,cp)=>⟨28,mk [(0,.vs o (BO ys).length cp),(2,.p (I (i:Int))),(3,.p (I ((xs.length:Int) - 1 - (i:Int))))],[.vec o 5 (BO ys) cp],[]⟩) (fun(i,ys,o,cp)=>xs.length - i) (fun(i,ys,o,cp)=>i≤xs.length∧VD xs ys i∧o=o0∧cp=c0) ⟨0,xs,o0,c0⟩ (⟨by omega,XZ xs,rfl,rfl⟩) ?_ ?_))))))
 ·exact Bk ⟨we O,we O,we (pI Au),Aw⟩ (leH (is:=[0]) O (wl (oe O) (DN)))
 rintro⟨i,ys,o,cp⟩ hC
 try simp only at hC
 obtain⟨hi,hR,ho,hcp⟩:=hC;have hyl:=hR.1;have hjn:((xs.length:Int) - 1 - (i:Int)).toNat=xs.length - 1 - i:=by omega
 refine A1 (A2 BA 3 [] O (A3 O (fun c=>?_) (fun c=>?_)))
 ·(try simp only[sd,se] at c);refine A7 (A1 (BH (MJ (i:=0) O Ac fun b hb=>?_)));subst hb;refine B7 (fun k=>false) D7 (A0 O (fun _=>BB O) Aw (A0 O (fun _=>BB O) Aw (A0 O (fun _=>BB O) Aw (A0 O (fun _=>BB O) Aw (A0 O (fun _=>BB O) Aw (A0 O (fun _=>BB O) Aw (A0 O (fun _=>DE Bq O O Au Ab) Aw ?_)))))));obtain⟨y,hy⟩:=BE (l:=ys) (i:=((xs.length:Int) - 1 - (i:Int):Int).toNat) Au;refine BT (j:=0) O O O (fun H i hi=>E1 (i:=i) Bd O hi (Bn hy)) AB Aw (A0 O (fun _=>BB O) Aw (A0 O (fun _=>BB O) Aw (A0 O (fun _=>DE Bq O O Au Ab) Aw ?_)));obtain⟨y1,hy1⟩:=BE (l:=ys) (i:=i) Au;refine BT (j:=0) O O O (fun H i hi=>E1 (i:=i) Bd O hi (Bn hy1)) AB Aw (A0 O (fun _=>DE Bq O O Au Ab) Aw (CF O O (Eh (i:=0) (j:=i) Bd O O O AN O (Ka _) (BL _) (C5 _) (TF ys i y)) AB Aw (A0 O (fun _=>DE Bq O O Au Ab) Aw (CF O O (Eh (i:=0) (j:=(((xs.length:Int) - 1 - (i:Int):Int).toNat)) Bd O O O AN O (Ka _) (BL _) (C5 _) (TF ((ys).set i y) (((xs.length:Int) - 1 - (i:Int):Int).toNat) y1)) AB Aw (Bv O Ap (A8 (Az BA 6 [] O ?_)))))));refine⟨⟨i+1,(ys.set i y).set (xs.length - 1 - i) y1,(some b),cp⟩,AU,⟨by omega,XM hR Au hy1 (hjn▸hy),ho,hcp⟩,Bk ⟨we (Dc ys Av),we rfl,we (pI Au),trivial⟩ (leH (is:=[0]) rfl (wl (KA (((ys).set i y).set (((xs.length:Int) - 1 - (i:Int):Int).toNat) y1) (by rw[hjn])) (DN)))⟩
 (try simp only[sd,se] at c);refine Br ⟨O,_,_,O,(CJ (is:=[0]) O),?_⟩;refine⟨O,?_⟩;show ([.vec o 5 (BO ys) cp]:List BU)=_;rw[Wy hR Au,ho,hcp]
theorem MF:∀(t:Tm),(Nd t)→(size t<Dt)→Et Tryz.prog 72 [.agg ((Bg t).map .p)] (.tup [.agg ((Bg ((BK t).1)).map .p),.p (.lst (BO ((BK t).2)))]):=by
 intro t h1 h2;simp only[Dt] at h2;refine BD Tryz.func72 O qO (n:=29) O O (A4 (BP O (Bf O) fun b1=>BP O (BF B8 O) fun b2=>Az BA 1 [] O (A2 BA 1 [] O (A1 (BH (BS (EY (t:=4) (sz:=5) O) ?_))))));refine Bo (α:=Tm×List Tm×Option Nat×Nat) (fun(tt,ys,o,cp)=>⟨29,mk [(1,.ptr b1 0),(2,.ptr b2 0),(4,.vs o (BO ys).length cp)],[.vec o 5 (BO ys) cp,.box b2 [.p (I 0),.p (I 0),.p (.str ⟨#[]⟩),.p (.nils),.p (.nils)],.box b1 ((Bg tt).map .p)],[]⟩) (fun(tt,ys,o,cp)=>size tt) (fun(tt,ys,o,cp)=>BK t=((BK tt).1,(BK tt).2++ys.reverse)∧Nd tt∧size tt+ys.length≤size t) ⟨t,[],none,0⟩ (⟨by simp,h1,by simp⟩) ?_ ?_
 ·exact Bk ⟨we O,we O,we O,Aw⟩ (leH (is:=[0,1,2]) O (wl (oe O) (wl (oe O) (wl (oe O) (DN)))))
 rintro⟨tt,ys,o,cp⟩ hC
 try simp only at hC
 obtain⟨hS,hN,hL⟩:=hC;refine A1 (A1 ?_);obtain⟨ttk,tti,ttn,ttl,tts⟩:=tt;simp only[size] at hL;refine Bi [1,2,4] 13 (fun y=>y= .p (.bool (((ttk:Int)==(4:Int))&&(((tts.length:Nat):Int)==(2:Int))))) ?_ ?_
 ·refine A8 (A5 BA 4 [2] O (Ba 8 O (fun g=>?_) (fun g=>?_)))
  ·(try simp only[sd,se] at g);exact A5 BA 2 [2] O (BM O (BZ Bq O (Bh _)) (Az BA 2 [] O (⟨O,O,AM,AJ,⟨O,O,O,Aw⟩⟩)))
  (try simp only[sd,se] at g);exact Az BA 5 [] O (⟨O,O,AM,AJ,⟨O,O,O,Aw⟩⟩)
 rintro _ rfl;refine A3 O (fun c=>?_) (fun c=>?_)
 ·(try simp only[sd,se] at c);refine A7 (BH (A4 (A5 BA 3 [2] O ?_)));obtain⟨x,hx⟩:=BE (l:=tts) (i:=1) Au;refine Ay O (BC Bq O O Au (Bn hx) (BL _)) (Ay O (BQ Bd O (BL _)) ?_);obtain⟨xk,xi,xn,xl,xs⟩:=x;refine Ay O (B0 Bq B8 O O O O O) (FV O O (Cb (i:=0) (rows':=BO [(.mk xk xi xn xl xs:Tm)]) Bq Bq B8 O O O O O O (B9 _) AE (Jj ys [(.mk xk xi xn xl xs:Tm)])) fun o1 cp1=>Az BA 1 [] O (A8 (A5 BA 2 [2] O ?_)));obtain⟨x1,hx1⟩:=BE (l:=tts) (i:=0) Au;refine Ay O (BC Bq O O Au (Bn hx1) (BL _)) (Az BA 2 [2,1] O ?_);refine⟨⟨x1,ys++[.mk xk xi xn xl xs],o1,cp1⟩,(by have:=Cs hx1;simp only[size];omega),⟨by rw[hS,TS c hx1 hx];simp,Di hN.2.2.2.2.1 hx1,by have:=Cs hx1;simp;omega⟩,Bk ⟨we rfl,we rfl,we rfl,trivial⟩ (leH (is:=[0,1,2]) rfl (wl (oe rfl) (wl (oe rfl) (wl (oe rfl) (DN)))))⟩
 (try simp only[sd,se] at c);refine Br (A4 (B6 O (Ay O (CS [0] O (.inl ⟨O,O,O⟩) (df ys o cp Ad) ⟨_,_,O,O,O⟩ As O (.inl O)) (Bt O (A2 BA 4 [2,1,0] O (BS (DQ (t:=4) (x:= .vs o (BO ys.reverse).length cp) (Dc ys (l':=ys.reverse) Av)) (BS (DQ (t:=25) (x:= .vs o (BO ys.reverse).length cp) (Dc ys (l':=ys.reverse) Av)) (BS (DQ (t:=28) (x:= .vs o (BO ys.reverse).length cp) (Dc ys (l':=ys.reverse) Av)) (BS (DQ (t:=3) (x:= .vs o (BO ys.reverse).length cp) (Dc ys (l':=ys.reverse) Av)) (BS (Cx (i:=0) [4,25,28,3] O (EH ⟨O,O,O,O,Aw⟩)) (A6 (⟨O,_,_,⟨_,_,O,(BJ (i:=0) Bd O O O),⟨_,_,O,O,O⟩⟩,(List.nil_sublist _),?_⟩))))))))))));rw[hS,SL (Classical.or_iff_not_imp_left.2 fun h=>by simp at h;exact fun e=>absurd (c h) (by simp[e]))]
 all_goals exact⟨rfl,rfl⟩
theorem QL:∀(e:Int),B4 Tryz.prog 174 [.p (I e)] [] (Up (.p (.iface 223 (I e))) []):=by
 intro e;exact BD Tryz.func174 O nS (n:=4) O O (A8 (B6 O (Ay O (SY jy (by intro ms h;cases h) O) (Oe O O (MX O) (⟨O,_,List.nil_sublist _,⟨O,O⟩⟩)))))
theorem S1:∀(e:Int),Et Tryz.prog 154 [.p (.iface 223 (I e))] (.p (I e)):=by
 intro e;refine BD Tryz.func154 O nw (n:=14) O O (A2 BA 1 [] O (A4 (B6 O (Ay O (RM jy O O) (Az BA 5 [] O (A1 (A2 BA 2 [] O ?_)))))));refine A3 O (fun c=>by cases c) (fun c=>?_);refine A7 (A2 BA 2 [] O (A6 (⟨O,_,_,⟨_,_,O,O,O⟩,(List.nil_sublist _),?_⟩)))
 all_goals exact⟨rfl,rfl⟩
theorem fO:∀(k i:Int),Et Tryz.prog 175 [.p (I k),.p (I i)] (.p (I (below k i))):=by
 intro k i;refine BD Tryz.func175 O ot (n:=26) O O (A2 BA 1 [] O (A1 (BH (A1 (A1 (Bi [0,1] 5 (fun y=>y= .p (.bool (((i:Int)==(1:Int))&&((((k:Int)==(5:Int))||((k:Int)==(6:Int)))||((k:Int)==(7:Int)))))) ?_ ?_))))))
 ·refine A8 (A5 BA 3 [] O (Ba 8 O (fun g=>?_) (fun g=>?_)))
  ·(try simp only[sd,se] at g);refine A5 BA 3 [] O (Ba 11 O (fun g1=>?_) (fun g1=>?_))
   ·(try simp only[sd,se] at g1);exact Az BA 9 [] O (⟨O,O,AM,AJ,⟨O,O,Aw⟩⟩)
   (try simp only[sd,se] at g1);refine A5 BA 4 [] O (Ba 15 O (fun g2=>?_) (fun g2=>?_))
   ·(try simp only[sd,se] at g2);exact Az BA 5 [] O (⟨O,O,AM,AJ,⟨O,O,Aw⟩⟩)
   (try simp only[sd,se] at g2);exact Az BA 5 [] O (⟨O,O,AM,AJ,⟨O,O,Aw⟩⟩)
  (try simp only[sd,se] at g);exact Az BA 12 [] O (⟨O,O,AM,AJ,⟨O,O,Aw⟩⟩)
 rintro _ rfl;refine A3 O (fun c=>?_) (fun c=>?_)
 ·(try simp only[sd,se] at c);refine A7 (A3 O (fun c1=>?_) (fun c1=>?_))
  ·(try simp only[sd,se] at c1);refine A2 BA 1 [] O (A6 (⟨O,_,_,⟨_,_,O,O,O⟩,(List.nil_sublist _),?_⟩))
   all_goals exact⟨pI (by unfold below;simp_all),rfl⟩
  (try simp only[sd,se] at c1);refine A7 (A2 BA 1 [] O (A6 (⟨O,_,_,⟨_,_,O,O,O⟩,(List.nil_sublist _),?_⟩)))
  all_goals exact⟨pI (by unfold below;simp_all),rfl⟩
 (try simp only[sd,se] at c);refine Bi [] 5 (fun y=>y= .p (.bool (((i:Int)==(2:Int))&&((k:Int)==(11:Int))))) ?_ ?_
 ·refine A8 (A5 BA 3 [] O (Ba 22 O (fun g=>?_) (fun g=>?_)))
  ·(try simp only[sd,se] at g);exact Az BA 4 [] O ⟨O,O,AM,AJ,Aw⟩
  (try simp only[sd,se] at g);exact Az BA 4 [] O ⟨O,O,AM,AJ,Aw⟩
 rintro _ rfl;refine A3 O (fun c1=>?_) (fun c1=>?_)
 ·(try simp only[sd,se] at c1);refine A2 BA 1 [] O (A6 (⟨O,_,_,⟨_,_,O,O,O⟩,(List.nil_sublist _),?_⟩))
  all_goals exact⟨pI (by unfold below;simp_all),rfl⟩
 (try simp only[sd,se] at c1);refine A7 (A2 BA 1 [] O (A6 (⟨O,_,_,⟨_,_,O,O,O⟩,(List.nil_sublist _),?_⟩)))
 all_goals exact⟨pI (by unfold below;simp_all),rfl⟩
theorem WK:∀(i:Int),B4 Tryz.prog 163 [.p (I i)] [] (LK (fun(r:Tm)=>TV r) (fun e=> .p (.iface 223 (I e))) (fun r H'=>H'=[]) (Ip i)):=by
 intro i;refine BD Tryz.func163 O l6 (n:=8) O O (A4 (BP O (BF B8 O) fun b2=>Bt O (A1 (A2 BA 2 [] O (A3 O (fun c=>?_) (fun c=>?_))))))
 ·(try simp only[sd,se] at c);refine A8 (OX O O O (.inl ⟨O,O,O⟩) (QL 24) (aw (we O) (FH)) ?_);exact⟨O,_,List.nil_sublist _,⟨_,by unfold Ip;rw[if_pos Au],rfl⟩⟩
 (try simp only[sd,se] at c);refine A7 (A2 BA 3 [0,0] O (BS (Bj (i:=0) O) (A6 (⟨O,_,_,⟨_,_,O,(BJ (i:=0) Bd O O O),O⟩,(List.nil_sublist _),?_⟩))));exact⟨(.mk 0 i ⟨#[]⟩ [] []:Tm),by unfold Ip;rw[if_neg Au];rfl,rfl,rfl⟩
theorem ea:∀(bc:Nat) (n m:Int),B4 Tryz.prog 157 [.ptr bc 0,.p (I m)] [.box bc [.p (I n)]] (LK (fun(r:Int)=> .tup []) (fun e=> .p (.iface 223 (I e))) (fun r H'=>H'=[.box bc [.p (I r)]]) (Wq n m)):=by
 intro bc n m;refine BD Tryz.func157 O pH (n:=18) O O (A4 (A5 BA 5 [0] O (Ay O (EU O O) (Az BA 3 [0,0] O (A2 BA 5 [0] O (A3 O (fun c=>?_) (fun c=>?_)))))))
 ·(try simp only[sd,se] at c);refine A8 (OX O O O (.inl ⟨O,O,O⟩) (QL 5) (aw (we O) (FH)) ?_);exact⟨O,_,List.nil_sublist _,⟨_,by unfold Wq;rw[if_pos Au],rfl⟩⟩
 (try simp only[sd,se] at c);refine A7 ⟨O,_,_,O,(CJ (is:=[0]) O),?_⟩;exact⟨(wr (n+m)),by unfold Wq;rw[if_neg Au],rfl,rfl⟩
theorem _root_.Go.AK {α:Prop}(h:α:=by simp only[List.length_map,List.length_take,List.length_cons,List.length_nil];omega):α:=h
theorem Qy:∀(t:Tm),(Nd t)→Et Tryz.prog 162 [.agg ((Bg t).map .p)] (.agg ((Bg (PF t)).map .p)):=by
 intro t h1;obtain⟨tk,ti,tn,tl,ts⟩:=t;simp only[Nd,Dt] at h1;refine BD Tryz.func162 O jf (n:=33) O O (A4 (BP O (Bf O) fun b1=>BP O (BF B8 O) fun b2=>Bt O (A4 (A5 BA 7 [1,1,1] O (BP O (BF B8 O) fun b3=>Az BA 1 [0,0] O (A1 (A4 (CH (Hw (i:=0) O (YA (aw (we O) (aw (we O) (aw (we O) (aw (JJ) (aw (we O) (FH)))))))) (CH (H8 (sz:=2)) (A5 BA 2 [3] O (Ay O (BZ En O (List.length_map _)) (Az BA 1 [] O (BH ?_)))))))))))));refine Bo (α:=Nat×Option Nat×Nat) (fun(i,o,cp)=>⟨33,mk [(2,.ptr b2 0),(3,.ptr b3 0),(14,.p (.lst (List.map CE tl))),(15,.p (I (tl.length:Nat))),(16,.p (I (i:Int)))],[.vec o 2 (List.map CE (tl.take i)) cp,.box b3 [.p (I tk),.p (I ti),.p (.str tn),.vs o (List.map CE (tl.take i)).length cp,.p (.nils)],.box b2 [.p (I 0),.p (I 0),.p (.str ⟨#[]⟩),.p (.nils),.p (.nils)]],[]⟩) (fun(i,o,cp)=>tl.length - i) (fun(i,o,cp)=>i≤tl.length) ⟨0,none,0⟩ AQ ?_ ?_
 ·exact Bk ⟨we O,we O,we O,we O,we O,Aw⟩ (leH (is:=[0,1,2]) O (wl (oe O) (wl (oe O) (wl (oe O) (DN)))))
 rintro⟨i,o,cp⟩ hC
 try simp only at hC
 have hi:=hC;refine A2 BA 1 [] O (A1 (A3 O (fun c=>?_) (fun c=>?_)))
 ·(try simp only[sd,se] at c);refine A7 (A1 (BH (A4 ?_)));obtain⟨x,hx⟩:=BE (l:=tl) (i:=i) Au;refine Ay O (BC En O O Au (GC hx) (DT _)) (Ay O (BQ DY O (DT _)) (BP O (BF Ef O) fun b5=>Az BA 1 [0,0] O (B7 (fun k=>Nat.beq k 9) D7 (A0 O (fun _=>Ax DV O O) Aw (BT (j:=2) O O O (fun H i hi=>BG (i:=i) UO O hi O) AB Aw (A0 O (fun _=>Ax Ea O O) Aw (BT (j:=0) O O O (fun H i hi=>BG (i:=i) C0 O hi O) AB Aw (A0 O (fun _=>Ax Ea O O) Aw (BT (j:=0) O O O (fun H i hi=>BG (i:=i) Fp O hi O) AB Aw (A0 O (fun _=>L6 (rows':=List.map EF x.vars) Ck Ck FZ O O (fun _ _ _ h=>Ux h) O (Ga _) (by have:=h1.2.2.1 x (List.mem_of_getElem? hx);have:=this.1;simp only[Dt] at this;simp only[List.length_map];omega)) Aw ?_))))))))));refine A0 O (fun _=>CB Ea Ef O) Aw (A0 O (fun _=>B0 En Ef O O O O O) Aw (LS [] O O (Cb (i:=1) (rows':=List.map CE [(Cl.mk x.const x.vars)]) En En Ef O O O O O O (Mh _) AK (GW (f:=CE) (tl.take i) [(Cl.mk x.const x.vars)])) Ap fun o1 cp1=>⟨AB,Aw,?_⟩));refine A0 O (fun _=>Ax DV O O) Aw (CF O O (CO (i:=2) UO O O O O O O) AB Aw (Bv O Ap (A8 (Az BA 2 [] O ?_))));refine⟨⟨i+1,o1,cp1⟩,AU,by omega,Bk ⟨we rfl,we rfl,we rfl,we rfl,we rfl,trivial⟩ (leH (is:=[1,2,3]) rfl (wl (F5 (f:=CE) (tl.take i++[(Cl.mk x.const x.vars)]) (by rw[List.take_add_one,hx];rfl)) (wl (YA (aw (we rfl) (aw (we rfl) (aw (we rfl) (aw (we (Gg (f:=CE) (tl.take i++[(Cl.mk x.const x.vars)]) (by rw[List.take_add_one,hx];rfl))) (aw (we rfl) (FH))))))) (wl (oe rfl) (DN)))))⟩
 (try simp only[sd,se] at c);refine Br (A4 (CH (Df (i:=0) (j:=1) (q:=3) [] O O O (EH Aw)) (Az BA 2 [0,1,0] O (BS (Bj (i:=1) O) (A6 (⟨O,_,_,⟨_,_,O,(BJ (i:=1) Bd O O O),O⟩,(List.nil_sublist _),?_⟩))))))
 all_goals exact⟨by show (.agg [.p (I tk),.p (I ti),.p (.str tn),.p (.lst (List.map CE (tl.take i))),.p (.lst [])]:AV)=_;rw[show i=tl.length by omega,List.take_length];rfl,rfl⟩
theorem N7:∀{σ:Type}(vis:σ→Tm→Int→Except Int ((Tm×Bool)×σ)) (HP:σ→List BU→Prop) (fid:Nat) (caps:List AV) (hv:∀(s:σ) (t:Tm) (d:Int) (T:List BU),Nd t→Vp t→0≤d→d<Dt→HP s T→B4 Tryz.prog fid ([TV t,.p (I d)]++caps) T (LK (fun(r:(Tm×Bool)×σ)=> .tup [TV r.1.1,.p (.bool r.1.2)]) (fun e=> .p (.iface 223 (I e))) (fun r=>HP r.2) (vis s t d))) (n:Nat) (t:Tm) (d:Int) (s:σ) (T0:List BU),size t≤n→Nd t→Vp t→0≤d→d+size t<Dt→HP s T0→B4 Tryz.prog 158 [.agg [.fn (.func fid) [] caps],TV t,.p (I d)] T0 (LK (fun(r:Tm×σ)=>TV r.1) (fun e=> .p (.iface 223 (I e))) (fun r=>HP r.2) (EL vis t d s)):=by
 intro σ vis HP fid caps hv n
 induction n with
 | zero=>intro t d s T0 h1;exact absurd h1 (by have:=size_pos t;omega)
 | succ n ih =>
  intro t d s T0 h1 h2 h3 h4 h5 h6;simp only[Dt] at h5;refine BD Tryz.func158 O nP (n:=54) O O (A4 (BP O (Bf O) fun b3=>BP O (Bf O) fun b4=>BP O (BF B8 O) fun b6=>Bt O (A4 (A5 BA 4 [2,1] O (jg [_,_,_] O O O (.inr O) (hv s t d T0 h2 h3 h4 (by simp only[Dt];have:=size_pos t;omega) h6) (Dm _) ?_ ?_)))))
  rotate_left
  ·intro e _ he;exact⟨O,_,List.nil_sublist _,⟨_,Hu he,O⟩⟩
  rintro⟨⟨z,dn⟩,q⟩ T hz hT;refine A5 BA 3 [] O (BP O (BF B8 O) fun b7=>Az BA 2 [0,1] O (A1 (A2 BA 1 [] O (A3 O (fun c=>?_) (fun c=>?_)))))
  ·(try simp only[sd,se] at c);refine A2 BA 2 [0,1,1] O (A6 (⟨O,_,_,⟨_,_,O,(BJ (i:=1) Bd O O Am),O⟩,(Gz [] [_,_,_,_] O),?_⟩));exact⟨⟨z,q⟩,Gb (by rw[hz,c]),O,hT⟩
  (try simp only[sd,se] at c);refine A7 (A4 (Ay O (Ax DV O O) ?_));obtain⟨zk,zi,zn,zl,zs⟩:=z;refine Az BA 1 [0,0] O (A1 (A4 (Ay O (Ax DV O O) ?_)));obtain⟨tk,ti,tn,tl,ts⟩:=t;simp only[size] at h1 h5;have hn2:=h2;simp only[Nd,Dt] at hn2;refine Ay O (BG (i:=2) E9 O O O) (Ay O (BZ Bq O (Bh _)) (Az BA 1 [] O (A3 O (fun c1=>?_) (fun c1=>?_))))
  ·(try simp only[sd,se] at c1);refine A4 (A5 BA 2 [2] O (Ay O (BZ Bq O (Bh _)) (SI O O (L3 Bq B8 O O As O O O Au Au Au (mi (((ts.length:Nat):Int).toNat) (.mk 0 0 ⟨#[]⟩ [] []:Tm))) fun b29 cp=>Az BA 2 [1,0] O (A4 (A5 BA 2 [3] O (Ay O (BZ Bq O (Bh _)) (Az BA 1 [] O (BH ?_))))))));refine Bo (α:=Nat×List Tm×σ×List BU×Option Nat×Nat) (fun(i,ys,q1,U,o,cp1)=>⟨54,mk [(2,.p (I d)),(3,.ptr b3 0),(4,.ptr b4 0),(6,.ptr b6 0),(7,.ptr b7 0),(32,.p (.lst (BO ts))),(33,.p (I (ts.length:Nat))),(34,.p (I (i:Int)))],(.vec o 5 (BO (ys++List.replicate (ts.length - i) Bu)) cp1:: .box b7 [.p (I zk),.p (I zi),.p (.str zn),.p (.lst (List.map CE zl)),.vs o (BO (ys++List.replicate (ts.length - i) Bu)).length cp1]:: .box b6 [.p (I 0),.p (I 0),.p (.str ⟨#[]⟩),.p (.nils),.p (.nils)]:: .box b4 [.p (I tk),.p (I ti),.p (.str tn),.p (.lst (List.map CE tl)),.p (.lst (BO ts))]:: .box b3 [.fn (.func fid) [] caps]::U),[]⟩) (fun(i,ys,q1,U,o,cp1)=>ts.length - i) (fun(i,ys,q1,U,o,cp1)=>i≤ts.length∧(R7 vis tk ts d q i ys q1∧HP q1 U)) ⟨0,[],q,T,(some b29),cp⟩ (⟨by omega,R7.zero _ _ _ _,hT⟩) ?_ ?_
   ·exact Bk ⟨we O,we O,we O,we O,we O,we O,we O,we O,Aw⟩ (Yx [0,1,2,3,4] [_,_,_,_,_] (l':=[_,_,_,_,_]) O (wl (oe O) (wl (oe O) (wl (oe O) (wl (oe O) (wl (oe O) (DN)))))))
   rintro⟨i,ys,q1,U,o,cp1⟩ hC
   try simp only at hC
   obtain⟨hi,hB,hU⟩:=hC;have hbl:=DK tk i;refine A2 BA 1 [] O (A1 (A3 O (fun c2=>?_) (fun c2=>?_)))
   ·(try simp only[sd,se] at c2);refine A7 (A1 (BH (A4 (B6 O ?_))));obtain⟨x,hx⟩:=BE (l:=ts) (i:=i) Au;refine Ay O (BC Bq O O Au (Bn hx) (BL _)) (Ay O (BQ Bd O (BL _)) (BP O (BF B8 O) fun b10=>Az BA 2 [0,1] O (MJ (i:=1) O Ac fun b hb=>?_)));subst hb;refine B7 (fun k=>Nat.beq k 11) D7 (A0 O (fun _=>Ax DV O O) Aw (BT (j:=2) O O O (fun H i hi=>BG (i:=i) E9 O hi O) AB Aw (A0 O (fun _=>BB O) Aw (BT (j:=5) O O O (fun H i hi=>BI (i:=i) j5 O hi O) AB Aw (BT (j:=0) O O O (fun H i hi=>BI (i:=i) Bd O hi Am) AB Aw (A0 O (fun _=>BB O) Aw (A0 O (fun _=>Ax DV O O) Aw (BT (j:=4) O O O (fun H i hi=>BG (i:=i) C0 O hi O) AB Aw (A0 O (fun _=>BB O) Aw (A0 O (fun _=>BN O O (fO tk (i:Int)) O) Aw (A0 O (fun _=>ET O O Au Au) Aw ?_)))))))))));refine pE [_,_,_,_,_,_] O O O (.inl ⟨O,O,O⟩) (ih x (d+below tk i) q1 U (by have:=Cs hx;omega) (Di h2.2.2.2.2.1 hx) (Mr h3.2 hx) (by have:=(DK tk i).1;omega) (by have:=Cs hx;have:=DK tk i;simp only[Dt];omega) hU) (Dm _) Ap Ap O AB ?_ ?_
    rotate_left
    ·intro e he _ _ hτ;exact⟨O,_,List.nil_sublist _,⟨_,J0 (by rw[hz,c]) (hB.err hx he),O⟩⟩
    rintro⟨y,q2⟩ T1 hz1 hT1;refine⟨AB,Aw,?_⟩;refine A0 O (fun _=>DE Bq O O Au (by simp only[Bh,List.length_append,List.length_replicate,hB.1];omega)) Aw (CF O O (Eh (i:=1) (j:=i) Bd O O O (by simp only[Bh,List.length_append,List.length_replicate,hB.1];omega) O (Ka _) (BL _) (C5 _) (TF (ys++List.replicate (ts.length - i) Bu) i y)) AB Aw (Bv O Ap (A8 (Az BA 2 [] O ?_))));refine⟨⟨i+1,ys++[y],q2,T1,(some b),cp1⟩,AU,⟨by omega,⟨hB.succ hx hz1,hT1⟩⟩,Bk ⟨we rfl,we rfl,we rfl,we rfl,we rfl,we rfl,we rfl,we rfl,trivial⟩ (Yx [1,2,3,4,5] [_,_,_,_,_,_] (l':=[_,_,_,_,_]) rfl (wl (KA ((ys++List.replicate (ts.length - i) Bu).set i y) (by rw[fB hB.1 Au];congr 2)) (wl (YA (aw (we rfl) (aw (we rfl) (aw (we rfl) (aw (we rfl) (aw (we (Dc (ys++List.replicate (ts.length - i) Bu) Ao)) (FH))))))) (wl (oe rfl) (wl (oe rfl) (wl (oe rfl) (DN)))))))⟩
   (try simp only[sd,se] at c2);refine Br (A4 (CH (Df (i:=0) (j:=1) (q:=4) [] O O O (EH Aw)) (Az BA 2 [0,1,0] O (A6 (⟨O,_,_,⟨_,_,O,(BJ (i:=1) Bd O O O),O⟩,(Gz [] [_,_,_,_] O),?_⟩)))));rw[show ts.length - i=0 by omega,List.replicate_zero,List.append_nil];exact⟨⟨.mk zk zi zn zl ys,q1⟩,IW (by rw[hz,c]) (hB.fin Au),O,hU⟩
  (try simp only[sd,se] at c1);refine A7 (A2 BA 2 [0,1,0] O (BS (Bj (i:=1) O) (A6 (⟨O,_,_,⟨_,_,O,(BJ (i:=1) Bd O O O),O⟩,(Gz [] [_,_,_,_] O),?_⟩))));exact⟨⟨.mk zk zi zn zl [],q⟩,IW (o:= .mk zk zi zn zl zs) (q:=q) (ys:=[]) (by rw[hz,c]) (by rw[show ts=[] by (cases ts with | nil=>rfl | cons a b=>simp at c1;omega)];rfl),O,hT⟩
theorem cZ:∀(t:Tm),(Nd t)→B4 Tryz.prog 162 [.agg ((Bg t).map .p)] [] (jU (fun p:Option Nat×Nat=> .agg [.p (I t.kind),.p (I t.index),.p (.str t.name),.vs p.1 (List.map CE t.levels).length p.2,.p (.lst [])]) (fun p=>[.vec p.1 2 (List.map CE t.levels) p.2])):=by
 intro t h1;obtain⟨tk,ti,tn,tl,ts⟩:=t;simp only[Nd,Dt] at h1;refine BD Tryz.func162 O jf (n:=33) O O (A4 (BP O (Bf O) fun b1=>BP O (BF B8 O) fun b2=>Bt O (A4 (A5 BA 7 [1,1,1] O (BP O (BF B8 O) fun b3=>Az BA 1 [0,0] O (A1 (A4 (CH (Hw (i:=0) O (YA (aw (we O) (aw (we O) (aw (we O) (aw (JJ) (aw (we O) (FH)))))))) (CH (H8 (sz:=2)) (A5 BA 2 [3] O (Ay O (BZ En O (List.length_map _)) (Az BA 1 [] O (BH ?_)))))))))))));refine Bo (α:=Nat×Option Nat×Nat) (fun(i,o,cp)=>⟨33,mk [(2,.ptr b2 0),(3,.ptr b3 0),(14,.p (.lst (List.map CE tl))),(15,.p (I (tl.length:Nat))),(16,.p (I (i:Int)))],[.vec o 2 (List.map CE (tl.take i)) cp,.box b3 [.p (I tk),.p (I ti),.p (.str tn),.vs o (List.map CE (tl.take i)).length cp,.p (.nils)],.box b2 [.p (I 0),.p (I 0),.p (.str ⟨#[]⟩),.p (.nils),.p (.nils)]],[]⟩) (fun(i,o,cp)=>tl.length - i) (fun(i,o,cp)=>i≤tl.length) ⟨0,none,0⟩ AQ ?_ ?_
 ·exact Bk ⟨we O,we O,we O,we O,we O,Aw⟩ (leH (is:=[0,1,2]) O (wl (oe O) (wl (oe O) (wl (oe O) (DN)))))
 rintro⟨i,o,cp⟩ hC
 try simp only at hC
 have hi:=hC;refine A2 BA 1 [] O (A1 (A3 O (fun c=>?_) (fun c=>?_)))
 ·(try simp only[sd,se] at c);refine A7 (A1 (BH (A4 ?_)));obtain⟨x,hx⟩:=BE (l:=tl) (i:=i) Au;refine Ay O (BC En O O Au (GC hx) (DT _)) (Ay O (BQ DY O (DT _)) (BP O (BF Ef O) fun b5=>Az BA 1 [0,0] O (B7 (fun k=>Nat.beq k 9) D7 (A0 O (fun _=>Ax DV O O) Aw (BT (j:=2) O O O (fun H i hi=>BG (i:=i) UO O hi O) AB Aw (A0 O (fun _=>Ax Ea O O) Aw (BT (j:=0) O O O (fun H i hi=>BG (i:=i) C0 O hi O) AB Aw (A0 O (fun _=>Ax Ea O O) Aw (BT (j:=0) O O O (fun H i hi=>BG (i:=i) Fp O hi O) AB Aw (A0 O (fun _=>L6 (rows':=List.map EF x.vars) Ck Ck FZ O O (fun _ _ _ h=>Ux h) O (Ga _) (by have:=h1.2.2.1 x (List.mem_of_getElem? hx);have:=this.1;simp only[Dt] at this;simp only[List.length_map];omega)) Aw ?_))))))))));refine A0 O (fun _=>CB Ea Ef O) Aw (A0 O (fun _=>B0 En Ef O O O O O) Aw (LS [] O O (Cb (i:=1) (rows':=List.map CE [(Cl.mk x.const x.vars)]) En En Ef O O O O O O (Mh _) AK (GW (f:=CE) (tl.take i) [(Cl.mk x.const x.vars)])) Ap fun o1 cp1=>⟨AB,Aw,?_⟩));refine A0 O (fun _=>Ax DV O O) Aw (CF O O (CO (i:=2) UO O O O O O O) AB Aw (Bv O Ap (A8 (Az BA 2 [] O ?_))));refine⟨⟨i+1,o1,cp1⟩,AU,by omega,Bk ⟨we rfl,we rfl,we rfl,we rfl,we rfl,trivial⟩ (leH (is:=[1,2,3]) rfl (wl (F5 (f:=CE) (tl.take i++[(Cl.mk x.const x.vars)]) (by rw[List.take_add_one,hx];rfl)) (wl (YA (aw (we rfl) (aw (we rfl) (aw (we rfl) (aw (we (Gg (f:=CE) (tl.take i++[(Cl.mk x.const x.vars)]) (by rw[List.take_add_one,hx];rfl))) (aw (we rfl) (FH))))))) (wl (oe rfl) (DN)))))⟩
 (try simp only[sd,se] at c);refine Br (A2 BA 2 [1,2,0] O (BS (Bj (i:=2) O) (A6 (⟨O,_,_,⟨_,_,O,(BJ (i:=2) Bd O O O),O⟩,(CJ (is:=[0]) O),?_⟩))));have htk:tl.take i=tl:=List.take_of_length_le Au;exact⟨(o,cp),by rw[htk];simp[Tm.kind,Tm.index,Tm.name,Tm.levels,splice,dn],by rw[htk];rfl⟩
theorem dE:∀(tk ti:Int) (tn:ByteArray) (tl:List Cl) (ts:List Tm),Nd (.mk tk ti tn tl ts)→B4 Tryz.prog 162 [TV (.mk tk ti tn tl ts)] [] (jU (fun p:Option Nat×Nat=> .agg [.p (I tk),.p (I ti),.p (.str tn),.vs p.1 (List.map CE tl).length p.2,.p (.lst [])]) (fun p=>[.vec p.1 2 (List.map CE tl) p.2])):=fun tk ti tn tl ts h=>cZ _ h
theorem lf:∀(l:Cl) (ps:List Cl),(M6 l)→(ps.length<Dt)→(∀p∈ps,M6 p)→Et Tryz.prog 165 [.agg ((CE l).map .p),.ref [.lst (List.map CE ps)]] (.tup [.agg ((CE ((DB l ps).1)).map .p),.p (I ((DB l ps).2))]):=by
 intro l ps h1 h2 h3;refine BD Tryz.func165 O lx (n:=10) O O (A4 (BP O (Bf O) fun b2=>BP O (BF Ef O) fun b3=>Az BA 1 [] O (A4 (A5 BA 2 [1] O (Ay O (BN O O (Zz l ps h1 h2 h3) O) (Az BA 4 [0,1] O (A6 (⟨O,_,_,⟨_,_,O,(BJ (i:=0) DY O O Al),⟨_,_,O,O,O⟩⟩,(List.nil_sublist _),?_⟩))))))))
 all_goals exact⟨by show (.tup [.agg ((CE ((Is l ps).1)).map .p),.p (I ((Is l ps).2))]:AV)=_;rw[Zo],rfl⟩
theorem kn:∀(bR:Nat) (ps:List Cl) (s:Unit) (t:Tm) (d:Int),(Nd t)→(ps.length<Dt)→(∀p∈ps,M6 p)→B4 Tryz.prog 179 [.agg ((Bg t).map .p),.p (I d),.ptr bR 0] [.box bR [.fn (.func 165) [] [.ref [.lst (List.map CE ps)]]]] (LK (fun(r:(Tm×Bool)×Unit)=> .tup [TV r.1.1,.p (.bool r.1.2)]) (fun e=> .p (.iface 223 (I e))) (fun r H'=>H'=[.box bR [.fn (.func 165) [] [.ref [.lst (List.map CE ps)]]]]) (U7 ps s t d)):=by
 intro bR ps s t d h1 h2 h3;obtain⟨tk,ti,tn,tl,ts⟩:=t;have hn:=h1;simp only[Nd,Dt] at hn;refine BD Tryz.func179 O nh (n:=39) O O (A4 (BP O (Bf O) fun b3=>BP O (BF B8 O) fun b5=>Az BA 1 [] O (A4 (Ay O (BI (i:=1) Bd O O O) (ZS O O O (.inl ⟨O,O,O⟩) (dE tk ti tn tl ts h1) (Dm _) fun vv=>?_)))));obtain⟨ov,cv⟩:=vv;refine BP O (BF B8 O) fun b7=>Az BA 1 [0,0] O (A1 (A4 (A5 BA 2 [3] O (Ay O (BZ En O (List.length_map _)) (Az BA 1 [] O (BH ?_))))));refine Bo (α:=Nat×List Cl×Option Nat×Nat) (fun(i,ys,o,cp)=>⟨39,mk [(2,.ptr bR 0),(5,.ptr b5 0),(7,.ptr b7 0),(15,.p (.lst (List.map CE tl))),(16,.p (I (tl.length:Nat))),(17,.p (I (i:Int)))],[.box b7 [.p (I tk),.p (I ti),.p (.str tn),.vs o (List.map CE (ys++tl.drop i)).length cp,.p (.lst (BO []))],.vec o 2 (List.map CE (ys++tl.drop i)) cp,.box b5 [.p (I 0),.p (I 0),.p (.str ⟨#[]⟩),.p (.nils),.p (.nils)],.box bR [.fn (.func 165) [] [.ref [.lst (List.map CE ps)]]]],[]⟩) (fun(i,ys,o,cp)=>tl.length - i) (fun(i,ys,o,cp)=>i≤tl.length∧(ys.length=i∧Ix ps tl=Np ys (Ix ps (tl.drop i)))) ⟨0,[],ov,cv⟩ (⟨by omega,rfl,Z0 _⟩) ?_ ?_
 ·exact Bk ⟨we O,we O,we O,we O,we O,we O,Aw⟩ (leH (is:=[0,1,2,4]) O (wl (oe O) (wl (oe O) (wl (oe O) (wl (oe O) (DN))))))
 rintro⟨i,ys,o,cp⟩ hC
 try simp only at hC
 obtain⟨hi,hl,hC⟩:=hC;refine A2 BA 1 [] O (A1 (A3 O (fun c=>?_) (fun c=>?_)))
 ·(try simp only[sd,se] at c);refine A7 (A1 (BH (A4 (B6 O ?_))));obtain⟨x,hx⟩:=BE (l:=tl) (i:=i) Au;refine Ay O (BC En O O Au (GC hx) (DT _)) (Ay O (BQ DY O (DT _)) (BP O (BF Ef O) fun b9=>Az BA 2 [0,1] O (A4 (A5 BA 2 [4,0] O (Ay O (gU O O (lf x ps (hn.2.2.1 _ (List.mem_of_getElem? hx)) h2 h3) (.inl O)) (A5 BA 3 [] O (BP O (BF Ef O) fun b10=>Az BA 2 [0,1] O (A1 (A2 BA 2 [] O (A3 O (fun c1=>?_) (fun c1=>?_)))))))))))
  ·(try simp only[sd,se] at c1);exact A8 (B6 O (OX O O O (.inl ⟨O,O,O⟩) (QL ((DB x ps).2)) (aw (we O) (FH)) (⟨O,_,List.nil_sublist _,⟨_,iZ (hC.trans (lU hx Au)),O⟩⟩)))
  (try simp only[sd,se] at c1);refine A7 (A8 (A5 BA 4 [2,0] O (MZ (i:=3) O Ac fun b hb=>?_)));subst hb;refine Ay O (DE En O O Au (by first | omega | (simp;omega))) (Ay O (Eh (i:=3) (j:=i) DY O O O (by first | omega | (simp;omega)) O (Zl _) (DT _) (ZH _) (dO (f:=CE) (ys++tl.drop i) i ((DB x ps).1))) (Bt O (A8 (Az BA 2 [] O (⟨⟨i+1,ys++[(DB x ps).1],(some b),cp⟩,AU,⟨by omega,⟨by simp[hl],hC.trans (kr hx Au)⟩⟩,Bk ⟨we rfl,we rfl,we rfl,we rfl,we rfl,we rfl,trivial⟩ (leH (is:=[2,3,4,5]) rfl (wl (YA (aw (we rfl) (aw (we rfl) (aw (we rfl) (aw (we (Sn (f:=CE) (ys++tl.drop i) Ao)) (aw (we rfl) (FH))))))) (wl (F5 (f:=CE) ((ys++tl.drop i).set i ((DB x ps).1)) (by rw[set_drop hl hx])) (wl (oe rfl) (wl (oe rfl) (DN))))))⟩)))))
 (try simp only[sd,se] at c);refine Br (A4 (CH (Df (i:=1) (j:=0) (q:=3) [] O O O (EH Aw)) (Az BA 3 [0,1,0] O (A6 (⟨O,_,_,⟨_,_,O,(BJ (i:=1) Bd O O O),⟨_,_,O,O,O⟩⟩,(CJ (is:=[2]) O),?_⟩)))));rw[List.drop_eq_nil_of_le Au,List.append_nil];exact⟨⟨⟨.mk tk ti tn ys [],false⟩,()⟩,kD (lj hC Au),O,O⟩
theorem iz:∀(bo be:Nat) (co ce:List AV),E8 Tryz.prog 178 [.ptr bo 0,.ptr be 0] (.ret) [.box bo co,.box be ce] (fun H'=>H'=[.box bo co,.box be ce]):=by
 intro bo be co ce;refine H7 (ty2:=0) Tryz.func178 O jq (n:=9) O O O O O O (A4 (B6 O (Ay O (HU aM O O O) (Bt O ?_))));refine A3 O (fun c=>by cases c) (fun c=>?_);exact A7 ⟨.inl O,O,_,(CJ (is:=[0,1]) O),O⟩
theorem iR:∀(bo be:Nat) (e:Int),E8 Tryz.prog 178 [.ptr bo 0,.ptr be 0] (.pan (.p (.iface 223 (I e)))) [.box bo [.p (I 0),.p (I 0),.p (.str ⟨#[]⟩),.p (.nils),.p (.nils)],.box be [.p (I 0)]] (fun H'=>H'=[.box bo [.p (I 0),.p (I 0),.p (.str ⟨#[]⟩),.p (.lst []),.p (.lst [])],.box be [.p (I e)]]):=by
 intro bo be e;refine H7 (ty2:=0) Tryz.func178 O jq (n:=9) O O O O O O (A4 (B6 O (Ay O (HU aM O O O) (CH (Bj (i:=0) O) (Bt O ?_)))));refine A3 O (fun c=>?_) (fun c=>by cases c);exact A8 (A5 BA 2 [] O (Ay O (BN O O (S1 _) O) (A5 BA 2 [0,0,1,0] O (CH (Bj (i:=0) O) (Bt O ⟨.inl O,O,_,(CJ (is:=[0,1]) O),O⟩)))))
set_option maxHeartbeats 2000000 in
theorem X7:∀(t:Tm) (ps:List Cl),(Nd t)→(Vp t)→(size t<1099511627776)→(ps.length<Dt)→(∀p∈ps,M6 p)→Et Tryz.prog 164 [.agg ((Bg t).map .p),.fn (.func 165) [] [.ref [.lst (List.map CE ps)]]] (.tup [.agg ((Bg ((B1 t ps).1)).map .p),.p (I ((B1 t ps).2))]):=by
 intro t ps h1 h2 h3 h4 h5;refine Fs Tryz.func164 O mY (n:=11) O O (A4 (BP O (Bf O) fun b2=>BP O (Bf O) fun b3=>BP O (BF B8 O) fun b4=>BP O (BF bj O) fun b5=>Bt O (A4 (Ay O (E0 O O) (OV O O O O (Bt O (A4 (A5 BA 3 [3] O ?_))))))));refine D8 [2] O O O (.inl ⟨O,O,O⟩) (N7 (U7 ps) (fun _ T=>T=[.box b3 [.fn (.func 165) [] [.ref [.lst (List.map CE ps)]]]]) 179 [.ptr b3 0] (fun s t d T hn hp h0 hb hT=>by subst hT;exact kn b3 ps s t d hn h4 h5) _ t 0 () _ (Nat.le_refl _) h1 h2 Au Ad rfl) ⟨_,_,rfl,rfl,rfl⟩ As (Dm _) (fun _ _ h=>(congrArg List.length h).trans rfl) ?_ ?_
 rotate_left
 ·intro e _ he;refine⟨_,_,_,O,MW (is:=[1,0]) _ As ⟨_,_,O,O,⟨_,_,O,O,O⟩⟩,E8.eq (iR b4 b5 _) ?_⟩;refine⟨_,[],⟨_,_,O,(BJ (i:=0) Bd O O O),⟨_,_,O,(G7 (i:=1) SP O O),O⟩⟩,(List.nil_sublist _),?_⟩;rw[Vi ((Ow t 0).symm.trans he)];exact⟨O,O⟩
 rintro⟨z,_⟩ _ hz rfl;refine Az BA 2 [1,1,0,0] O (A6 (⟨_,_,_,O,Dj (is:=[1,0]) As ⟨_,_,O,O,⟨_,_,O,O,O⟩⟩,E8.eq (iz b4 b5 _ _) ?_⟩));refine⟨_,_,⟨_,_,O,(BJ (i:=0) Bd O O Am),⟨_,_,O,(G7 (i:=1) SP O O),O⟩⟩,(List.nil_sublist _),?_⟩;rw[X0 ((Ow t 0).symm.trans hz)]
 all_goals exact⟨rfl,rfl⟩
theorem MP:∀(t:Tm) (ps:List Cl),(Nd t)→(Vp t)→(size t<1099511627776)→(ps.length<Dt)→(∀p∈ps,M6 p)→Et Tryz.prog 138 [.agg ((Bg t).map .p),.p (.lst (List.map CE ps))] (.tup [.agg ((Bg ((B1 t ps).1)).map .p),.p (I ((B1 t ps).2))]):=by
 intro t ps h1 h2 h3 h4 h5;refine BD Tryz.func138 O nr (n:=11) O O (A4 (BP O (Bf O) fun b2=>BP O (Bf O) fun b3=>BP O (BF B8 O) fun b4=>Az BA 1 [] O (A4 (CH (PK (i:=1) (cs:=[.lst (List.map CE ps)]) [3] O (EH ⟨O,Aw⟩)) (A5 BA 2 [1] O (Ay O (BN O O (X7 t ps h1 h2 h3 h4 h5) O) (Az BA 4 [0,1] O (A6 (⟨O,_,_,⟨_,_,O,(BJ (i:=0) Bd O O Am),⟨_,_,O,O,O⟩⟩,(List.nil_sublist _),?_⟩)))))))))
 all_goals exact⟨rfl,rfl⟩
theorem WB:∀(t:Tm),(Nd t)→(size t<1000000)→Et Tryz.prog 115 [.agg ((Bg t).map .p)] (.tup [.p (.lst (BO ((HL t).1))),.agg ((Bg ((HL t).2)).map .p)]):=by
 intro t h1 h2;refine BD Tryz.func115 O jo (n:=27) O O (A4 (BP O (Bf O) fun b1=>Va O (BP O (BF B8 O) fun b3=>Bt O (A2 BA 1 [] O (A1 (BH (BS (EY (t:=4) (sz:=5) O) ?_)))))));refine Bo (α:=Tm×List Tm×Option Nat×Nat) (fun(y,l,o,cp)=>⟨27,mk [(1,.ptr b1 0),(3,.ptr b3 0),(4,.vs o (BO l).length cp)],[.vec o 5 (BO l) cp,.box b3 [.p (I 0),.p (I 0),.p (.str ⟨#[]⟩),.p (.nils),.p (.nils)],.box b1 ((Bg y).map .p)],[]⟩) (fun(y,l,o,cp)=>size y) (fun(y,l,o,cp)=>Nd y∧l.length+size y≤size t∧(l++(HL y).1,(HL y).2)=HL t) ⟨t,[],none,0⟩ (⟨h1,by simp,by simp⟩) ?_ ?_
 ·exact Bk ⟨we O,we O,we O,Aw⟩ (leH (is:=[0,1,2]) O (wl (oe O) (wl (oe O) (wl (oe O) (DN)))))
 rintro⟨y,l,o,cp⟩ hC
 try simp only at hC
 have hl0:l.length<1000000:=by have:=hC.2.1;omega
 refine A1 (A1 ?_);obtain⟨yk,yi,yn,yl,ys⟩:=y;refine Bi [1,3,4] 13 (fun y=>y= .p (.bool (((yk:Int)==(6:Int))&&(((ys.length:Nat):Int)==(2:Int))))) ?_ ?_
 ·refine A8 (A5 BA 4 [2] O (Ba 8 O (fun g=>?_) (fun g=>?_)))
  ·(try simp only[sd,se] at g);exact A5 BA 2 [2] O (BM O (BZ Bq O (Bh _)) (Az BA 2 [] O (⟨O,O,AM,AJ,⟨O,O,O,Aw⟩⟩)))
  (try simp only[sd,se] at g);exact Az BA 5 [] O (⟨O,O,AM,AJ,⟨O,O,O,Aw⟩⟩)
 rintro _ rfl;refine A3 O (fun c=>?_) (fun c=>?_)
 ·(try simp only[sd,se] at c);refine A7 (BH (A4 (A5 BA 3 [2] O ?_)));obtain⟨x,hx⟩:=BE (l:=ys) (i:=0) (by first | omega | (simp at c;omega));refine Ay O (BC Bq O O Au (Bn hx) (BL _)) (Ay O (BQ Bd O (BL _)) ?_);obtain⟨xk,xi,xn,xl,xs⟩:=x;refine Ay O (B0 Bq B8 O O O O O) (FV O O (Cb (i:=0) (rows':=BO [(.mk xk xi xn xl xs:Tm)]) Bq Bq B8 O O O O O O (B9 _) AE (Jj l [(.mk xk xi xn xl xs:Tm)])) fun o1 cp1=>Az BA 1 [] O (A8 (A5 BA 2 [2] O ?_)));obtain⟨x1,hx1⟩:=BE (l:=ys) (i:=1) (by first | omega | (simp at c;omega));refine Ay O (BC Bq O O Au (Bn hx1) (BL _)) (Az BA 2 [2,1] O ?_);refine⟨⟨x1,l++[(.mk xk xi xn xl xs:Tm)],o1,cp1⟩,(by have:=Cs hx1;simp only[size];omega),⟨Di hC.1.2.2.2.2.1 hx1,by have:=Cs hx1;have:=hC.2.1;simp only[size] at *;simp only[List.length_append,List.length_cons,List.length_nil];omega,Sj c hx hx1 hC.2.2⟩,Bk ⟨we rfl,we rfl,we rfl,trivial⟩ (leH (is:=[0,1,2]) rfl (wl (oe rfl) (wl (oe rfl) (wl (oe rfl) (DN)))))⟩
 (try simp only[sd,se] at c);refine Br (A1 (B7 (fun k=>false) D7 (A0 O (fun _=>BB O) Aw (BT (j:=2) O O O (fun H i hi=>BI (i:=i) Bd O hi O) AB Aw (A0 O (fun _=>Bb O) Aw (CF O O (CO (i:=1) Bd O O O O O O) AB Aw (Bv O Ap (BS (Cx (i:=0) [4,25,2] O (EH ⟨O,O,O,Aw⟩)) (A6 (⟨O,_,_,⟨_,_,O,O,⟨_,_,O,(BJ (i:=0) Bd O O O),O⟩⟩,(List.nil_sublist _),?_⟩))))))))))
 all_goals exact⟨by show (.tup [.p (.lst (BO l)),.agg [.p (I yk),.p (I yi),.p (.str yn),.p (.lst (List.map CE yl)),.p (.lst (BO ys))]]:AV)=_;rw[WR Au hC.2.2];rfl,rfl⟩
theorem ZI:∀(t:Tm),(Nd t)→(size t<1000000)→Et Tryz.prog 117 [.agg ((Bg t).map .p)] (.tup [.p (.lst (BO ((HL t).1))),.agg ((Bg ((HL t).2)).map .p)]):=by
 intro t h1 h2;refine BD Tryz.func117 O nO (n:=27) O O (A4 (BP O (Bf O) fun b1=>Va O (BP O (BF B8 O) fun b3=>Bt O (A2 BA 1 [] O (A1 (BH (BS (EY (t:=4) (sz:=5) O) ?_)))))));refine Bo (α:=Tm×List Tm×Option Nat×Nat) (fun(y,l,o,cp)=>⟨27,mk [(1,.ptr b1 0),(3,.ptr b3 0),(4,.vs o (BO l).length cp)],[.vec o 5 (BO l) cp,.box b3 [.p (I 0),.p (I 0),.p (.str ⟨#[]⟩),.p (.nils),.p (.nils)],.box b1 ((Bg y).map .p)],[]⟩) (fun(y,l,o,cp)=>size y) (fun(y,l,o,cp)=>Nd y∧l.length+size y≤size t∧(l++(HL y).1,(HL y).2)=HL t) ⟨t,[],none,0⟩ (⟨h1,by simp,by simp⟩) ?_ ?_
 ·exact Bk ⟨we O,we O,we O,Aw⟩ (leH (is:=[0,1,2]) O (wl (oe O) (wl (oe O) (wl (oe O) (DN)))))
 rintro⟨y,l,o,cp⟩ hC
 try simp only at hC
 have hl0:l.length<1000000:=by have:=hC.2.1;omega
 refine A1 (A1 ?_);obtain⟨yk,yi,yn,yl,ys⟩:=y;refine Bi [1,3,4] 13 (fun y=>y= .p (.bool (((yk:Int)==(6:Int))&&(((ys.length:Nat):Int)==(2:Int))))) ?_ ?_
 ·refine A8 (A5 BA 4 [2] O (Ba 8 O (fun g=>?_) (fun g=>?_)))
  ·(try simp only[sd,se] at g);exact A5 BA 2 [2] O (BM O (BZ Bq O (Bh _)) (Az BA 2 [] O (⟨O,O,AM,AJ,⟨O,O,O,Aw⟩⟩)))
  (try simp only[sd,se] at g);exact Az BA 5 [] O (⟨O,O,AM,AJ,⟨O,O,O,Aw⟩⟩)
 rintro _ rfl;refine A3 O (fun c=>?_) (fun c=>?_)
 ·(try simp only[sd,se] at c);refine A7 (BH (A4 (A5 BA 3 [2] O ?_)));obtain⟨x,hx⟩:=BE (l:=ys) (i:=0) (by first | omega | (simp at c;omega));refine Ay O (BC Bq O O Au (Bn hx) (BL _)) (Ay O (BQ Bd O (BL _)) ?_);obtain⟨xk,xi,xn,xl,xs⟩:=x;refine Ay O (B0 Bq B8 O O O O O) (FV O O (Cb (i:=0) (rows':=BO [(.mk xk xi xn xl xs:Tm)]) Bq Bq B8 O O O O O O (B9 _) AE (Jj l [(.mk xk xi xn xl xs:Tm)])) fun o1 cp1=>Az BA 1 [] O (A8 (A5 BA 2 [2] O ?_)));obtain⟨x1,hx1⟩:=BE (l:=ys) (i:=1) (by first | omega | (simp at c;omega));refine Ay O (BC Bq O O Au (Bn hx1) (BL _)) (Az BA 2 [2,1] O ?_);refine⟨⟨x1,l++[(.mk xk xi xn xl xs:Tm)],o1,cp1⟩,(by have:=Cs hx1;simp only[size];omega),⟨Di hC.1.2.2.2.2.1 hx1,by have:=Cs hx1;have:=hC.2.1;simp only[size] at *;simp only[List.length_append,List.length_cons,List.length_nil];omega,Sj c hx hx1 hC.2.2⟩,Bk ⟨we rfl,we rfl,we rfl,trivial⟩ (leH (is:=[0,1,2]) rfl (wl (oe rfl) (wl (oe rfl) (wl (oe rfl) (DN)))))⟩
 (try simp only[sd,se] at c);refine Br (A1 (B7 (fun k=>false) D7 (A0 O (fun _=>BB O) Aw (BT (j:=2) O O O (fun H i hi=>BI (i:=i) Bd O hi O) AB Aw (A0 O (fun _=>Bb O) Aw (CF O O (CO (i:=1) Bd O O O O O O) AB Aw (Bv O Ap (BS (Cx (i:=0) [4,25,2] O (EH ⟨O,O,O,Aw⟩)) (A6 (⟨O,_,_,⟨_,_,O,O,⟨_,_,O,(BJ (i:=0) Bd O O O),O⟩⟩,(List.nil_sublist _),?_⟩))))))))))
 all_goals exact⟨by show (.tup [.p (.lst (BO l)),.agg [.p (I yk),.p (I yi),.p (.str yn),.p (.lst (List.map CE yl)),.p (.lst (BO ys))]]:AV)=_;rw[WR Au hC.2.2];rfl,rfl⟩
theorem Z7:∀(d:Cc) (k:Int),(Nn d)→(0≤d.fixed∧d.fixed≤1000000)→(0≤k)→(k<d.ctors.length)→Et Tryz.prog 85 [.agg ((Bw d).map .p),.p (I k)] (.p (I (Fe d k))):=by
 intro d k h1 h2 h3 h4;have hcl:=h1.cl;refine BD Tryz.func85 O nE (n:=23) O O (A4 (BP O (Bf O) fun b2=>Az BA 1 [] O (A4 (Ay O (Ax Cv O O) (Ay O (A9 (i:=0) Hk O O (CN _)) (B6 O ?_))))));obtain⟨x,hx⟩:=BE (l:=d.ctors) (i:=(k:Int).toNat) Au;have hct:=h1.cs _ (List.mem_of_getElem? hx);have htl:=Ih x.type;have hsz:=hct.ty.sz;refine Ay O (BC HY O O Au (Ek hx) (EN _)) (Ay O (Bp I0 O O) (Ay O (DX Bd O (FJ _) (BL _)) (Ay O (BN O O (WB x.type hct.ty.nd hct.ty.sz) O) (A5 BA 3 [] O (BP O (BF B8 O) fun b6=>Az BA 2 [0,1] O (A4 (B6 O (Ay O (BZ Bq O (Bh _)) (Ay O (Ax Cv O O) (Ay O (A9 (i:=1) C0 O O (C3 _)) (Ay O (IP O O Au Au) (Ay O (Ff O O) (Az BA 1 [] O (A6 (⟨O,_,_,⟨_,_,O,O,O⟩,(List.nil_sublist _),?_⟩)))))))))))))))
 all_goals exact⟨pI (by unfold Fe W8 FD;rw[Cm hx]),rfl⟩
theorem VV:∀(d:Cc),(Nn d)→(0≤d.fixed∧d.fixed≤1000000)→Et Tryz.prog 83 [.agg ((Bw d).map .p)] (.p (I (L9 d))):=by
 intro d h1 h2;have htl:=Ih d.type;have hsz:=h1.ty.sz;refine BD Tryz.func83 O rG (n:=17) O O (A4 (BP O (Bf O) fun b1=>Az BA 1 [] O (A4 (Ay O (Ax Cv O O) (Ay O (CC (i:=0) Bd O O (FO _) (BL _)) (Ay O (BN O O (WB d.type h1.ty.nd h1.ty.sz) O) (A5 BA 3 [] O (BP O (BF B8 O) fun b4=>Az BA 2 [0,1] O (A4 (B6 O (Ay O (BZ Bq O (Bh _)) (Ay O (Ax Cv O O) (Ay O (A9 (i:=1) C0 O O (C3 _)) (Ay O (IP O O Au Au) (Ay O (Ff O O) (Az BA 1 [] O (A6 (⟨O,_,_,⟨_,_,O,O,O⟩,(List.nil_sublist _),?_⟩))))))))))))))))))
 all_goals exact⟨pI rfl,rfl⟩
theorem RW:∀(d:Cc),(Nn d)→(0≤d.fixed∧d.fixed≤1000000)→Et Tryz.prog 48 [.agg ((Bw d).map .p)] (.p (I (Cj d))):=by
 intro d h1 h2;have hir:=GX h1 h2;have hcl:=h1.cl;refine BD Tryz.func48 O rW (n:=13) O O (A4 (BP O (Bf O) fun b1=>Az BA 1 [] O (A1 (B7 (fun k=>false) D7 (A0 O (fun _=>Ax Cv O O) Aw (BT (j:=0) O O O (fun H i hi=>A9 (i:=i) C0 O hi (C3 _)) AB Aw (A0 O (fun _=>ET O O Au Au) Aw (A0 O (fun _=>Ax Cv O O) Aw (BT (j:=0) O O O (fun H i hi=>A9 (i:=i) Hk O hi (CN _)) AB Aw (A0 O (fun _=>BZ HY O (List.length_map _)) Aw (A0 O (fun _=>ET O O Au Au) Aw (BT (j:=0) O O O (fun H i hi=>BI (i:=i) EJ O hi Aj) AB Aw (A0 O (fun _=>BN O O (VV d h1 h2) O) Aw (A0 O (fun _=>ET O O Au Au) Aw (A0 O (fun _=>Bb O) Aw (Bv O Ap (A6 (⟨O,_,_,⟨_,_,O,O,O⟩,(List.nil_sublist _),?_⟩))))))))))))))))))
 all_goals exact⟨pI rfl,rfl⟩
theorem N5:∀(d:Cc),(Nn d)→(0≤d.fixed∧d.fixed≤1000000)→Et Tryz.prog 90 [.agg ((Bw d).map .p)] (.p (I (Cj d))):=by
 intro d h1 h2;have hir:=GX h1 h2;have hcl:=h1.cl;have htl:=Ih d.type;have hsz:=h1.ty.sz;refine BD Tryz.func90 O qq (n:=25) O O (A4 (BP O (Bf O) fun b1=>Az BA 1 [] O (A4 (Ay O (Ax Cv O O) (Ay O (CC (i:=0) Bd O O (FO _) (BL _)) (Ay O (BN O O (ZI d.type h1.ty.nd h1.ty.sz) O) (A5 BA 3 [] O (BP O (BF B8 O) fun b4=>Az BA 2 [0,1] O (A4 (Ay O (Ax Cv O O) (Ay O (A9 (i:=1) C0 O O (C3 _)) (A5 BA 2 [] O (Ay O (A9 (i:=1) Hk O O (CN _)) (Ay O (BZ HY O (List.length_map _)) (A5 BA 2 [] O (Ay O (BZ Bq O (Bh _)) (Ay O (Ax Cv O O) (Ay O (A9 (i:=1) C0 O O (C3 _)) (Ay O (IP O O Au Au) (Ay O (Ff O O) (Az BA 2 [] O (A6 ?_))))))))))))))))))))));refine⟨O,_,_,⟨_,_,O,O,O⟩,(List.nil_sublist _),?_⟩
 all_goals exact⟨pI rfl,rfl⟩
theorem Ut:∀(l:List Tm),(l.length<Dt)→Et Tryz.prog 63 [.p (.lst (BO l))] (.p (.lst (BO l.reverse))):=by
 intro l h1;simp only[Dt] at h1;refine BD Tryz.func63 O p9 (n:=20) O O (A2 BA 1 [] O (A2 BA 1 [] O (A1 (A4 (B6 O (Ay O (BZ Bq O (Bh _)) (Az BA 2 [] O (BH (BS (EY (t:=3) (sz:=5) O) (Bo (α:=Nat×Option Nat×Nat) (fun(m,o,cp)=>⟨20,mk [(0,.p (.lst (BO l))),(3,.vs o (BO ((l.drop m).reverse)).length cp),(4,.p (I ((m:Int) - 1)))],[.vec o 5 (BO ((l.drop m).reverse)) cp],[]⟩) (fun(m,o,cp)=>m) (fun(m,o,cp)=>m≤l.length) ⟨l.length,none,0⟩ AQ ?_ ?_))))))))))
 ·exact Bk ⟨we O,we (L1 [] Av),we (pI Au),Aw⟩ (leH (is:=[0]) O (wl (KA [] Av) (DN)))
 rintro⟨m,o,cp⟩ hC
 try simp only at hC
 refine A1 (A2 BA 2 [] O (A3 O (fun c=>?_) (fun c=>?_)))
 ·(try simp only[sd,se] at c);refine A7 (A1 (BH (A8 (A5 BA 3 [] O ?_))));obtain⟨x,hx⟩:=BE (l:=l) (i:=((m:Int) - 1:Int).toNat) Au;refine Ay O (BC Bq O O Au (Bn hx) (BL _)) (Ay O (BQ Bd O (BL _)) ?_);obtain⟨xk,xi,xn,xl,xs⟩:=x;refine Ay O (B0 Bq B8 O O O O O) (FV O O (Cb (i:=0) (rows':=BO [(.mk xk xi xn xl xs:Tm)]) Bq Bq B8 O O O O O O (B9 _) (by simp only[Bh,List.length_reverse,List.length_drop,List.length_cons,List.length_nil];omega) (Jj ((l.drop m).reverse) [(.mk xk xi xn xl xs:Tm)])) fun o1 cp1=>Az BA 1 [] O (A8 (Az BA 3 [] O ?_)));refine⟨⟨m - 1,o1,cp1⟩,AU,by first | trivial | omega | (simp only;omega) | (simp;omega),Bk ⟨we rfl,we (L1 ((l.drop m).reverse++[(.mk xk xi xn xl xs:Tm)]) (VU (by simpa using hx) Au)),we (pI Au),trivial⟩ (leH (is:=[0]) rfl (wl (KA ((l.drop m).reverse++[(.mk xk xi xn xl xs:Tm)]) (VU (by simpa using hx) Au)) (DN)))⟩
 (try simp only[sd,se] at c);refine Br (A2 BA 2 [] O (BS (Cx (i:=0) [3,19,2] O (EH ⟨O,O,O,Aw⟩)) (A6 (⟨O,_,_,⟨_,_,O,O,O⟩,(List.nil_sublist _),?_⟩))))
 all_goals exact⟨by show (.p (.lst (BO ((l.drop m).reverse))):AV)=_;rw[show m=0 by omega,List.drop_zero],rfl⟩
theorem Xk:∀(ds:List Cc) (h:Tm),(Hd ds)→Et Tryz.prog 47 [.p (.lst (List.map Bw ds)),.agg ((Bg h).map .p)] (.tup [.agg ((Dp ((B3 ds h.name).1)).map .p),.p (.bool (Sv ds h))]):=by
 intro ds h h1;obtain⟨hk,hi,hn,hl,hs⟩:=h;refine BD Tryz.func47 O qh (n:=26) O O (A4 (BP O (Bf O) fun b3=>BP O (BF IA O) fun b4=>Az BA 1 [] O (A4 (A5 BA 3 [1] O (Ay O (BN O O (Lx ds hn h1) O) (A5 BA 3 [] O (BP O (BF IA O) fun b6=>Az BA 2 [0,1] O (A1 (B7 (fun k=>false) D7 (BT (j:=0) O O O (fun H i hi=>BI (i:=i) IL O hi Ak) AB Aw (A0 O (fun _=>BB O) Aw (A0 O (fun _=>C4 O O O) Aw (A0 O (fun _=>BB O) Aw (EB 18 O (fun g=>?_) (fun g=>?_)))))))))))))))
 ·(try simp only[sd,se] at g);refine Be O (fun _=>Ax DV O O) Aw (Co (i:=2) O O O O O (fun H i hi=>BG (i:=i) UO O hi O) AB Aw (Be O (fun _=>BZ En O (List.length_map _)) Aw (Be O (fun _=>Ax FG O O) Aw (Co (i:=0) O O O O O (fun H i hi=>A9 (i:=i) C0 O hi (Hc _)) AB Aw (Be O (fun _=>C4 O O O) Aw (A0 O (fun _=>B2 O O) Aw (CF O O (Bc (i:=1) IL O O O Ak AY (Jx _)) AB Aw (A0 O (fun _=>Bb O) Aw (Bv O Ap (A6 (⟨O,_,_,⟨_,_,O,(BJ (i:=1) IL O O Ak),⟨_,_,O,O,O⟩⟩,(List.nil_sublist _),?_⟩)))))))))))
  all_goals exact⟨by show (.tup [.agg ((Dp ((B3 ds hn).1)).map .p),.p (.bool (((hl.length:Nat):Int)==(((B3 ds hn).1).params:Int)))]:AV)=_;rw[eH (k:=hk) (i:=hi) (ks:=hs) (by first | exact g | omega)];rfl,rfl⟩
 (try simp only[sd,se] at g);refine BR O Aw (BR O Aw (BR O Aw (BR O Aw (BR O Aw (BR O Aw (A0 O (fun _=>B2 O O) Aw (CF O O (Bc (i:=1) IL O O O Ak AY (Jx _)) AB Aw (A0 O (fun _=>Bb O) Aw (Bv O Ap (A6 (⟨O,_,_,⟨_,_,O,(BJ (i:=1) IL O O Ak),⟨_,_,O,O,O⟩⟩,(List.nil_sublist _),?_⟩)))))))))))
 all_goals exact⟨by show (.tup [.agg ((Dp ((B3 ds hn).1)).map .p),.p (.bool false)]:AV)=_;rw[j6 (k:=hk) (i:=hi) (ls:=hl) (ks:=hs) (by first | exact g | omega)];rfl,rfl⟩
end Go.Proofs.YtboammbpdaoojaaGreat
namespace Go.Eu
open Go.Abs
def Out.ex {α:Type}:Out α→Except Int α
 | .ok a=> .ok a
 | .stuck=> .error 0
 | .fail=> .error 0
section
variable {α β σ:Type}
theorem Ii {o:Out α}{a:α}(h:o.ex= .ok a):o= .ok a:=by
 cases o<;>simp[Out.ex] at h;rw[h]
theorem De {o:Out α}{a:α}(h:o= .ok a):o.ex= .ok a:=by rw[h];rfl
theorem kU {o:Out α}{e:Int}(hs:o≠ .stuck) (h:o.ex= .error e):o= .fail∧e=0:=by
 cases o with
 | stuck=>exact absurd rfl hs
 | fail=>simp[Out.ex] at h;exact⟨rfl,h.symm⟩
 | ok a=>simp[Out.ex] at h
theorem fq {o:Out α}(h:o= .fail):o.ex= .error 0:=by rw[h];rfl
theorem LG {o:Out α}{k:α→Out β}{b:β}(h:o.bind k= .ok b):∃a,o= .ok a∧k a= .ok b:=by
 cases o with
 | stuck=>simp[Out.bind] at h
 | fail=>simp[Out.bind] at h
 | ok a=>exact⟨a,rfl,h⟩
theorem Jz {o:Out α}{k:α→Out β}(h:o.bind k≠ .stuck):o≠ .stuck:=fun e=>h (by rw[e];rfl)
theorem MR {o:Out α}{k:α→Out β}{a:α}(h:o.ex= .ok a):o.bind k=k a:=by rw[Ii h];rfl
theorem Kx {o:Out α}{k:α→Out β}{e:Int}(h:o.bind k≠ .stuck) (he:o.ex= .error e):(o.bind k).ex= .error e:=by
 obtain⟨h1,h2⟩:=kU (Jz h) he;subst h2;rw[h1];rfl
theorem J8 {o:Out (Tm×σ)}{k:Tm×σ→Out β}{b:β}(h:o.chk k= .ok b):∃r,o= .ok r∧okB r.1=true∧k r= .ok b:=by
 obtain⟨r,h1,h2⟩:=LG h;split at h2
 ·rename_i hr;exact⟨r,h1,hr,h2⟩
 cases h2
theorem UZ {o:Out (Tm×σ)}{k:Tm×σ→Out β}(h:o.chk k≠ .stuck):o≠ .stuck:=Jz h
theorem Ul {o:Out (Tm×σ)}{k:Tm×σ→Out β}{r:Tm×σ}(hs:o.chk k≠ .stuck) (h:o.ex= .ok r):okB r.1=true∧o.chk k=k r:=by
 have h1:=Ii h;subst h1;simp only[Out.chk,Out.bind] at hs ⊢;split at hs
 ·rename_i hr;exact⟨hr,by rw[if_pos hr]⟩
 exact absurd O hs
theorem UY {o:Out (Tm×σ)}{k:Tm×σ→Out β}{e:Int}(h:o.chk k≠ .stuck) (he:o.ex= .error e):(o.chk k).ex= .error e:=Kx h he
theorem LO {s:Ev}{x:Tm×Int}{k:Tm→Ev→Out α}(h:Du.put s x k≠ .stuck):okB x.1=true∧Du.put s x k=k x.1 (s.result x.1 x.2):=by
 unfold Sys.put at h ⊢;split at h
 ·rename_i hx;exact⟨hx,by rw[if_pos hx];rfl⟩
 exact absurd O h
theorem YN {s:Int}{x:Tm×Int}{k:Tm→Int→Out α}(h:CI.put s x k≠ .stuck):okB x.1=true∧CI.put s x k=if s - 1<0∨x.2≠0 then .fail else k x.1 (s - 1):=by
 unfold Sys.put at h ⊢;split at h
 ·rename_i hx;refine⟨hx,?_⟩;rw[if_pos hx];simp only[CI];by_cases c:s - 1<0∨x.2≠0
  ·rw[if_pos c,if_pos c]
  rw[if_neg c,if_neg c]
 exact absurd O h
end
section
variable {E:List Cc}{σ:Type}{S:Sys σ}{W:σ→Tm→Out (Tm×σ)}{n:Nat}{t:Fl}{v:List Tm}{l:Tm}{s:σ}{x:Tm}
def Pl (E:List Cc) (S:Sys σ) (W:σ→Tm→Out (Tm×σ)) (n:Nat) (t:Fl) (v:List Tm) (r:Tm×σ):Out ((Option (Tm×List Tm)×Tm)×σ):=match DW E r.1 with
 | none=> .ok ((none,r.1),r.2)
 | some (d,j,fields)=>match C8 (FD d j).name t.branches with
  | none=> .ok ((none,r.1),r.2)
  | some t'=>EE E S W n t' (v++fields) r.1 r.2
theorem S6 {X:Out ((Option (Tm×List Tm)×Tm)×σ)}(h:EE E S W n t v l s=X) (hX:X≠ .stuck):∃k,n=k+1:=by
 cases n with
 | zero=>rw[EE] at h;exact absurd h.symm hX
 | succ k=>exact⟨k,rfl⟩
theorem H6 (h:t.kind≠1):EE E S W (n+1) t v l s= .ok ((some (t.body,v),Bu),s):=by rw[EE,if_neg h]
theorem JM (h:t.kind=1) (hb:t.var<0∨t.var≥(v.length:Int)∨S.over s=true):EE E S W (n+1) t v l s= .ok ((none,l),s):=by rw[EE,if_pos h,if_pos hb]
theorem K2 (h:t.kind=1) (hb:¬(t.var<0∨t.var≥(v.length:Int)∨S.over s=true)) (hx:v[t.var.toNat]?=some x):EE E S W (n+1) t v l s=(W s x).chk (Pl E S W n t v):=by
 rw[EE,if_pos h,if_neg hb,Cm hx];rfl
theorem GQ {r:Tm×σ}(h:DW E r.1=none):Pl E S W n t v r= .ok ((none,r.1),r.2):=by unfold Pl;rw[h]
theorem Ic {r:Tm×σ}{d:Cc}{j:Int}{f:List Tm}(h:DW E r.1=some (d,j,f)) (hb:C8 (FD d j).name t.branches=none):Pl E S W n t v r= .ok ((none,r.1),r.2):=by unfold Pl;rw[h];simp only[hb]
theorem IY {r:Tm×σ}{d:Cc}{j:Int}{f:List Tm}{t':Fl}(h:DW E r.1=some (d,j,f)) (hb:C8 (FD d j).name t.branches=some t'):Pl E S W n t v r=EE E S W n t' (v++f) r.1 r.2:=by unfold Pl;rw[h];simp only[hb]
end
section
variable {E:List Cc}{σ:Type}{S:Sys σ}{W:σ→Tm→Out (Tm×σ)}{n:Nat}{h m:Tm}{a:List Tm}{s:σ}{d:Cc}{x:Gf}
theorem KG (he:(B1 d.value h.levels).2≠0):FF S d h a s= .ok (none,s):=by rw[FF,if_pos he]
theorem Ki (he:(B1 d.value h.levels).2=0):FF S d h a s=S.put s ((B1 d.value h.levels).1,0) fun t s'=> .ok (some (apply t a),s'):=by rw[FF,if_neg Au]
theorem Mm (hc:DW E m=none):FQ E S d h a m s= .ok (none,s):=by unfold FQ;rw[hc]
theorem QV {e:Cc}{j:Int}{f:List Tm}(hc:DW E m=some (e,j,f)) (hn:e.name≠d.name∨j≥(d.recs.rules.length:Int)):FQ E S d h a m s= .ok (none,s):=by unfold FQ;rw[hc];simp only[if_pos hn]
theorem MK {e:Cc}{j:Int}{f:List Tm}{r:Tm}(hc:DW E m=some (e,j,f)) (hn:¬(e.name≠d.name∨j≥(d.recs.rules.length:Int))) (hr:d.recs.rules[j.toNat]?=some r) (he:(B1 r h.levels).2≠0):FQ E S d h a m s= .ok (none,s):=by
 unfold FQ;rw[hc];simp only[if_neg hn,Uq,Cm hr,if_pos he]
theorem MO {e:Cc}{j:Int}{f:List Tm}{r:Tm}(hc:DW E m=some (e,j,f)) (hn:¬(e.name≠d.name∨j≥(d.recs.rules.length:Int))) (hr:d.recs.rules[j.toNat]?=some r) (he:(B1 r h.levels).2=0) :
  FQ E S d h a m s=S.put s (apply (apply (B1 r h.levels).1 (a.take (d.fixed+1+d.ctors.length).toNat)) f,0) fun t s'=> .ok (some (apply t (a.drop (Cj d+1).toNat)),s'):=by
 unfold FQ;rw[hc];simp only[if_neg hn,Uq,Cm hr,if_neg (show ¬(B1 r h.levels).2≠0 by omega)]
theorem Kl {b:Tm}{vars rest:List Tm}(he:(B1 b h.levels).2≠0):HR S h b vars rest s= .ok (none,s):=by rw[HR,if_pos he]
theorem UR {b:Tm}{vars rest:List Tm}(hs:HR S h b vars rest s≠ .stuck) (he:(B1 b h.levels).2=0):okB (B1 b h.levels).1=true∧(∀v∈vars,okB v=true)∧Bl vars<1125899906842624∧HR S h b vars rest s=S.put s (Ce (B1 b h.levels).1 vars.reverse 0) fun t s'=> .ok (some (apply t rest),s'):=by
 rw[HR,if_neg Au] at hs ⊢;split at hs
 ·exact absurd O hs
 rename_i hc;have hn:=hc;simp only[not_or,Bool.not_eq_false] at hc;exact⟨hc.1,fun v hv=>List.all_eq_true.1 hc.2.1 v hv,by omega,by rw[if_neg hn]⟩
def Pb (S:Sys σ) (f:Hj) (h:Tm) (a:List Tm) (q:(Option (Tm×List Tm)×Tm)×σ):Out (Option Tm×σ):=match q.1.1 with
 | none=> .ok (none,q.2)
 | some (b,vars)=>if S.over q.2=true then .ok (none,q.2) else HR S h b vars (a.drop f.arity.toNat) q.2
theorem KS {f:Hj}(hl:(a.length:Int)<f.arity):JP E S W n f h a s= .ok (none,s):=by rw[JP,if_pos hl]
theorem KI {f:Hj}(hl:¬(a.length:Int)<f.arity):JP E S W n f h a s=(EE E S W n f.tree (a.take f.arity.toNat) Bu s).bind (Pb S f h a):=by rw[JP,if_neg hl];rfl
theorem Nx (hl:(a.length:Int)≤Cj d):RA E S W d h a s= .ok (none,s):=by rw[RA,if_pos hl]
theorem Rp {y:Tm}(hl:¬(a.length:Int)≤Cj d) (hy:a[(Cj d).toNat]?=some y):RA E S W d h a s=(W s y).chk fun r=>FQ E S d h a r.1 r.2:=by rw[RA,if_neg hl,Cm hy]
theorem Jd (hu:Sv E h=false):Eo E S W n h a s= .ok (none,s):=by
 unfold Eo;rw[DR,hu];simp
section
variable (hu:Sv E h=true) (hd:E[(B3 E h.name).1.decl.toNat]?=some d)
include hu hd
theorem JF (hk:(B3 E h.name).1.kind=1):Eo E S W n h a s=FF S d h a s:=by
 unfold Eo;rw[DR,hu,if_pos rfl];simp only[if_pos hk,Cr,Cm hd]
theorem IJ (hk:(B3 E h.name).1.kind=5):Eo E S W n h a s=RA E S W d h a s:=by
 unfold Eo;rw[DR,hu,if_pos rfl];simp only[hk,Cr,Cm hd];rfl
theorem HT {f:Hj}(hk:(B3 E h.name).1.kind=6) (hf:d.funs[(B3 E h.name).1.item.toNat]?=some f):Eo E S W n h a s=JP E S W n f h a s:=by
 unfold Eo;rw[DR,hu,if_pos rfl];simp only[hk,Cr,Cm hd,Gm,Cm hf];rfl
omit hd
theorem Ig (h1:(B3 E h.name).1.kind≠1) (h5:(B3 E h.name).1.kind≠5) (h6:(B3 E h.name).1.kind≠6):Eo E S W n h a s= .ok (none,s):=by
 unfold Eo;rw[DR,hu,if_pos rfl];simp only[if_neg h1,if_neg h5,if_neg h6]
end
end
section
variable {E:List Cc}{σ:Type}{S:Sys σ}{n:Nat}{t:Tm}{s:σ}{X:Out (Tm×σ)}
theorem Yd (h:D6 E S n s t=X) (hX:X≠ .stuck):∃k,n=k+1:=by
 cases n with
 | zero=>rw[D6] at h;exact absurd h.symm hX
 | succ k=>exact⟨k,rfl⟩
theorem XS (h:D6 E S (n+1) s t=X) (hX:X≠ .stuck):okB t=true:=by
 rw[D6] at h;split at h
 ·exact absurd h.symm hX
 rename_i hc;simpa using hc
theorem YK (ho:okB t=true) (h:S.over s=true):D6 E S (n+1) s t= .ok (t,s):=by rw[D6,if_neg (by simp[ho]),if_pos h]
theorem Y9 (ho:okB t=true) (h:S.over s=false) (hm:S.many (BK t).2.length=true):D6 E S (n+1) s t= .fail:=by rw[D6,if_neg (by simp[ho]),if_neg (by simp[h]),if_pos hm]
section
variable (ho:okB t=true) (h:S.over s=false) (hm:S.many (BK t).2.length=false)
include ho h hm
theorem OB (hk:(BK t).1.kind=5) (hl:(BK t).2.length=0):D6 E S (n+1) s t= .ok (t,s):=by
 rw[D6,if_neg (by simp[ho]),if_neg (by simp[h]),if_neg (by simp[hm]),if_pos hk,if_pos hl]
theorem R2 {b:Tm}(hk:(BK t).1.kind=5) (hl:(BK t).2.length≠0) (hb:(BK t).1.kids[1]?=some b) :
  D6 E S (n+1) s t=S.put s (Ce b ((BK t).2.take 1) 0) fun x s'=>D6 E S n s' (apply x ((BK t).2.drop 1)):=by
 rw[D6,if_neg (by simp[ho]),if_neg (by simp[h]),if_neg (by simp[hm]),if_pos hk,if_neg hl,Oq,hb]
theorem Rs {v b:Tm}(hk:(BK t).1.kind=11) (hv:(BK t).1.kids[1]?=some v) (hb:(BK t).1.kids[2]?=some b) :
  D6 E S (n+1) s t=S.put s (Ce b [v] 0) fun x s'=>D6 E S n s' (apply x (BK t).2):=by
 rw[D6,if_neg (by simp[ho]),if_neg (by simp[h]),if_neg (by simp[hm]),if_neg Au,if_pos hk,Un,hv,hb]
def Pw (E:List Cc) (S:Sys σ) (n:Nat) (h:Tm) (a:List Tm) (r:Tm×σ):Out (Tm×σ) :=
 if r.1.kind≠8 then .ok (apply (Iz h.kind r.1) a,r.2) else Mx S h r.1 a r.2 fun x s'=>D6 E S n s' x
theorem Of {p:Tm}(hk:(BK t).1.kind=9∨(BK t).1.kind=10) (hp:(BK t).1.kids[0]?=some p) :
  D6 E S (n+1) s t=(D6 E S n s p).chk (Pw E S n (BK t).1 (BK t).2):=by
 rw[D6,if_neg (by simp[ho]),if_neg (by simp[h]),if_neg (by simp[hm]),if_neg Au,if_neg Au,if_pos hk,hp];rfl
def Yj (E:List Cc) (S:Sys σ) (n:Nat) (t:Tm) (r:Option Tm×σ):Out (Tm×σ):=match r.1 with
 | none=> .ok (t,r.2)
 | some x=>D6 E S n r.2 x
theorem KV (hk:(BK t).1.kind=3):D6 E S (n+1) s t=(Eo E S (D6 E S n) n (BK t).1 (BK t).2 s).bind (Yj E S n t):=by
 rw[D6,if_neg (by simp[ho]),if_neg (by simp[h]),if_neg (by simp[hm]),if_neg Au,if_neg Au,if_neg Au,if_pos hk];rfl
theorem Vw (h1:(BK t).1.kind≠5) (h2:(BK t).1.kind≠11) (h3:(BK t).1.kind≠9) (h4:(BK t).1.kind≠10) (h5:(BK t).1.kind≠3):D6 E S (n+1) s t= .ok (t,s):=by
 rw[D6,if_neg (by simp[ho]),if_neg (by simp[h]),if_neg (by simp[hm]),if_neg h1,if_neg h2,if_neg Au,if_neg h5]
end
theorem Lu {h:Tm}{a:List Tm}{r:Tm×σ}(hk:r.1.kind≠8):Pw E S n h a r= .ok (apply (Iz h.kind r.1) a,r.2):=by rw[Pw,if_pos hk]
theorem OL {h:Tm}{a:List Tm}{r:Tm×σ}{q:Tm}(hk:r.1.kind=8) (hq:r.1.kids[(1+h.kind - 9).toNat]?=some q):Pw E S n h a r=S.put r.2 (q,0) fun x s'=>D6 E S n s' (apply x a):=by
 rw[Pw,if_neg Au,Mx,hq]
end
theorem FR {vs:List Tm}(h:∀v∈vs,okB v=true):Lo vs∧Nk vs∧TE vs:=NL vs (Kd.2 fun t ht=>Lh (h t ht))
theorem Y0 {vs:List Tm}(h:∀v∈vs,okB v=true) (hl:vs.length<549755813888):QG vs 0 :=
 ⟨(FR h).2.1,(FR h).2.2,fun x hx=>by have:=F8 (h x hx);omega,by omega,by omega,by omega⟩
theorem K3 {b:Tm}{vs:List Tm}(hb:okB b=true) (hv:∀v∈vs,okB v=true):size (Ce b vs 0).1≤4096 :=
 Vs b vs 0 (Cd.1 hb).wt (FR hv).2.1 fun x hx=>by have:=F8 (hv x hx);omega
theorem PU {b:Tm}{vs:List Tm}(hb:okB b=true) (hv:∀v∈vs,okB v=true) (hl:vs.length<549755813888):okB (Ce b vs 0).1=true:=by
 have o:=Cd.1 hb;obtain⟨h1,h2,h3⟩:=FR hv;have:=K3 hb hv;exact Cd.2 ⟨bD b vs 0 o.nd h1,aC b vs 0 o.wt h2,Z8 (Y0 hv hl) o.vp (by have:=o.sz;omega),by omega⟩
theorem JG.zero:JG Fq:=JG.num (n:=0) Au
theorem Pa {ps:List Cl}(hp:∀p∈ps,CK p=true):∀(vs:List CR) (out:Cl),JG out→(∀v∈vs,(0≤v.plus∧v.plus≤100)∧ -65536≤v.index∧v.index<8)→JG (GN ps out vs).1
 | [],out,h,_=>h
 | v::vs,out,h,hv=>by
  have h1:=hv v Av;have h2:∀u∈vs,(0≤u.plus∧u.plus≤100)∧ -65536≤u.index∧u.index<8:=fun u hu=>hv u (by simp[hu]);rw[GN];split
  ·rename_i hi;split
   ·exact JG.zero
   rename_i he;refine Pa hp vs _ (h.join ?_) h2;have hlt:v.index.toNat<ps.length:=by omega
   have hg:ps.getD v.index.toNat default∈ps:=by rw[Cm (List.getElem?_eq_getElem hlt)];exact List.getElem_mem hlt
   exact JG.plus (hp _ hg) h1.1.1 h1.1.2 (Decidable.not_not.1 he)
  exact Pa hp vs _ (h.join (JG.one h1)) h2
theorem Xh (l:Cl) (ps:List Cl):JG (DB l ps).1:=by
 unfold DB;split
 ·exact JG.zero
 rename_i h;simp only[not_or,Bool.not_eq_false,List.all_eq_true] at h;split
 ·exact JG.zero
 have hl:=JG.of h.1;exact Pa h.2 l.vars _ (JG.num hl.c) hl.rg
theorem S3 (ps:List Cl):∀(ls:List Cl) (er:Int),(FY ps er ls).1.length=ls.length∧(FY ps er ls).1.all XF=true
 | [],er=>⟨rfl,rfl⟩
 | l::ls,er=>by
  obtain⟨h1,h2⟩:=S3 ps ls (Gs er (DB l ps).2);simp only[FY,List.length_cons,List.all_cons,Bool.and_eq_true];exact⟨by rw[h1],Yh (Xh l ps).nd,h2⟩
mutual
theorem SJ (ps:List Cl):∀(t:Tm) (er:Int),To t=true→To (Ho ps er t).1=true∧size (Ho ps er t).1=size t
 | .mk k i n ls ks,er,h=>by
  rw[Lp,Bool.and_eq_true] at h;obtain⟨h1,h2⟩:=S3 ps ls er;obtain⟨h3,h4,h5⟩:=S4 ps ks (FY ps er ls).2 h.2;simp only[Ho,Lp,size,Bool.and_eq_true];refine⟨⟨?_,h4⟩,by rw[h5]⟩;have g:=h.1;simp only[oO,Bool.and_eq_true] at g ⊢;rw[h1,h3];exact⟨⟨⟨⟨⟨⟨⟨⟨g.1.1.1.1.1.1.1.1,g.1.1.1.1.1.1.1.2⟩,h2⟩,g.1.1.1.1.1.2⟩,g.1.1.1.1.2⟩,g.1.1.1.2⟩,g.1.1.2⟩,g.1.2⟩,g.2⟩
theorem S4 (ps:List Cl):∀(ts:List Tm) (er:Int),Lk ts=true→(Gp ps er ts).1.length=ts.length∧Lk (Gp ps er ts).1=true∧Bl (Gp ps er ts).1=Bl ts
 | [],er,_=>⟨rfl,rfl,rfl⟩
 | t::ts,er,h=>by
  simp only[Lk,Bool.and_eq_true] at h;obtain⟨h1,h2⟩:=SJ ps t er h.1;obtain⟨h3,h4,h5⟩:=S4 ps ts (Ho ps er t).2 h.2;simp only[Gp,List.length_cons,Lk,Bool.and_eq_true,Bl];exact⟨by rw[h3],⟨h1,h4⟩,by rw[h2,h5]⟩
end
theorem dV:To Bu=true:=by decide
theorem Kj:okB Bu=true:=by decide
theorem Lq {t:Tm}(ps:List Cl) (h:okB t=true):size (B1 t ps).1≤size t:=by
 unfold B1;split
 ·exact size_pos t
 exact Nat.le_of_eq (SJ ps t 0 (Lh h)).2
theorem O7 {t:Tm}(ps:List Cl) (h:okB t=true):okB (B1 t ps).1=true:=by
 have:=Lq ps h;have:=F8 h;refine Pc ?_ Au;unfold B1;split
 ·exact dV
 exact(SJ ps t 0 (Lh h)).1
theorem KF {f:Tm}{xs:List Tm}(h:okB f=true) (hx:∀x∈xs,okB x=true) (hs:size f+Bl xs+xs.length<549755813888):okB (apply f xs)=true :=
 Pc (Km (Lh h) fun x hx'=>Lh (hx x hx')) (by rw[Da];exact hs)
theorem iL {k:Int}{p:Tm}(hk:k=9∨k=10) (h:okB p=true) (hs:size p+1<549755813888):okB (Iz k p)=true:=by
 refine Pc ?_ (by simp only[Iz,size,Bl];omega);rw[Iz,Lp,Bool.and_eq_true];refine⟨?_,by simp[Lk,Lh h]⟩;rcases hk with rfl | rfl<;>rfl
theorem D4 (l:List Tm) (k:Nat):Bl (l.take k)+Bl (l.drop k)=Bl l:=by rw[←I8,List.take_append_drop]
theorem HO:∀(t:Tm),size (BK t).1+Bl (BK t).2+(BK t).2.length=size t
 | .mk k i n l [f,a]=>by
  unfold BK;split
  ·have:=HO f;simp only[I8,Bl,size,List.length_append,List.length_cons,List.length_nil];omega
  ·simp[Bl]
 | .mk k i n l []=>by simp[BK,Bl]
 | .mk k i n l [_]=>by simp[BK,Bl]
 | .mk k i n l (_::_::_::_)=>by simp[BK,Bl]
mutual
def EM:Fl→Nat
 | .mk _ _ _ l=>1+LU l
def XA:GP→Nat
 | .mk _ _ t=>EM t
def LU:List GP→Nat
 | []=>0
 | b::l=>max (XA b) (LU l)
end
theorem Xd:∀t:Fl,1≤EM t
 | .mk k b v l=>by simp only[EM];omega
structure Ha (E:List Cc):Prop where
 g:J7 E
 vl:∀d∈E,size d.value≤400
 ru:∀d∈E,∀t∈d.recs.rules,size t≤400
 fu:∀d∈E,∀f∈d.funs,EM f.tree≤50
theorem VP {nm:ByteArray}:∀{l:List GP}{t:Fl},C8 nm l=some t→Qm l→GA t∧EM t≤LU l
 | .mk c a q::l,t,h,ho=>by
  simp only[Qm,jk] at ho;rw[C8] at h;simp only[LU,XA];split at h
  ·split at h
   ·cases h
   cases h;exact⟨ho.1,by simp only[GP.tree];omega⟩
  obtain⟨h1,h2⟩:=VP h ho.2;exact⟨h1,by omega⟩
theorem W3 {nm:ByteArray}{t t':Fl}(h:C8 nm t.branches=some t') (ho:GA t):GA t'∧EM t' < EM t:=by
 obtain⟨k,b,v,l⟩:=t;simp only[GA] at ho;obtain⟨h1,h2⟩:=VP h ho.2;exact⟨h1,by simp only[EM,Fl.branches] at *;omega⟩
theorem KW {E:List Cc}{h:Tm}(hu:Sv E h=true):∃(i:Nat) (d:Cc),E[i]?=some d∧Yn d i (B3 E h.name).1∧d∈E∧E[(B3 E h.name).1.decl.toNat]?=some d:=by
 simp only[Sv,Bool.and_eq_true,decide_eq_true_eq] at hu;obtain⟨i,d,h1,h2⟩:=Oa hu.1;exact⟨i,d,h1,h2,List.mem_of_getElem? h1,by rw[h2.decl];simpa using h1⟩
theorem T6 {E:List Cc}{nm:ByteArray}{d:Cc}{j:Int}(h:Hg E nm=some (d,j)):d∈E∧(0≤j→j<d.ctors.length):=by
 unfold Hg at h;split at h
 ·cases h
 rename_i h0;obtain⟨i,d',h1,h2⟩:=Oa (Decidable.not_not.1 h0);have hd:Cr E (B3 E nm).1.decl=d':=Cm (by rw[h2.decl];simpa using h1);have hm:=List.mem_of_getElem? h1;rw[hd] at h;split at h
 ·cases h;exact⟨hm,fun q=>by omega⟩
 split at h
 ·rename_i h4;obtain⟨k,c,h5,h6⟩:=h2.ctor h4;cases h;exact⟨hm,fun _=>by have:=(List.getElem?_eq_some_iff.1 h5).1;omega⟩
 split at h
 ·cases h;exact⟨hm,fun q=>by omega⟩
 cases h
structure kY (E:List Cc) (t:Tm) (d:Cc) (j:Int) (f:List Tm):Prop where
 mem:d∈E
 lo:0≤j
 hi:j<d.ctors.length
 fs:f=(BK t).2.drop d.fixed.toNat
 len:((BK t).2.length:Int)=d.fixed+Fe d j
 kind:(BK t).1.kind=3
theorem F4 {E:List Cc}{t:Tm}{d:Cc}{j:Int}{f:List Tm}(h:DW E t=some (d,j,f)):kY E t d j f:=by
 unfold DW at h;split at h
 ·cases h
 rename_i hk;split at h
 ·cases h
 rename_i d' j' hf;obtain⟨h1,h2⟩:=T6 hf;split at h
 ·cases h
 split at h
 ·cases h
 rename_i h3 h4;cases h;exact⟨h1,by omega,h2 Au,rfl,Decidable.not_not.1 h4,Decidable.not_not.1 hk⟩
theorem Jw {E:List Cc}{t:Tm}{d:Cc}{j:Int}{f:List Tm}(h:DW E t=some (d,j,f)) (ho:okB t=true):(∀x∈f,okB x=true∧size x<size t)∧Bl f+f.length<size t:=by
 have c:=F4 h;have hs:=HO t;have hp:=size_pos (BK t).1;have hd:=D4 (BK t).2 d.fixed.toNat;rw[c.fs];refine⟨fun x hx=>⟨(IE ho).2 x (List.mem_of_mem_drop hx),?_⟩,by rw[List.length_drop];omega⟩;have:=HS (List.mem_of_mem_drop hx);omega
theorem JS {E:List Cc}{t:Tm}{d:Cc}{j:Int}{f:List Tm}(hE:J7 E) (h:DW E t=some (d,j,f)):f.length≤1000000:=by
 have c:=F4 h;have hd:=hE.all d c.mem;have hlo:=c.lo;have hhi:=c.hi;have hlt:j.toNat<d.ctors.length:=by omega
 have hx:=List.getElem?_eq_getElem hlt;have hs:=(hd.din.cs _ (List.getElem_mem hlt)).ty.sz;have hl:=Ih d.ctors[j.toNat].type;have hfx:=hd.fx;have hlen:=c.len;rw[c.fs,List.length_drop];unfold Fe W8 FD at hlen;rw[Cm hx] at hlen;omega
def Dn {α:Type}(o:Out α) (p:α→Prop):Prop:=match o with
 | .stuck=>False
 | .fail=>True
 | .ok a=>p a
section
variable {α β σ:Type}
theorem Dn.ok {a:α}{p:α→Prop}(h:p a):Dn (.ok a) p:=h
theorem Dn.ns {o:Out α}{p:α→Prop}(h:Dn o p):o≠ .stuck:=fun e=>by rw[e] at h;exact h
theorem Dn.get {o:Out α}{p:α→Prop}{a:α}(h:Dn o p) (e:o= .ok a):p a:=by rw[e] at h;exact h
theorem Dn.mono {o:Out α}{p q:α→Prop}(h:Dn o p) (hpq:∀a,p a→q a):Dn o q:=by
 cases o with
 | stuck=>exact h
 | fail=>trivial
 | ok a=>exact hpq a h
theorem Dn.bind {o:Out α}{k:α→Out β}{p:α→Prop}{q:β→Prop}(h:Dn o p) (hk:∀a,p a→Dn (k a) q):Dn (o.bind k) q:=by
 cases o with
 | stuck=>exact h
 | fail=>trivial
 | ok a=>exact hk a h
theorem Dn.chk {o:Out (Tm×σ)}{k:Tm×σ→Out β}{p:Tm×σ→Prop}{q:β→Prop}(h:Dn o p) (hk:∀a,p a→okB a.1=true∧Dn (k a) q):Dn (o.chk k) q :=
 Dn.bind h fun a ha=>by rw[if_pos (hk a ha).1];exact(hk a ha).2
theorem Dn.put {S:Sys σ}{s:σ}{x:Tm×Int}{k:Tm→σ→Out β}{q:β→Prop}(ho:okB x.1=true) (hk:∀s',S.res s x.1 x.2=some s'→Dn (k x.1 s') q):Dn (S.put s x k) q:=by
 unfold Sys.put;rw[if_pos ho];cases h:S.res s x.1 x.2 with
 | none=>trivial
 | some s'=>exact hk s' h
end
structure Xj {σ:Type} (S:Sys σ) (J:σ→Prop) (cnt:σ→Nat) (C:Nat):Prop where
 nov:∀s,J s→S.over s=false→cnt s≤C
 res:∀s t e s',J s→cnt s<1152921504606846976→okB t=true→S.res s t e=some s'→J s'∧cnt s'=cnt s+1
 hC:C≤20000
section
variable {σ:Type}(S:Sys σ) (J:σ→Prop) (cnt:σ→Nat) (C:Nat)
structure Wp (s:σ) (t:Tm) (r:Tm×σ):Prop where
 j:J r.2
 ok:okB r.1=true
 le:cnt s≤cnt r.2
 sz:size r.1≤size t+(cnt r.2 - cnt s)*4500
 ub:S.over s=false→cnt r.2≤C+1+size t+(C - cnt s)*4500
 st:S.over s=true→r.2=s
structure p7 (n:Nat) (s:σ) (t:Tm):Prop where
 j:J s
 ok:okB t=true
 pm:S.over s=false→size t+(C - cnt s)*4500≤90100000
 fu:S.over s=false→size t+(C - cnt s)*4501+100≤n
 n1:1≤n
def kW (n:Nat) (W:σ→Tm→Out (Tm×σ)):Prop:=∀s t,p7 S J cnt C n s t→Dn (W s t) (Wp S J cnt C s t)
end
section
variable {σ:Type}{S:Sys σ}{J:σ→Prop}{cnt:σ→Nat}{C:Nat}{E:List Cc}{n:Nat}{W:σ→Tm→Out (Tm×σ)}
variable (hS:Xj S J cnt C) (hE:Ha E) (hW:kW S J cnt C n W)
structure qC (S:Sys σ) (J:σ→Prop) (cnt:σ→Nat) (C n V Z:Nat) (s:σ) (vars:List Tm) (last:Tm):Prop where
 j:J s
 ok:∀v∈vars,okB v=true
 lok:okB last=true
 pm:S.over s=false→∀v∈vars,size v+(C - cnt s)*4500≤V
 fu:S.over s=false→∀v∈vars,size v+(C - cnt s)*4501+100≤n
 lm:S.over s=false→size last+(C - cnt s)*4500≤V∧size last+(C - cnt s)*4501+100≤n
 zs:∀v∈vars,size v≤Z
 lz:size last≤Z
structure jl (S:Sys σ) (J:σ→Prop) (cnt:σ→Nat) (C n V L Z:Nat) (s:σ) (q:(Option (Tm×List Tm)×Tm)×σ):Prop where
 j:J q.2
 le:cnt s≤cnt q.2
 ub:S.over s=false→cnt q.2≤C+1+V
 st:S.over s=true→q.2=s
 ok:∀b vars,q.1.1=some (b,vars)→okB b=true∧∀v∈vars,okB v=true
 vl:∀b vars,q.1.1=some (b,vars)→vars.length≤L∧Bl vars<1125899906842624
 lok:okB q.1.2=true
 lz:q.1.1=none→size q.1.2≤Z+(cnt q.2 - cnt s)*4500
 lm:S.over q.2=false→q.1.1=none→size q.1.2+(C - cnt q.2)*4500≤V∧size q.1.2+(C - cnt q.2)*4501+100≤n
include hS hE hW
theorem VC {V L:Nat}(hV:V≤90100000):∀(m:Nat) (t:Fl) (vars:List Tm) (last:Tm) (s:σ) (Z:Nat),EM t≤m→GA t→1≤n→vars.length+EM t*1000000≤L→Bl vars+EM t*549755813888<1125899906842624→qC S J cnt C n V Z s vars last→Dn (EE E S W m t vars last s) (jl S J cnt C n V L Z s)
 | 0,t,vars,last,s,Z,h,_,_,_,_,_=>absurd h (by have:=Xd t;omega)
 | m+1,t,vars,last,s,Z,h,ht,hn,hL,hM,hp=>by
  by_cases hk:t.kind=1
  ·by_cases hb:t.var<0∨t.var≥(vars.length:Int)∨S.over s=true
   ·rw[JM hk hb];exact Dn.ok ⟨hp.j,Nat.le_refl _,fun h=>by have:=hS.nov s hp.j h;simp only;omega,fun _=>rfl,fun b v e=>by simp at e,fun b v e=>by simp at e,hp.lok,fun _=>by have:=hp.lz;simp only;omega,fun h _=>hp.lm h⟩
   have hlt:t.var.toNat<vars.length:=by omega
   have ho:S.over s=false:=by simpa using fun e=>hb (.inr (.inr e))
   have hx:=List.getElem?_eq_getElem hlt;have hm:=List.getElem_mem hlt;rw[K2 hk hb hx];have hcs:=hS.nov s hp.j ho;refine Dn.chk (hW s _ ⟨hp.j,hp.ok _ hm,fun _=>by have:=hp.pm ho _ hm;omega,fun _=>hp.fu ho _ hm,hn⟩) fun r hr=>⟨hr.ok,?_⟩;have hpm:=hp.pm ho _ hm;have hfu:=hp.fu ho _ hm;have hub:=hr.ub ho;have hle:=hr.le;have hsz:=hr.sz;have hlm:S.over r.2=false→size r.1+(C - cnt r.2)*4500≤V∧size r.1+(C - cnt r.2)*4501+100≤n:=fun h=>by have:=hS.nov _ hr.j h;omega
   have hstop:Dn (.ok ((none,r.1),r.2)) (jl S J cnt C n V L Z s) :=
    Dn.ok ⟨hr.j,hr.le,fun _=>by simp only;omega,fun e=>absurd (ho.symm.trans e) Av,fun b v e=>by simp at e,fun b v e=>by simp at e,hr.ok,fun _=>by have:=hp.zs _ hm;simp only;omega,fun h _=>hlm h⟩
   cases hc:DW E r.1 with
   | none=>rw[GQ hc];exact hstop
   | some q =>
    obtain⟨d,j,f⟩:=q;cases hbr:C8 (FD d j).name t.branches with
    | none=>rw[Ic hc hbr];exact hstop
    | some t' =>
     rw[IY hc hbr];obtain⟨h1,h2⟩:=W3 hbr ht;obtain⟨h3,h4⟩:=Jw hc hr.ok;have h5:=F8 hr.ok;refine Dn.mono (VC (L:=L) hV m t' (vars++f) r.1 r.2 (Z+(cnt r.2 - cnt s)*4500) Au h1 hn (by have:=JS hE.g hc;rw[List.length_append];omega) (by rw[I8];omega) ⟨hr.j,fun v hv=>?_,hr.ok,fun h v hv=>?_,fun h v hv=>?_,hlm,fun v hv=>?_,by have:=hp.zs _ hm;omega⟩) fun q hq=>?_
     ·rcases List.mem_append.1 hv with hv | hv
      ·exact hp.ok v hv
      exact(h3 v hv).1
     ·have:=hS.nov _ hr.j h;rcases List.mem_append.1 hv with hv | hv
      ·have:=hp.pm ho v hv;omega
      have:=(h3 v hv).2;omega
     ·have:=hS.nov _ hr.j h;rcases List.mem_append.1 hv with hv | hv
      ·have:=hp.fu ho v hv;omega
      have:=(h3 v hv).2;omega
     ·have hzm:=hp.zs _ hm;rcases List.mem_append.1 hv with hv | hv
      ·have:=hp.zs v hv;omega
      have:=(h3 v hv).2;omega
     refine⟨hq.j,by have:=hq.le;omega,fun _=>?_,fun e=>absurd (ho.symm.trans e) Av,hq.ok,hq.vl,hq.lok,fun e=>by have:=hq.lz e;have:=hq.le;omega,hq.lm⟩;cases hov:S.over r.2 with
     | true=>rw[hq.st hov];omega
     | false=>exact hq.ub hov
  rw[H6 hk];refine Dn.ok ⟨hp.j,Nat.le_refl _,fun h=>by have:=hS.nov s hp.j h;simp only;omega,fun _=>rfl,fun b v e=>?_,fun b v e=>?_,Kj,fun e=>by simp at e,fun h e=>by simp at e⟩
  ·simp only[Option.some.injEq,Prod.mk.injEq] at e;obtain⟨rfl,rfl⟩:=e;refine⟨?_,hp.ok⟩;obtain⟨k,b,v,l⟩:=t;simp only[GA] at ht;exact ht.1
  simp only[Option.some.injEq,Prod.mk.injEq] at e;obtain⟨rfl,rfl⟩:=e;omega
end
section
variable {σ:Type}{S:Sys σ}{J:σ→Prop}{cnt:σ→Nat}{C:Nat}{E:List Cc}{n:Nat}{W:σ→Tm→Out (Tm×σ)}
structure Yu (S:Sys σ) (J:σ→Prop) (cnt:σ→Nat) (C:Nat) (s:σ) (z:Nat) (r:Option Tm×σ):Prop where
 j:J r.2
 le:cnt s≤cnt r.2
 ub:cnt r.2≤C+1+z+(C - cnt s)*4500
 ok:∀x,r.1=some x→okB x=true∧cnt s+1≤cnt r.2∧size x≤z+(cnt r.2 - cnt s)*4500
variable (hS:Xj S J cnt C)
include hS
theorem aV {d:Cc}{h:Tm}{a:List Tm}{s:σ}(hj:J s) (hc:cnt s≤C) (hv:okB d.value=true) (hs:size d.value≤400) (ha:∀x∈a,okB x=true) (hz:size h+Bl a+a.length≤90100000):Dn (FF S d h a s) (Yu S J cnt C s (size h+Bl a+a.length)):=by
 have hC:=hS.hC;by_cases he:(B1 d.value h.levels).2=0
 ·rw[Ki he];have h1:=Lq h.levels hv;have h2:=O7 h.levels hv;refine Dn.put h2 fun s' hs'=>?_;obtain⟨h3,h4⟩:=hS.res _ _ _ _ hj Au h2 hs';have h5:=Da a (B1 d.value h.levels).1;refine Dn.ok ⟨h3,by simp only;omega,by simp only;omega,fun x hx=>?_⟩;simp only[Option.some.injEq] at hx;subst hx;exact⟨KF h2 ha Au,by simp only;omega,by simp only;omega⟩
 rw[KG he];exact Dn.ok ⟨hj,Nat.le_refl _,by simp only;omega,fun x hx=>by cases hx⟩
theorem dx {b h:Tm}{vars rest:List Tm}{s:σ}{z:Nat}(hj:J s) (hc:cnt s≤C) (hb:okB b=true) (hv:∀v∈vars,okB v=true) (hl:vars.length<549755813888) (hsv:Bl vars<1125899906842624) (hr:∀x∈rest,okB x=true) (hz:Bl rest+rest.length≤z) (hz2:z≤90100000):Dn (HR S h b vars rest s) (fun r=>J r.2∧cnt s≤cnt r.2∧cnt r.2≤cnt s+1∧∀x,r.1=some x→okB x=true∧cnt r.2=cnt s+1∧size x≤z+4096):=by
 have hC:=hS.hC;by_cases he:(B1 b h.levels).2=0
 ·have h1:=O7 h.levels hb;have hvr:∀v∈vars.reverse,okB v=true:=fun v hm=>hv v (List.mem_reverse.1 hm);have h2:=PU h1 hvr (by rw[List.length_reverse];exact hl);have h3:=K3 h1 hvr;rw[HR,if_neg Au,if_neg (by simp only[not_or,Bool.not_eq_false];exact⟨h1,List.all_eq_true.2 hv,by omega⟩)];refine Dn.put h2 fun s' hs'=>?_;obtain⟨h4,h5⟩:=hS.res _ _ _ _ hj Au h2 hs';have h6:=Da rest (Ce (B1 b h.levels).1 vars.reverse 0).1;refine Dn.ok ⟨h4,by simp only;omega,by simp only;omega,fun x hx=>?_⟩;simp only[Option.some.injEq] at hx;subst hx;exact⟨KF h2 hr Au,by simp only;omega,by omega⟩
 rw[Kl he];exact Dn.ok ⟨hj,Nat.le_refl _,by simp only;omega,fun x hx=>by cases hx⟩
variable (hE:Ha E)
include hE
theorem bp {d:Cc}{h m:Tm}{a:List Tm}{s:σ}(hd:d∈E) (hj:J s) (hc:cnt s≤90200000) (hm:okB m=true) (ha:∀x∈a,okB x=true) {z:Nat}{y:Tm}(hy:a[(Cj d).toNat]?=some y) (hz:Bl a+a.length+size m≤z+size y) (hz2:z≤500000000000) :
  Dn (FQ E S d h a m s) (fun r=>J r.2∧cnt s≤cnt r.2∧cnt r.2≤cnt s+1∧∀x,r.1=some x→okB x=true∧cnt r.2=cnt s+1∧size x≤z+4500):=by
 have hg:=hE.g.all d hd;have hnone:Dn (.ok (none,s)) (fun r:Option Tm×σ=>J r.2∧cnt s≤cnt r.2∧cnt r.2≤cnt s+1∧∀x,r.1=some x→okB x=true∧cnt r.2=cnt s+1∧size x≤z+4500) :=
  Dn.ok ⟨hj,Nat.le_refl _,by simp only;omega,fun x hx=>by cases hx⟩
 cases hcw:DW E m with
 | none=>rw[Mm hcw];exact hnone
 | some q =>
  obtain⟨e,j,f⟩:=q;by_cases hn:e.name≠d.name∨j≥(d.recs.rules.length:Int)
  ·rw[QV hcw hn];exact hnone
  have hcf:=F4 hcw;have hlo:=hcf.lo;have hlt:j.toNat<d.recs.rules.length:=by omega
  have hr:=List.getElem?_eq_getElem hlt;have hrm:=List.getElem_mem hlt;by_cases he:(B1 d.recs.rules[j.toNat] h.levels).2=0
  ·rw[MO hcw hn hr he];have h1:=hg.ru _ hrm;have h2:=O7 h.levels h1;have h3:=Lq h.levels h1;have h4:=hE.ru d hd _ hrm;obtain⟨h5,h6⟩:=Jw hcw hm;have hni:=(GX hg.din hg.fx).1;have hf0:=hg.fx.1;have hk:(d.fixed+1+d.ctors.length).toNat≤(Cj d).toNat:=by unfold Cj;omega
   have hnn:(Cj d+1).toNat=(Cj d).toNat+1:=by unfold Cj;omega
   have t1:=D4 a (Cj d).toNat;have t2:=D4 (a.take (Cj d).toNat) (d.fixed+1+d.ctors.length).toNat;rw[List.take_take,Nat.min_eq_left hk] at t2;rw[Cy hy] at t1;simp only[Bl] at t1;have hlen:=(List.getElem?_eq_some_iff.1 hy).1;have u1:=Da (a.take (d.fixed+1+d.ctors.length).toNat) (B1 d.recs.rules[j.toNat] h.levels).1;have u2:=Da f (apply (B1 d.recs.rules[j.toNat] h.levels).1 (a.take (d.fixed+1+d.ctors.length).toNat));have hl1:(a.take (d.fixed+1+d.ctors.length).toNat).length≤(Cj d).toNat:=by rw[List.length_take];omega
   have hl2:(a.drop ((Cj d).toNat+1)).length+(Cj d).toNat+1=a.length:=by rw[List.length_drop];omega
   have h7:okB (apply (apply (B1 d.recs.rules[j.toNat] h.levels).1 (a.take (d.fixed+1+d.ctors.length).toNat)) f)=true :=
    Pc (Km (Km (Lh h2) fun x hx=>Lh (ha x (List.mem_of_mem_take hx))) fun x hx=>Lh (h5 x hx).1) (by rw[u2,u1];omega)
   refine Dn.put h7 fun s' hs'=>?_;obtain⟨h8,h9⟩:=hS.res _ _ _ _ hj Au h7 hs';have u3:=Da (a.drop (Cj d+1).toNat) (apply (apply (B1 d.recs.rules[j.toNat] h.levels).1 (a.take (d.fixed+1+d.ctors.length).toNat)) f);rw[hnn] at u3;refine Dn.ok ⟨h8,by simp only;omega,by simp only;omega,fun x hx=>?_⟩;simp only[Option.some.injEq] at hx;subst hx;rw[hnn];exact⟨Pc (Km (Lh h7) fun x hx=>Lh (ha x (List.mem_of_mem_drop hx))) Au,h9,by omega⟩
  rw[MK hcw hn hr he];exact hnone
variable (hW:kW S J cnt C n W)
include hW
theorem Zr {h:Tm}{a:List Tm}{s:σ}(hn:100≤n) (hj:J s) (ho:S.over s=false) (ha:∀x∈a,okB x=true) (hz:size h+Bl a+a.length+(C - cnt s)*4500≤90100000) (hf:size h+Bl a+a.length+(C - cnt s)*4501+100≤n+1) :
  Dn (Eo E S W n h a s) (Yu S J cnt C s (size h+Bl a+a.length)):=by
 have hC:=hS.hC;have hc:=hS.nov s hj ho;have hh:=size_pos h;have hnone:Dn (.ok (none,s)) (Yu S J cnt C s (size h+Bl a+a.length)):=Dn.ok ⟨hj,Nat.le_refl _,by simp only;omega,fun x hx=>by cases hx⟩;cases hu:Sv E h with
 | false=>rw[Jd hu];exact hnone
 | true =>
  obtain⟨i,d,h1,h2,hd,h3⟩:=KW hu;have hg:=hE.g.all d hd;by_cases k1:(B3 E h.name).1.kind=1
  ·rw[JF hu h3 k1];exact aV hS hj hc hg.vl (hE.vl d hd) ha Au
  by_cases k5:(B3 E h.name).1.kind=5
  ·rw[IJ hu h3 k5];by_cases hl:(a.length:Int)≤Cj d
   ·rw[Nx hl];exact hnone
   have hni:=(GX hg.din hg.fx).1;have hf0:=hg.fx.1;have hlt:(Cj d).toNat<a.length:=by unfold Cj at *;omega
   have hy:=List.getElem?_eq_getElem hlt;have hym:=List.getElem_mem hlt;have hys:=HS hym;rw[Rp hl hy];refine Dn.chk (hW s _ ⟨hj,ha _ hym,fun _=>by omega,fun _=>by omega,by omega⟩) fun r hr=>⟨hr.ok,?_⟩;have hub:=hr.ub ho;have hsz:=hr.sz;have hle:=hr.le;refine Dn.mono (bp hS hE hd hr.j Au hr.ok ha (z:=Bl a+a.length+(cnt r.2 - cnt s)*4500) hy Au Au) fun q hq=>?_;obtain⟨q1,q2,q3,q4⟩:=hq;exact⟨q1,by omega,by omega,fun x hx=>by obtain⟨q5,q6,q7⟩:=q4 x hx;exact⟨q5,by omega,by omega⟩⟩
  by_cases k6:(B3 E h.name).1.kind=6
  ·obtain⟨k,f,h4,h5⟩:=h2.func k6;have hf3:d.funs[(B3 E h.name).1.item.toNat]?=some f:=by rw[h5];simpa using h4
   have hfm:=List.mem_of_getElem? h4;obtain⟨f1,f2,f3⟩:=hg.fu f hfm;rw[HT hu h3 k6 hf3];by_cases hl:(a.length:Int)<f.arity
   ·rw[KS hl];exact hnone
   rw[KI hl];have hts:=D4 a f.arity.toNat;refine Dn.bind (VC hS hE hW (V:=size h+Bl a+a.length - 1+(C - cnt s)*4500) (L:=60000000) Au n f.tree (a.take f.arity.toNat) Bu s (size h+Bl a+a.length) (by have:=hE.fu d hd f hfm;omega) f3 Au (by have:=hE.fu d hd f hfm;rw[List.length_take];omega) (by have:=hE.fu d hd f hfm;omega)
    ⟨hj,fun v hv=>ha v (List.mem_of_mem_take hv),Kj,fun _ v hv=>by have:=HS (List.mem_of_mem_take hv);omega,fun _ v hv=>by have:=HS (List.mem_of_mem_take hv);omega,fun _=>?_,fun v hv=>by have:=HS (List.mem_of_mem_take hv);omega,by have:size Bu=1:=rfl;omega⟩) fun q hq=>?_
   ·have:size Bu=1:=rfl;have:1≤a.length:=by omega
    omega
   have hub:=hq.ub ho;have hle:=hq.le;have hstop:Dn (.ok (none,q.2)) (Yu S J cnt C s (size h+Bl a+a.length)):=Dn.ok ⟨hq.j,hq.le,by simp only;omega,fun x hx=>by cases hx⟩;unfold Pb;cases hq1:q.1.1 with
   | none=>exact hstop
   | some bv =>
    obtain⟨b,vars⟩:=bv;obtain⟨o1,o2⟩:=hq.ok b vars hq1;simp only;cases hov:S.over q.2 with
    | true=>rw[if_pos rfl];exact hstop
    | false =>
     rw[if_neg Av];have hc2:=hS.nov _ hq.j hov;refine Dn.mono (dx hS (z:=Bl a+a.length) hq.j hc2 o1 o2 (by have:=(hq.vl b vars hq1).1;omega) (hq.vl b vars hq1).2 (fun x hx=>ha x (List.mem_of_mem_drop hx)) (by rw[List.length_drop];omega) Au) fun r hr=>?_;obtain⟨q1,q2,q3,q4⟩:=hr;exact⟨q1,by omega,by omega,fun x hx=>by obtain⟨q5,q6,q7⟩:=q4 x hx;exact⟨q5,by omega,by omega⟩⟩
  rw[Ig hu k1 k5 k6];exact hnone
end
theorem Gl {h:Tm}(ho:okB h=true) {i:Nat}(hi:(i:Int)<arity h.kind):∃x,h.kids[i]?=some x∧okB x=true∧size x<size h:=by
 obtain⟨k,j,n,l,ks⟩:=h;have hw:=(Cd.1 ho).wt;simp only[Wt] at hw;simp only[Tm.kind] at hi;have hlt:i<ks.length:=by have:=hw.1;omega
 have hx:(Tm.mk k j n l ks).kids[i]?=some ks[i]:=List.getElem?_eq_getElem hlt;exact⟨ks[i],hx,GJ ho hx,by have:=Cs (List.getElem?_eq_getElem hlt);simp only[size];omega⟩
section
variable {σ:Type}{S:Sys σ}{J:σ→Prop}{cnt:σ→Nat}{C:Nat}{E:List Cc}
variable (hS:Xj S J cnt C) (hE:Ha E)
include hS
theorem kQ {β:Type}{s:σ}{x:Tm×Int}{k:Tm→σ→Out β}{q:β→Prop}(hj:J s) (hc:cnt s<1152921504606846976) (ho:okB x.1=true) (hk:∀s',J s'→cnt s'=cnt s+1→Dn (k x.1 s') q):Dn (S.put s x k) q :=
 Dn.put ho fun s' hs'=>by obtain⟨h1,h2⟩:=hS.res _ _ _ _ hj hc ho hs';exact hk s' h1 h2
theorem oJ {β:Type}{h:Tm}{a:List Tm}{s:σ}{k:Tm→σ→Out β}{q:β→Prop}(hj:J s) (hc:cnt s<1152921504606846976) (hh:okB h=true) (ha:∀x∈a,okB x=true) (hk:h.kind=5) (hl:a.length≠0) (hz:Bl a+a.length<500000000000)
  (hq:∀x s',J s'→cnt s'=cnt s+1→okB x=true→size x≤4096+Bl a+a.length→Dn (k x s') q):Dn (Oq S h a s k) q:=by
 obtain⟨b,hb,ho,hs⟩:=Gl hh (i:=1) (by rw[hk];decide);rw[Oq,hb];simp only;have hv:∀v∈a.take 1,okB v=true:=fun v hv=>ha v (List.mem_of_mem_take hv);have h1:=PU ho hv (by rw[List.length_take];omega);have h2:=K3 ho hv;refine kQ hS hj hc h1 fun s' g1 g2=>?_;have h3:=D4 a 1;have h4:=Da (a.drop 1) (Ce b (a.take 1) 0).1;have h5:(a.drop 1).length≤a.length:=by rw[List.length_drop];omega
 exact hq _ s' g1 g2 (KF h1 (fun x hx=>ha x (List.mem_of_mem_drop hx)) Au) Au
theorem rL {β:Type}{h:Tm}{a:List Tm}{s:σ}{k:Tm→σ→Out β}{q:β→Prop}(hj:J s) (hc:cnt s<1152921504606846976) (hh:okB h=true) (ha:∀x∈a,okB x=true) (hk:h.kind=11) (hz:Bl a+a.length<500000000000)
  (hq:∀x s',J s'→cnt s'=cnt s+1→okB x=true→size x≤4096+Bl a+a.length→Dn (k x s') q):Dn (Un S h a s k) q:=by
 obtain⟨v,hv,ho,hs⟩:=Gl hh (i:=1) (by rw[hk];decide);obtain⟨b,hb,ho2,hs2⟩:=Gl hh (i:=2) (by rw[hk];decide);rw[Un,hv,hb];simp only;have hvs:∀x∈[v],okB x=true:=fun x hx=>by rw[List.mem_singleton.1 hx];exact ho
 have h1:=PU ho2 hvs Av;have h2:=K3 ho2 hvs;refine kQ hS hj hc h1 fun s' g1 g2=>?_;have h4:=Da a (Ce b [v] 0).1;exact hq _ s' g1 g2 (KF h1 ha Au) Au
theorem nI {β:Type}{h p:Tm}{a:List Tm}{s:σ}{k:Tm→σ→Out β}{q:β→Prop}(hj:J s) (hc:cnt s<1152921504606846976) (hp:okB p=true) (ha:∀x∈a,okB x=true) (hk:h.kind=9∨h.kind=10) (h8:p.kind=8) (hz:size p+Bl a+a.length<540000000000)
  (hq:∀x s',J s'→cnt s'=cnt s+1→okB x=true→size x<size p+Bl a+a.length→Dn (k x s') q):Dn (Mx S h p a s k) q:=by
 have har:arity 8=3:=rfl;obtain⟨y,hy,ho,hs⟩:=Gl hp (i:=(1+h.kind - 9).toNat) (by rw[h8,har];omega);rw[Mx,hy];simp only;refine kQ hS hj hc ho fun s' g1 g2=>?_;have h4:=Da a y;exact hq (apply y a) s' g1 g2 (KF ho ha Au) Au
include hE
theorem Xy:∀n,kW S J cnt C n (D6 E S n)
 | 0=>fun s t hp=>absurd hp.n1 Au
 | n+1=>fun s t hp=>by
  have ih:=Xy n;have hC:=hS.hC;cases ho:S.over s with
  | true=>rw[YK hp.ok ho];exact Dn.ok ⟨hp.j,hp.ok,Nat.le_refl _,by simp,fun h=>absurd (ho.symm.trans h) Av,fun _=>rfl⟩
  | false =>
   have hc:=hS.nov s hp.j ho;have hpm:=hp.pm ho;have hfu:=hp.fu ho;have hst:=size_pos t;have hss:=HO t;obtain⟨oh,oa⟩:=IE hp.ok;have hsame:∀s',J s'→cnt s≤cnt s'→cnt s'≤C+1+size t+(C - cnt s)*4500→Dn (.ok (t,s')) (Wp S J cnt C s t):=fun s' g1 g2 g3 =>
    Dn.ok ⟨g1,hp.ok,g2,by simp only;omega,fun _=>g3,fun e=>absurd (ho.symm.trans e) Av⟩
   have cont:∀(x:Tm) (s':σ),J s'→okB x=true→cnt s+1≤cnt s'→size x≤size t+(cnt s' - cnt s)*4500→cnt s'≤C+1+size t+(C - cnt s)*4500→Dn (D6 E S n s' x) (Wp S J cnt C s t):=by
    intro x s' g1 g2 g3 g4 g5;refine Dn.mono (ih s' x ⟨g1,g2,fun h=>by have:=hS.nov _ g1 h;omega,fun h=>by have:=hS.nov _ g1 h;omega,by omega⟩) fun r hr=>?_;have hle:=hr.le;have hsz:=hr.sz;refine⟨hr.j,hr.ok,by omega,by omega,fun _=>?_,fun e=>absurd (ho.symm.trans e) Av⟩;cases hov:S.over s' with
    | true=>rw[hr.st hov];exact g5
    | false=>have:=hr.ub hov;have:=hS.nov _ g1 hov;omega
   cases hm:S.many (BK t).2.length with
   | true=>rw[Y9 hp.ok ho hm];trivial
   | false =>
    by_cases k5:(BK t).1.kind=5
    ·by_cases hl:(BK t).2.length=0
     ·rw[OB hp.ok ho hm k5 hl];exact hsame s hp.j (Nat.le_refl _) Au
     obtain⟨b,hb,_⟩:=Gl oh (i:=1) (by rw[k5];decide);have e:=R2 (E:=E) (n:=n) hp.ok ho hm k5 hl hb;rw[e];have hbt:=oJ hS (k:=fun x s'=>D6 E S n s' x) (q:=Wp S J cnt C s t) hp.j Au oh oa k5 hl Au fun x s' g1 g2 g3 g4=>cont x s' g1 g3 Au Au Au;rw[Oq,hb] at hbt;exact hbt
    by_cases k11:(BK t).1.kind=11
    ·obtain⟨v,hv,_⟩:=Gl oh (i:=1) (by rw[k11];decide);obtain⟨b,hb,_⟩:=Gl oh (i:=2) (by rw[k11];decide);rw[Rs (E:=E) (n:=n) hp.ok ho hm k11 hv hb];have hbt:=rL hS (k:=fun x s'=>D6 E S n s' x) (q:=Wp S J cnt C s t) hp.j Au oh oa k11 Au fun x s' g1 g2 g3 g4=>cont x s' g1 g3 Au Au Au;rw[Un,hv,hb] at hbt;exact hbt
    by_cases k9:(BK t).1.kind=9∨(BK t).1.kind=10
    ·obtain⟨p,hpk,op,sp⟩:=Gl oh (i:=0) (by rcases k9 with h | h<;>rw[h]<;>decide);rw[Of (E:=E) (n:=n) hp.ok ho hm k9 hpk];refine Dn.chk (ih s p ⟨hp.j,op,fun _=>by omega,fun _=>by omega,by omega⟩) fun r hr=>⟨hr.ok,?_⟩;have hub:=hr.ub ho;have hsz:=hr.sz;have hle:=hr.le;by_cases k8:r.1.kind=8
     ·have e:Pw E S n (BK t).1 (BK t).2 r=Mx S (BK t).1 r.1 (BK t).2 r.2 fun x s'=>D6 E S n s' x:=by rw[Pw,if_neg Au]
      rw[e];exact nI hS hr.j Au hr.ok oa k9 k8 Au fun x s' g1 g2 g3 g4=>cont x s' g1 g3 Au Au Au
     rw[Lu k8];have h4:=Da (BK t).2 (Iz (BK t).1.kind r.1);have h5:size (Iz (BK t).1.kind r.1)=1+size r.1:=by simp only[Iz,size,Bl];omega
     have h6:1+size p≤size (BK t).1:=by omega
     exact Dn.ok ⟨hr.j,KF (iL k9 hr.ok Au) oa Au,hle,by simp only;omega,fun _=>by simp only;omega,fun e=>absurd (ho.symm.trans e) Av⟩
    by_cases k3:(BK t).1.kind=3
    ·rw[KV (E:=E) (n:=n) hp.ok ho hm k3];refine Dn.bind (Zr hS hE ih Au hp.j ho oa Au Au) fun r hr=>?_;have hub:=hr.ub;unfold Yj;cases hr1:r.1 with
     | none=>exact hsame r.2 hr.j hr.le Au
     | some x =>
      obtain⟨g1,g2,g3⟩:=hr.ok x hr1;exact cont x r.2 hr.j g1 g2 Au Au
    rw[Vw (E:=E) (n:=n) hp.ok ho hm k5 k11 (fun h=>k9 (.inl h)) (fun h=>k9 (.inr h)) k3];exact hsame s hp.j (Nat.le_refl _) Au
end
def UT:Tm→List Int→Tm→Prop
 | t,[],v=>t=v
 | t,p::ps,v=>∃y,(BK t).2[p.toNat]?=some y∧UT y ps v
theorem S9 {k:Int}{w:Tm}:∀{ps:List Int}{t v:Tm},UT t ps v→(BK v).2[k.toNat]?=some w→UT t (ps++[k]) w
 | [],t,v,h,hw=>by cases h;exact⟨w,hw,rfl⟩
 | p::ps,t,v,⟨y,h1,h2⟩,hw=>⟨y,h1,S9 h2 hw⟩
structure cO (a vars:List Tm) (pl:List (Int×List Int)):Prop where
 len:pl.length=vars.length
 at_:∀(i:Nat) v,vars[i]?=some v→∃j path y,pl[i]?=some (j,path)∧a[j.toNat]?=some y∧UT y path v
theorem Kp (p:Int×List Int) (fx:Int) (n:Nat):(E6 p fx n).length=n:=by simp[E6]
theorem cO.more {a vars:List Tm}{pl:List (Int×List Int)}(h:cO a vars pl) {i:Nat}{v:Tm}{p:Int×List Int}(hv:vars[i]?=some v) (hp:pl[i]?=some p) {fx:Int}(hfx:0≤fx):cO a (vars++(BK v).2.drop fx.toNat) (pl++E6 p fx ((BK v).2.drop fx.toNat).length):=by
 refine⟨by rw[List.length_append,List.length_append,h.len,Kp],fun q w hw=>?_⟩;by_cases hq:q<vars.length
 ·rw[List.getElem?_append_left hq] at hw;rw[List.getElem?_append_left (by rw[h.len];exact hq)];exact h.at_ q w hw
 rw[List.getElem?_append_right Au] at hw;rw[List.getElem?_append_right (by rw[h.len];omega),h.len];obtain⟨j,path,y,h1,h2,h3⟩:=h.at_ i v hv;rw[hp] at h1;cases h1;have hlt:=(List.getElem?_eq_some_iff.1 hw).1;rw[List.getElem?_drop] at hw;refine⟨j,path++[fx+((q - vars.length:Nat):Int)],y,?_,h2,S9 h3 (by rw[show (fx+((q - vars.length:Nat):Int)).toNat=fx.toNat+(q - vars.length) by omega];exact hw)⟩;rw[E6,List.getElem?_map,List.getElem?_range hlt];rfl
theorem au (a:List Tm) (n:Nat) (hn:n≤a.length):cO a (a.take n) ((List.range n).map fun i:Nat=>((i:Int),[])):=by
 refine⟨by simp;omega,fun i v hv=>?_⟩;have hlt:=(List.getElem?_eq_some_iff.1 hv).1;rw[List.length_take] at hlt;rw[List.getElem?_take_of_lt Au] at hv;exact⟨(i:Int),[],v,by rw[List.getElem?_map,List.getElem?_range Au];rfl,by simpa using hv,rfl⟩
section
variable {σ:Type}{S:Sys σ}{J:σ→Prop}{cnt:σ→Nat}{C:Nat}{E:List Cc}
structure sG (S:Sys σ) (J:σ→Prop) (cnt:σ→Nat) (s:σ) (z:Nat) (r:Option Tm×σ):Prop where
 j:J r.2
 le:cnt s≤cnt r.2
 ub:cnt r.2≤cnt s+1
 ok:∀x,r.1=some x→okB x=true∧size x≤z+4500
variable (hS:Xj S J cnt C) (hE:Ha E)
omit hS hE in
include hS
include hE
end
section
variable {σ:Type}{S:Sys σ}{J:σ→Prop}{cnt:σ→Nat}{C:Nat}{E:List Cc}
variable (hS:Xj S J cnt C) (hE:Ha E)
include hS hE
end
def l9 (c:Ev):Prop:=c.limit=1000∧0≤c.steps∧(c.over=false→c.steps≤1000)
theorem jV:Xj Du l9 (fun c=>c.steps.toNat) 1000:=by
 refine⟨fun c h ho=>?_,fun c t e c' h hc ho hr=>?_,by omega⟩
 ·have h1:=h.2.1;have h2:=h.2.2 ho;omega
 simp only[Du,Option.some.injEq] at hr;subst hr;obtain⟨h1,h2,h3⟩:=h;have hw:wr (c.steps+1)=c.steps+1:=Er (by unfold I3;omega);simp only[Ev.result,Ev.form,l9,hw,h1];refine⟨⟨Aw,by omega,fun ho=>?_⟩,by omega⟩;simp only[Bool.or_eq_false_iff,decide_eq_false_iff_not] at ho;omega
def HF (n:Int):Prop:=0≤n∧n≤20000
theorem jb:Xj CI HF (fun n=>(20000 - n).toNat) 20000:=by
 refine⟨fun n h _=>?_,fun n t e n' h hc ho hr=>?_,by omega⟩
 ·have:=h.1;omega
 simp only[CI] at hr;split at hr
 ·cases hr
 cases hr;unfold HF at *;omega
theorem OM {E:List Cc}{nm:ByteArray}(h:(Ct E nm).2.2=true):Hg E nm=some ((Ct E nm).1,(Ct E nm).2.1):=by
 unfold Ct at h ⊢;split at h
 ·rename_i d j e;rw[e]
 cases h
theorem ib {E:List Cc}{nm:ByteArray}(h:(Ct E nm).2.2=false):Hg E nm=none:=by
 unfold Ct at h;split at h
 ·cases h
 rename_i e;exact e
theorem XW {E:List Cc}{nm:ByteArray}(hE:J7 E) (h:(Ct E nm).2.2=true) (hj:¬(Ct E nm).2.1<0):Nn (Ct E nm).1∧(0≤(Ct E nm).1.fixed∧(Ct E nm).1.fixed≤1000000)∧0≤(Ct E nm).2.1∧(Ct E nm).2.1<(Ct E nm).1.ctors.length:=by
 obtain⟨h1,h2⟩:=T6 (OM h);exact⟨(hE.all _ h1).din,(hE.all _ h1).fx,by omega,h2 Au⟩
section
variable {E:List Cc}{t:Tm}{k i:Int}{n:ByteArray}{ls:List Cl}{ks:List Tm}
theorem Y1 (hz:(BK t).1= .mk k i n ls ks) (h:k≠3):DW E t=none:=by
 have hk:(BK t).1.kind=k:=by rw[hz];rfl
 unfold DW;rw[if_pos Au]
theorem Yz (hz:(BK t).1= .mk k i n ls ks) (h3:k=3) (h:(Ct E n).2.2=false∨(Ct E n).2.1<0):DW E t=none:=by
 have hk:(BK t).1.kind=k:=by rw[hz];rfl
 have hnm:(BK t).1.name=n:=by rw[hz];rfl
 unfold DW;rw[if_neg Au,hnm];cases hf:(Ct E n).2.2 with
 | false=>rw[ib hf]
 | true =>
  rw[OM hf];rcases h with h | h
  ·rw[hf] at h;cases h
  simp only[if_pos h]
theorem ZN (hz:(BK t).1= .mk k i n ls ks) (h3:k=3) (hf:(Ct E n).2.2=true) (hj:¬(Ct E n).2.1<0) (h:((BK t).2.length:Int)≠(Ct E n).1.fixed+Fe (Ct E n).1 (Ct E n).2.1):DW E t=none:=by
 have hk:(BK t).1.kind=k:=by rw[hz];rfl
 have hnm:(BK t).1.name=n:=by rw[hz];rfl
 unfold DW;rw[if_neg Au,hnm,OM hf];simp only[if_neg hj,if_pos h]
theorem ed (hz:(BK t).1= .mk k i n ls ks) (h3:k=3) (hf:(Ct E n).2.2=true) (hj:¬(Ct E n).2.1<0) (h:((BK t).2.length:Int)=(Ct E n).1.fixed+Fe (Ct E n).1 (Ct E n).2.1):DW E t=some ((Ct E n).1,(Ct E n).2.1,(BK t).2.drop (Ct E n).1.fixed.toNat):=by
 have hk:(BK t).1.kind=k:=by rw[hz];rfl
 have hnm:(BK t).1.name=n:=by rw[hz];rfl
 unfold DW;rw[if_neg Au,hnm,OM hf];simp only[if_neg hj,if_neg (show ¬((BK t).2.length:Int)≠(Ct E n).1.fixed+Fe (Ct E n).1 (Ct E n).2.1 by omega)]
end
theorem NM {d:Cc}{j:Int}(h:Nn d) (h0:0≤j) (h1:j<d.ctors.length) (hf:0≤d.fixed):0≤Fe d j∧Fe d j≤1000000:=by
 have hlt:j.toNat<d.ctors.length:=by omega
 have hx:=List.getElem?_eq_getElem hlt;have hs:=(h.cs _ (List.getElem_mem hlt)).ty.sz;have hl:=Ih d.ctors[j.toNat].type;unfold Fe W8 FD;rw[Cm hx];omega
section
variable {E:List Cc}{t:Tm}{k i:Int}{n:ByteArray}{ls:List Cl}{ks:List Tm}
theorem hP (hz:(BK t).1= .mk k i n ls ks) (h3:k=3) (h:(Ct E n).2.2=false∨(Ct E n).2.1<0∨((BK t).2.length:Int)≠(Ct E n).1.fixed+Fe (Ct E n).1 (Ct E n).2.1):DW E t=none:=by
 by_cases h1:(Ct E n).2.2=false∨(Ct E n).2.1<0
 ·exact Yz hz h3 h1
 rcases h with h | h | h
 ·exact absurd (.inl h) h1
 ·exact absurd (.inr h) h1
 exact ZN hz h3 (by simpa using fun e=>h1 (.inl e)) (fun e=>h1 (.inr e)) h
end
theorem Qp {d:Cc}{j:Int}{x:Im}(hx:d.ctors[j.toNat]?=some x) (hf:0≤d.fixed):d.fixed+Fe d j=max d.fixed (((HL x.type).1.length:Nat):Int):=by
 unfold Fe W8 FD;rw[Cm hx];omega
def CY (E:List Cc) (t:Tm):Cc×Int×List Tm×Bool:=match DW E t with
 | some (d,j,l)=>(d,j,l,true)
 | none=>(Vc,0,[],false)
theorem Ms {E:List Cc}{t:Tm}(h:DW E t=none):CY E t=(Vc,0,[],false):=by unfold CY;rw[h]
theorem QN {E:List Cc}{t:Tm}{d:Cc}{j:Int}{l:List Tm}(h:DW E t=some (d,j,l)):CY E t=(d,j,l,true):=by unfold CY;rw[h]
theorem Me {E:List Cc}{t:Tm}(h:(CY E t).2.2.2=true):DW E t=some ((CY E t).1,(CY E t).2.1,(CY E t).2.2.1):=by
 cases e:DW E t with
 | none=>rw[Ms e] at h;cases h
 | some q=>obtain⟨d,j,l⟩:=q;rw[QN e]
theorem N9 {E:List Cc}{t:Tm}(h:(CY E t).2.2.2=false):DW E t=none:=by
 cases e:DW E t with
 | none=>rfl
 | some q=>obtain⟨d,j,l⟩:=q;rw[QN e] at h;cases h
end Go.Eu
namespace Go.Eu
def Mt (nm:ByteArray):List GP→Int→Int
 | [],_=> -1
 | b::l,i=>if b.ctor=nm then i else Mt nm l (i+1)
theorem jK {nm:ByteArray}{l:List GP}{i:Nat}{x:GP}{k:Int}(h:l[i]?=some x) (e:x.ctor.toList=nm.toList):Mt nm (l.drop i) k=k:=by
 rw[Cy h,Mt,if_pos (G3 e)]
theorem kq {nm:ByteArray}{l:List GP}{i:Nat}{x:GP}{k:Int}(h:l[i]?=some x) (e:¬x.ctor.toList=nm.toList):Mt nm (l.drop i) k=Mt nm (l.drop (i+1)) (k+1):=by
 rw[Cy h,Mt,if_neg (fun q=>e (by rw[q]))]
theorem Xt {nm:ByteArray}:∀(l:List GP) (k:Int),0≤k→Mt nm l k<0∧C8 nm l=none∨∃(j:Nat) (x:GP),Mt nm l k=k+j∧l[j]?=some x∧C8 nm l=if x.absurd=true then none else some x.tree
 | [],k,h=> .inl ⟨by simp[Mt],rfl⟩
 | b::l,k,h=>by
  rw[Mt,C8];split
  ·exact .inr ⟨0,b,by simp,rfl,rfl⟩
  rcases Xt l (k+1) Au with h1 | ⟨j,x,h1,h2,h3⟩
  ·exact .inl h1
  exact .inr ⟨j+1,x,by rw[h1];push_cast;omega,by simpa using h2,h3⟩
theorem ck {nm:ByteArray}{l:List GP}(h:Mt nm l 0<0):C8 nm l=none:=by
 rcases Xt (nm:=nm) l 0 Au with h1 | ⟨j,x,h1,h2,h3⟩
 ·exact h1.2
 omega
theorem kO {nm:ByteArray}{l:List GP}(h:¬Mt nm l 0<0):∃x,l[(Mt nm l 0).toNat]?=some x∧C8 nm l=if x.absurd=true then none else some x.tree:=by
 rcases Xt (nm:=nm) l 0 Au with h1 | ⟨j,x,h1,h2,h3⟩
 ·exact absurd h1.1 h
 exact⟨x,by rw[h1];simpa using h2,h3⟩
end Go.Eu
namespace Go.Eu
open Go.Abs
theorem ct {nm:ByteArray}:∀{l:List GP}{t:Fl},C8 nm l=some t→Nh l→Hr t
 | .mk c a q::l,t,h,ho=>by
  simp only[Nh,Rt] at ho;rw[C8] at h;split at h
  ·split at h
   ·cases h
   cases h;exact ho.1.2
  exact ct h ho.2
theorem mA {nm:ByteArray}{t t':Fl}(h:C8 nm t.branches=some t') (ho:Hr t):Hr t':=ct h ho.bs
def KR (q:Option (Tm×List Tm)×Tm):Tm:=match q.1 with
 | some (b,_)=>b
 | none=>Bu
def Nl (q:Option (Tm×List Tm)×Tm):List Tm:=match q.1 with
 | some (_,v)=>v
 | none=>[]
structure SQ (y:Fl) (us:List Tm):Prop where
 tin:Hr y
 tok:GA y
 len:us.length+EM y*1000000≤100000000
 ok:∀v∈us,okB v=true
theorem SQ.next {E:List Cc}{y q:Fl}{us f:List Tm}{x:Tm}{nm:ByteArray}{d:Cc}{j:Int}(h:SQ y us) (hE:J7 E) (hx:okB x=true) (hc:DW E x=some (d,j,f)) (hb:C8 nm y.branches=some q):SQ q (us++f):=by
 obtain⟨h1,h2⟩:=W3 hb h.tok;have h3:=JS hE hc;have h4:=h.len;refine⟨mA hb h.tin,h1,by rw[List.length_append];omega,fun v hv=>?_⟩;rcases List.mem_append.1 hv with hv | hv
 ·exact h.ok v hv
 exact((Jw hc hx).1 v hv).1
def X5:Fl:= .mk 0 Bu 0 []
def Xb (nm:ByteArray):List GP→Fl×Bool
 | []=>(X5,false)
 | b::l=>if b.ctor=nm then (b.tree,!b.absurd) else Xb nm l
theorem eD {nm:ByteArray}{l:List GP}{i:Nat}{x:GP}(h:l[i]?=some x):Xb nm (l.drop i)=if x.ctor=nm then (x.tree,!x.absurd) else Xb nm (l.drop (i+1)):=by rw[Cy h,Xb]
theorem cX (nm:ByteArray):∀(l:List GP),C8 nm l=if (Xb nm l).2=true then some (Xb nm l).1 else none
 | []=>rfl
 | b::l=>by
  rw[C8,Xb];split
  ·cases b.absurd<;>rfl
  exact cX nm l
theorem bW {nm:ByteArray}{l:List GP}(h:(Xb nm l).2=true):C8 nm l=some (Xb nm l).1:=by rw[cX,if_pos h]
theorem cK {nm:ByteArray}{l:List GP}(h:(Xb nm l).2=false):C8 nm l=none:=by rw[cX,if_neg (by simp[h])]
def bL (nm:ByteArray) (l:List GP):Fl×Bool:=match C8 nm l with
 | some q=>(q,true)
 | none=>(X5,false)
theorem cj {nm:ByteArray}{l:List GP}(h:C8 nm l=none):bL nm l=(X5,false):=by unfold bL;rw[h]
theorem cW {nm:ByteArray}{l:List GP}{q:Fl}(h:C8 nm l=some q):bL nm l=(q,true):=by unfold bL;rw[h]
theorem Wb {nm:ByteArray}{l:List GP}(h:(bL nm l).2=true):C8 nm l=some (bL nm l).1:=by
 cases e:C8 nm l with
 | none=>rw[cj e] at h;cases h
 | some q=>rw[cW e]
theorem V4 {nm:ByteArray}{l:List GP}(h:(bL nm l).2=false):C8 nm l=none:=by
 cases e:C8 nm l with
 | none=>rfl
 | some q=>rw[cW e] at h;cases h
end Go.Eu
namespace Go.Proofs.YtboammbpdaoojaaGreat
open Go.Abs Go.Eu
theorem _root_.Go.AR {α:Prop}(h:α:=by simp only[Bh,List.length_map];omega):α:=h
theorem VY:∀(ds:List Cc) (t:Tm),(J7 ds)→(okB t=true)→Et Tryz.prog 49 [.p (.lst (List.map Bw ds)),.agg ((Bg t).map .p)] (.tup [.agg ((Bw ((CY ds t).1)).map .p),.p (I ((CY ds t).2.1)),.p (.lst (BO ((CY ds t).2.2.1))),.p (.bool ((CY ds t).2.2.2))]):=by
 intro ds t h1 h2;have ho:=Cd.1 h2;have hosz:=ho.sz;have hoss:=HO t;have hosl:=PG t;have hosp:=IE h2;refine BD Tryz.func49 O qk (n:=54) O O (A4 (BP O (Bf O) fun b3=>BP O (BF Je O) fun b4=>Az BA 3 [] O (A4 (Ay O (BI (i:=1) Bd O O Am) (Ay O (BN O O (WN _ t (Nat.le_refl _) Ad) O) (A5 BA 3 [] O (BP O (BF B8 O) fun b8=>Az BA 2 [0,1] O (A1 (A4 (Ay O (Ax DV O O) ?_))))))))));generalize hz:(BK t).1=z;obtain⟨zk,zi,zn,zl,zs⟩:=z;refine Az BA 2 [0] O (A3 O (fun c=>?_) (fun c=>?_))
 ·(try simp only[sd,se] at c);refine A2 BA 5 [1,0] O (BS (Bj (i:=1) O) (BS (ER 6) (A6 (⟨O,_,_,⟨_,_,O,(BJ (i:=1) EJ O O O),⟨_,_,O,O,⟨_,_,O,O,⟨_,_,O,O,O⟩⟩⟩⟩,(List.nil_sublist _),?_⟩))))
  all_goals exact⟨by show (.tup [.agg [.p (I 0),.p (.str ⟨#[]⟩),.p (I 0),.p (I 0),.p (I 0),.p (.str ⟨#[]⟩),.p (.lst []),.p (.lst []),.p (I 0),.p (I 0),.p (.str ⟨#[]⟩),.p (.lst []),.p (.lst []),.p (I 0),.p (.lst []),.p (I 0),.p (I 0),.p (I 0),.p (.str ⟨#[]⟩),.p (.lst []),.p (.lst []),.p (.lst []),.p (.lst [])],.p (I 0),.p (.lst (BO [])),.p (.bool false)]:AV)=_;rw[Ms (Y1 hz c)];rfl,rfl⟩
 (try simp only[sd,se] at c);refine A7 (A4 (A5 BA 3 [0] O (Ay O (BN O O (RD ds zn h1.env) O) (A5 BA 4 [] O (BP O (BF Je O) fun b10=>Az BA 3 [0,1] O (A1 (A1 (Bi [4,9,10,11] 46 (fun y=>y= .p (.bool (((!((Ct ds zn).2.2))||(decide (((Ct ds zn).2.1:Int)<(0:Int))))||(((((BK t).2).length:Nat):Int) !=((((Ct ds zn).1).fixed:Int)+(Fe (Ct ds zn).1 (Ct ds zn).2.1:Int):Int))))) ?_ ?_))))))))
 ·refine B7 (fun k=>false) D7 (A0 O (fun _=>BB O) Aw (A0 O (fun _=>MT O) Aw (A0 O (fun _=>BB O) Aw (EB 32 O (fun g=>?_) (fun g=>?_)))))
  ·(try simp only[sd,se] at g);exact BR O Aw (BR O Aw (A0 O (fun _=>B2 O O) Aw (A0 O (fun _=>BB O) Aw (BR O Aw (BR O Aw (BR O Aw (BR O Aw (BR O Aw (BR O Aw (BR O Aw (BR O Aw (BR O Aw (A0 O (fun _=>B2 O O) Aw (Bv O Ap (⟨O,O,AM,AJ,⟨O,O,O,O,Aw⟩⟩)))))))))))))))
  (try simp only[sd,se] at g);have hf1:(Ct ds zn).2.2=true:=by simpa using g
  refine Be O (fun _=>BB O) Aw (Be O (fun _=>C4 O O O) Aw (A0 O (fun _=>B2 O O) Aw (A0 O (fun _=>BB O) Aw (EB 36 O (fun g1=>?_) (fun g1=>?_)))))
  ·(try simp only[sd,se] at g1);exact BR O Aw (BR O Aw (BR O Aw (BR O Aw (BR O Aw (BR O Aw (BR O Aw (BR O Aw (BR O Aw (A0 O (fun _=>B2 O O) Aw (Bv O Ap (⟨O,O,AM,AJ,⟨O,O,O,O,Aw⟩⟩)))))))))))
  (try simp only[sd,se] at g1);have hf2:¬(Ct ds zn).2.1<0:=by simpa using g1
  have hfd:=XW h1 hf1 hf2;have hfr:=NM hfd.1 hfd.2.2.1 hfd.2.2.2 hfd.2.1.1;have hfx:=hfd.2.1;exact Be O (fun _=>BB O) Aw (Be O (fun _=>BZ Bq O (Bh _)) Aw (Be O (fun _=>Ax Cv O O) Aw (Co (i:=0) O O O O O (fun H i hi=>A9 (i:=i) C0 O hi (C3 _)) AB Aw (Co (i:=0) O O O O O (fun H i hi=>BI (i:=i) EJ O hi Aj) AB Aw (Be O (fun _=>BB O) Aw (Be O (fun _=>BN O O (Z7 ((Ct ds zn).1) ((Ct ds zn).2.1) hfd.1 hfd.2.1 hfd.2.2.1 hfd.2.2.2) O) Aw (Be O (fun _=>ET O O Au Au) Aw (Be O (fun _=>C4 O O O) Aw (A0 O (fun _=>B2 O O) Aw (Bv O Ap (⟨O,O,AM,AJ,⟨O,O,O,O,Aw⟩⟩)))))))))))
 rintro _ rfl;refine A3 O (fun c1=>?_) (fun c1=>?_)
 ·(try simp only[sd,se] at c1);have hcc:=or_assoc.1 c1;refine A2 BA 5 [2,0] O (BS (Bj (i:=2) O) (BS (ER 6) (A6 (⟨O,_,_,⟨_,_,O,(BJ (i:=2) EJ O O O),⟨_,_,O,O,⟨_,_,O,O,⟨_,_,O,O,O⟩⟩⟩⟩,(List.nil_sublist _),?_⟩))))
  all_goals exact⟨by show (.tup [.agg [.p (I 0),.p (.str ⟨#[]⟩),.p (I 0),.p (I 0),.p (I 0),.p (.str ⟨#[]⟩),.p (.lst []),.p (.lst []),.p (I 0),.p (I 0),.p (.str ⟨#[]⟩),.p (.lst []),.p (.lst []),.p (I 0),.p (.lst []),.p (I 0),.p (I 0),.p (I 0),.p (.str ⟨#[]⟩),.p (.lst []),.p (.lst []),.p (.lst []),.p (.lst [])],.p (I 0),.p (.lst (BO [])),.p (.bool false)]:AV)=_;rw[Ms (hP hz (by simpa using c) hcc)];rfl,rfl⟩
 (try simp only[sd,se] at c1);have hcc:(Ct ds zn).2.2=true∧¬(Ct ds zn).2.1<0∧((BK t).2.length:Int)=(Ct ds zn).1.fixed+Fe (Ct ds zn).1 (Ct ds zn).2.1:=⟨c1.1.1,by omega,c1.2⟩;have hfd:=XW h1 hcc.1 hcc.2.1;have hfr:=NM hfd.1 hfd.2.2.1 hfd.2.2.2 hfd.2.1.1;have hfx:=hfd.2.1;have hl3:=hcc.2.2;refine A7 (A1 (B7 (fun k=>false) D7 (BT (j:=0) O O O (fun H i hi=>BI (i:=i) EJ O hi Aj) AB Aw (A0 O (fun _=>BB O) Aw (A0 O (fun _=>BB O) Aw (A0 O (fun _=>Ax Cv O O) Aw (BT (j:=0) O O O (fun H i hi=>A9 (i:=i) C0 O hi (C3 _)) AB Aw (A0 O (fun _=>Cp (lo:=(((Ct ds zn).1).fixed:Int).toNat) Bq O (CT (B9 _)) ⟨_,pI Au⟩ O AR (Nat.le_refl _) (Jo ((BK t).2) ((((Ct ds zn).1).fixed:Int).toNat))) Aw (CF O O (Bc (i:=2) EJ O O O Aj AZ (Jt _)) AB Aw (A0 O (fun _=>Bb O) Aw (A0 O (fun _=>Bb O) Aw (A0 O (fun _=>Bb O) Aw (Bv O Ap (A6 (⟨O,_,_,⟨_,_,O,(BJ (i:=2) EJ O O Aj),⟨_,_,O,O,⟨_,_,O,O,⟨_,_,O,O,O⟩⟩⟩⟩,(List.nil_sublist _),?_⟩)))))))))))))))
 all_goals exact⟨by show (.tup [.agg ((Bw ((Ct ds zn).1)).map .p),.p (I ((Ct ds zn).2.1)),.p (.lst (BO (((BK t).2).drop ((((Ct ds zn).1).fixed:Int).toNat)))),.p (.bool true)]:AV)=_;rw[QN (ed hz (by simpa using c) hcc.1 hcc.2.1 hcc.2.2)],rfl⟩
end Go.Proofs.YtboammbpdaoojaaGreat
