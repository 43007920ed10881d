/- Part of the proofs: an abstract program logic, plain models and contracts of functions. -/
import Derived.Shelf.SlIterI.Nil
import Derived.Shelf.SortM.Plain
import Derived.Shelf.SortM.SortNone
import Derived.Ground.GgzProg
import Derived.Ground.SlgmProg
import Derived.Test.YtboammbpdaoojaaGreatProg
import Derived.Test.YtboammbpdaoojaaGreatPe
import Derived.Test.YtboammbpdaoojaaGreatPb
import Derived.Test.YtboammbpdaoojaaGreatPf
import Derived.Test.YtboammbpdaoojaaGreatPd
import Derived.Test.YtboammbpdaoojaaGreatPc
set_option linter.unusedVariables false
set_option linter.unusedSimpArgs false
set_option maxRecDepth 100000
namespace Go.Proofs
open Go.Shelf
def Tryz.keysA_ren:Go.Shelf.Ren:=⟨fun | 7=>193 | 10=>199 | n=>n,fun | 23=>229 | 26=>3 | 3=>3 | 28=>240 | 0=>0 | 27=>239 | 33=>245 | 4=>4 | n=>n,fun | n=>n⟩
theorem Tryz.keysA:Go.Proofs.SlLaysZI.n7 Tryz.prog Tryz.keysA_ren:={
 mixed:=by kernel_rfl
 f7:=⟨Tryz.f193.name,by decide,Tryz.func193.trans (congrArg some Ak)⟩
 f10:=⟨Tryz.f199.name,by decide,Tryz.func199.trans (congrArg some Ak)⟩
 t0:=Tryz.underlying0
 a0:=Tryz.isAgg0
 z0:=Tryz.sizeOf0
 v0:=Tryz.zeroValue0
 t4:=Tryz.underlying4
 a4:=Tryz.isAgg4
 z4:=Tryz.sizeOf4
 v4:=Tryz.zeroValue4
 t23:=Tryz.underlying229
 a23:=Tryz.isAgg229
 z23:=Tryz.sizeOf229
 v23:=Tryz.zeroValue229
 t26:=Tryz.underlying3
 a26:=Tryz.isAgg3
 z26:=Tryz.sizeOf3
 v26:=Tryz.zeroValue3
 t27:=Tryz.underlying239
 a27:=Tryz.isAgg239
 z27:=Tryz.sizeOf239
 v27:=Tryz.zeroValue239
 t28:=Tryz.underlying240
 a28:=Tryz.isAgg240
 z28:=Tryz.sizeOf240
 v28:=Tryz.zeroValue240
 t33:=Tryz.underlying245
 a33:=Tryz.isAgg245
 z33:=Tryz.sizeOf245
 v33:=Tryz.zeroValue245 }
def Tryz.sortedA_ren:Go.Shelf.Ren:=⟨fun | 6=>192 | 8=>197 | 9=>198 | 11=>201 | 13=>203 | 12=>202 | 23=>213 | 24=>214 | 14=>204 | 15=>205 | 16=>206 | 17=>207 | 18=>208 | 19=>209 | 20=>210 | 21=>211 | 22=>212 | 25=>215 | 26=>216 | 27=>217 | 28=>218 | 29=>219 | 30=>220 | 31=>221 | n=>n,fun | 26=>3 | 28=>240 | 24=>137 | 0=>0 | 3=>3 | 37=>250 | 48=>260 | 50=>262 | 4=>4 | 40=>253 | 39=>252 | 45=>45 | 5=>5 | 9=>9 | 51=>263 | 55=>267 | 57=>269 | 58=>110 | 33=>245 | n=>n,fun | n=>n⟩
theorem Tryz.sortedA:Go.Proofs.SlLaysZI.n6 Tryz.prog Tryz.sortedA_ren:={
 mixed:=by kernel_rfl
 f6:=⟨Tryz.f192.name,by decide,Tryz.func192.trans (congrArg some Ak)⟩
 f8:=⟨Tryz.f197.name,by decide,Tryz.func197.trans (congrArg some Ak)⟩
 f11:=⟨Tryz.f201.name,by decide,Tryz.func201.trans (congrArg some Ak)⟩
 t0:=Tryz.underlying0
 a0:=Tryz.isAgg0
 z0:=Tryz.sizeOf0
 v0:=Tryz.zeroValue0
 t24:=Tryz.underlying137
 a24:=Tryz.isAgg137
 z24:=Tryz.sizeOf137
 v24:=Tryz.zeroValue137
 t26:=Tryz.underlying3
 a26:=Tryz.isAgg3
 z26:=Tryz.sizeOf3
 v26:=Tryz.zeroValue3
 t28:=Tryz.underlying240
 a28:=Tryz.isAgg240
 z28:=Tryz.sizeOf240
 v28:=Tryz.zeroValue240
 i26:=by kernel_rfl }
def Tryz.sortA_ren:Go.Shelf.Ren:=⟨fun | 5=>198 | 8=>203 | 7=>202 | 19=>213 | 20=>214 | 10=>204 | 11=>205 | 12=>206 | 13=>207 | 14=>208 | 15=>209 | 16=>210 | 17=>211 | 18=>212 | 30=>215 | 31=>216 | 32=>217 | 33=>218 | 34=>219 | 35=>220 | 40=>221 | n=>n,fun | 23=>137 | 25=>3 | 3=>3 | 32=>250 | 22=>137 | 0=>0 | 44=>260 | 46=>262 | 4=>4 | 36=>253 | 35=>252 | 41=>45 | 5=>5 | 9=>9 | 53=>263 | 57=>267 | 63=>269 | 64=>110 | n=>n,fun | n=>n⟩
theorem Tryz.sortA:Go.Proofs.SlLaysM.n5 Tryz.prog Tryz.sortA_ren:={
 mixed:=by kernel_rfl
 f5:=⟨Tryz.f198.name,by decide,Tryz.func198.trans (congrArg some Ak)⟩
 f7:=⟨Tryz.f202.name,by decide,Tryz.func202.trans (congrArg some Ak)⟩
 f8:=Tryz.func203.trans (congrArg some Ak)
 f10:=⟨Tryz.f204.name,by decide,Tryz.func204.trans (congrArg some Ak)⟩
 f11:=⟨Tryz.f205.name,by decide,Tryz.func205.trans (congrArg some Ak)⟩
 f12:=⟨Tryz.f206.name,by decide,Tryz.func206.trans (congrArg some Ak)⟩
 f13:=⟨Tryz.f207.name,by decide,Tryz.func207.trans (congrArg some Ak)⟩
 f14:=⟨Tryz.f208.name,by decide,Tryz.func208.trans (congrArg some Ak)⟩
 f15:=⟨Tryz.f209.name,by decide,Tryz.func209.trans (congrArg some Ak)⟩
 f16:=⟨Tryz.f210.name,by decide,Tryz.func210.trans (congrArg some Ak)⟩
 f17:=⟨Tryz.f211.name,by decide,Tryz.func211.trans (congrArg some Ak)⟩
 f18:=⟨Tryz.f212.name,by decide,Tryz.func212.trans (congrArg some Ak)⟩
 f19:=Tryz.func213.trans (congrArg some Ak)
 f20:=Tryz.func214.trans (congrArg some Ak)
 f30:=⟨Tryz.f215.name,by decide,Tryz.func215.trans (congrArg some Ak)⟩
 f31:=Tryz.func216.trans (congrArg some Ak)
 f32:=Tryz.func217.trans (congrArg some Ak)
 f33:=⟨Tryz.f218.name,by decide,Tryz.func218.trans (congrArg some Ak)⟩
 f34:=⟨Tryz.f219.name,by decide,Tryz.func219.trans (congrArg some Ak)⟩
 f35:=⟨Tryz.f220.name,by decide,Tryz.func220.trans (congrArg some Ak)⟩
 f40:=⟨Tryz.f221.name,by decide,Tryz.func221.trans (congrArg some Ak)⟩
 t0:=Tryz.underlying0
 a0:=Tryz.isAgg0
 z0:=Tryz.sizeOf0
 v0:=Tryz.zeroValue0
 t3:=Tryz.underlying3
 a3:=Tryz.isAgg3
 z3:=Tryz.sizeOf3
 v3:=Tryz.zeroValue3
 t4:=Tryz.underlying4
 a4:=Tryz.isAgg4
 z4:=Tryz.sizeOf4
 v4:=Tryz.zeroValue4
 t5:=Tryz.underlying5
 a5:=Tryz.isAgg5
 z5:=Tryz.sizeOf5
 v5:=Tryz.zeroValue5
 t9:=Tryz.underlying9
 a9:=Tryz.isAgg9
 z9:=Tryz.sizeOf9
 v9:=Tryz.zeroValue9
 t22:=Tryz.underlying137
 a22:=Tryz.isAgg137
 z22:=Tryz.sizeOf137
 v22:=Tryz.zeroValue137
 t23:=Tryz.underlying137
 a23:=Tryz.isAgg137
 z23:=Tryz.sizeOf137
 v23:=Tryz.zeroValue137
 t25:=Tryz.underlying3
 a25:=Tryz.isAgg3
 z25:=Tryz.sizeOf3
 v25:=Tryz.zeroValue3
 t32:=Tryz.underlying250
 a32:=Tryz.isAgg250
 z32:=Tryz.sizeOf250
 v32:=Tryz.zeroValue250
 t35:=Tryz.underlying252
 a35:=Tryz.isAgg252
 z35:=Tryz.sizeOf252
 v35:=Tryz.zeroValue252
 t36:=Tryz.underlying253
 a36:=Tryz.isAgg253
 z36:=Tryz.sizeOf253
 v36:=Tryz.zeroValue253
 t41:=Tryz.underlying45
 a41:=Tryz.isAgg45
 z41:=Tryz.sizeOf45
 v41:=Tryz.zeroValue45
 t44:=Tryz.underlying260
 a44:=Tryz.isAgg260
 z44:=Tryz.sizeOf260
 v44:=Tryz.zeroValue260
 t46:=Tryz.underlying262
 a46:=Tryz.isAgg262
 z46:=Tryz.sizeOf262
 v46:=Tryz.zeroValue262
 t53:=Tryz.underlying263
 a53:=Tryz.isAgg263
 z53:=Tryz.sizeOf263
 v53:=Tryz.zeroValue263
 t57:=Tryz.underlying267
 a57:=Tryz.isAgg267
 z57:=Tryz.sizeOf267
 v57:=Tryz.zeroValue267
 t63:=Tryz.underlying269
 a63:=Tryz.isAgg269
 z63:=Tryz.sizeOf269
 v63:=Tryz.zeroValue269
 t64:=Tryz.underlying110
 a64:=Tryz.isAgg110
 z64:=Tryz.sizeOf110
 v64:=Tryz.zeroValue110 }
end Go.Proofs
namespace Go.Proofs
open Go.RowKit Go.Maps Go.Sort Go.Shelf
theorem Tryz.sortsA (m:Nat):AnyZI.SortsIn Tryz.prog Tryz.sortedA_ren Fence.wide m :=
 ⟨fun blk off cap ss W hH hblk hsz=>callsIn_wide.2 (AnyM.slices_Sort_int Tryz.sortA blk off cap ss W hH hblk hsz),
  fun p cap W=>callsIn_wide.2 (AnyM.slices_Sort_int_none Tryz.sortA p cap W)⟩
set_option maxHeartbeats 1000000 in
theorem Tryz.sortedKeys {H:Type}(Bm b nn:Nat) (D0:DataW H) (R:Value→Option (DataW H×List MemPlace)) (w:World) (hBm:Bm<w.heap.size) (hcell:w.cell? ⟨Bm,0,none⟩=some (.map (some b))) (hown:w.ownsMap Tryz.prog 3 R b nn D0) (hmax:Maps.size D0≤maxLen) (hbytes:Maps.size D0*8≤140737488355328) :
  Calls Tryz.prog 192 #[.func (.func 199) #[] #[.pointer (some ⟨Bm,0,none⟩)]] w fun e w'=>∃(v:Value) (ss:List Int),e= .returned v∧ss.Perm (intKeys D0) ∧
   w'.ownsRow w.heap.size 3 1 v ss.length ((ss.mergeSort (fun x y=>decide (x≤y))).map encZ)∧(v= .slice none 0 0↔ss=[])∧Below w.heap.size w w':=by
 refine(callsIn_wide (n:=5)).1 ?_;have hseq:SeqGives Fence.wide 2 Tryz.prog 199 #[.pointer (some ⟨Bm,0,none⟩)] encZ (fun ss=>ss.Perm (intKeys D0)) (Maps.size D0) w :=
  AnyZI.keys_gives (ρ:=Tryz.keysA_ren) { Tryz.keysA with } Fence.wide _ trivial rfl Ao Bm b nn D0 w hBm hcell hown
 exact AnyZI.sorted_in Tryz.sortedA Fence.wide 5 Aq Aq Aq Aq O Ao (Tryz.sortsA _) (enters_of Tryz.func198 Ak O) 199 #[.pointer (some ⟨Bm,0,none⟩)] Aq (enters_of Tryz.func199 Ak O) _ _ hmax hbytes _ hseq
end Go.Proofs
namespace Go.Proofs.YtboammbpdaoojaaGreat
open Go.Abs Go.Eu
theorem ir:∀(m:Nat),Bq Tryz.prog 193 [.map m] [] (cQ (fun b=> .fn (.func 199) [] [.ptr b 0]) [.map m]):=by
 intro m;refine A6 Tryz.func193 O nE (n:=4) O O (Az (BG O (BP O) fun b1=>As Ay 1 [] O (Av Ay 2 [] O (A1 (⟨O,_,_,⟨_,_,O,O,O⟩,(B4 (is:=[0]) O),?_⟩)))));exact⟨_,O,O⟩
theorem Z9:∀(b m:Nat) (M:List (Int×Int)),M.length<1000000→(∀k∈M.map Prod.fst,-65536≤k∧k<8)→Bq Tryz.prog 192 [.fn (.func 199) [] [.ptr b 0]] [.box b [.map m],.map m (EJ (Gs M))] (GW (.p (.lst ((FL (M.map Prod.fst)).map Gl))) [.box b [.map m],.map m (EJ (Gs M))]):=fun b m M h1 h2=>P9 (kT:=3) (eT:=3) Ak Ak (fun Bm b nn D0 R w g1 g2 g3 g4 g5=>Tryz.sortedKeys Bm b nn D0 R w g1 g2 g3 g4 g5) b m M h1 h2
theorem Z0:∀(s m:Nat) (M:List (Int×Int)) (C:Int),(XT (M,C))→Bq Tryz.prog 186 [.ptr s 0] [.box s [.map m,.p (I C)],.map m (EJ (Gs M))] (GW (.tup [.agg ((B0 ((JU ⟨C,G2 M⟩).1)).map .p),.p (I ((JU ⟨C,G2 M⟩).2))]) [.box s [.map m,.p (I C)],.map m (EJ (Gs M))]):=by
 intro s m M C h1;have hkl:(FL (M.map Prod.fst)).length=M.length:=by simp[Sj]
 have hml:M.length≤65544:=h1.len;refine A6 Tryz.func186 O mJ (n:=41) O O (Az (BG O (A8 ER O) fun b2=>As Ay 1 [] O (Az (Ax Ay 5 [1] O (BG O (A8 ER O) fun b4=>As Ay 1 [0,0] O (Au (Az (B3 (H5 (i:=0) O (XY (aw (we O) (aw (I4) (Et))))) (B3 (Hu (sz:=2)) (Ax Ay 4 [3] O (Y6 O O O (.inl ⟨O,O,O⟩) (ir m) (DZ _) fun bk=>Ar O (B8 [0,5] O (.inl ⟨O,O,O⟩) (Z9 bk m M Ao h1.r) ⟨_,_,O,O,⟨_,_,O,O,O⟩⟩ An O (.inl O)) (Ar O (BM Hp O (List.length_map _)) (As Ay 1 [] O (BA ?_))))))))))))));refine Be (α:=Nat×Option Nat×Nat) (fun(i,o,cp)=>⟨41,mk [(0,.ptr s 0),(2,.ptr b2 0),(4,.ptr b4 0),(17,.p (.lst (List.map Gl (FL (M.map Prod.fst))))),(18,.p (I ((FL (M.map Prod.fst)).length:Nat))),(19,.p (I (i:Int)))],[.vec o 2 (List.map D1 (((FL (M.map Prod.fst)).take i).map (QD M))) cp,.box b4 [.p (I C),.vs o (List.map D1 (((FL (M.map Prod.fst)).take i).map (QD M))).length cp],.box b2 [.p (I 0),.p (.nils)],.box s [.map m,.p (I C)],.map m (EJ (Gs M))],[]⟩) (fun(i,o,cp)=>(FL (M.map Prod.fst)).length - i) (fun(i,o,cp)=>i≤(FL (M.map Prod.fst)).length) ⟨0,none,0⟩ AQ ?_ ?_
 ·exact BY ⟨we O,we O,we O,we O,we O,we O,Aq⟩ (leH (is:=[1,2,3,4,5]) O (wl (oe O) (wl (oe O) (wl (oe O) (wl (oe O) (wl (oe O) (C7)))))))
 rintro⟨i,o,cp⟩ hC
 try simp only at hC
 have hi:=hC;refine Av Ay 1 [] O (Au (Aw O (fun c=>?_) (fun c=>?_)))
 ·(try simp only[sd,se] at c);refine A2 (Au (BA (Az ?_)));obtain⟨x,hx⟩:=A7 (l:=FL (M.map Prod.fst)) (i:=i) Ao;refine Ar O (A5 Hp O O Ao (L9 hx) (O)) (As Ay 2 [] O (Bu (fun k=>Nat.beq k 11) Dt (BQ Ay 8 [1,3] O ?_)));refine CX (j:=4) O O O (fun H i hi=>VZ (i:=i) bO hG (fun _ _=>by simp[CH,CN]) rfl rfl hi (WD _ _)) AB trivial ?_;refine BH O (fun _=>CO jo Fy O) Aq (BH O (fun _=>Bo CW Fy O O O O O) Aq (LC [] O O (CQ (i:=0) (rows':=List.map D1 [(CE.mk x ((mg x M).getD 0))]) CW CW Fy O O O O O O (GK _) AF (GJ (f:=D1) (((FL (M.map Prod.fst)).take i).map (QD M)) [(CE.mk x ((mg x M).getD 0))])) Ak fun o1 cp1=>⟨AB,Aq,?_⟩));refine Bn Ay 2 [1,0] O (A4 (As Ay 2 [] O ?_));refine⟨⟨i+1,o1,cp1⟩,AU,by omega,BY ⟨we rfl,we rfl,we rfl,we rfl,we rfl,we rfl,trivial⟩ (leH (is:=[0,1,2,3,4]) rfl (wl (Fk (f:=D1) (((FL (M.map Prod.fst)).take i).map (QD M)++[(CE.mk x ((mg x M).getD 0))]) (by rw[List.take_add_one,hx];simp[QD])) (wl (XY (aw (we rfl) (aw (we (Gb (f:=D1) (((FL (M.map Prod.fst)).take i).map (QD M)++[(CE.mk x ((mg x M).getD 0))]) (by rw[List.take_add_one,hx];simp[QD]))) (Et)))) (wl (oe rfl) (wl (oe rfl) (wl (oe rfl) (C7)))))))⟩
 (try simp only[sd,se] at c);refine Bg (Az (B3 (DQ (i:=0) (j:=1) (q:=1) [] O O O (D6 Aq)) (Ar O (BU (i:=0) Dc O O O) (Ar O (BF O O (Xh (CZ.mk C (((FL (M.map Prod.fst)).take i).map (QD M))) (by simp only[List.length_map,List.length_take,Dd];omega)) O) (As Ay 4 [1,1] O (A1 (⟨O,_,_,⟨_,_,O,(BB (i:=1) Dc O O Ag),⟨_,_,O,O,O⟩⟩,(B4 (is:=[2,3]) O),?_⟩)))))))
 all_goals exact⟨by show (.tup [.agg ((B0 ((JU (CZ.mk C (((FL (M.map Prod.fst)).take i).map (QD M)))).1)).map .p),.p (I ((JU (CZ.mk C (((FL (M.map Prod.fst)).take i).map (QD M)))).2))]:AV)=_;rw[show ((FL (M.map Prod.fst)).take i).map (QD M)=G2 M from XZ Ao],rfl⟩
theorem Zi:∀(l:CZ) (ps:List CZ),(M4 l)→(ps.length<Dd)→(∀p∈ps,M4 p)→Ec Tryz.prog 166 [.agg ((B0 l).map .p),.p (.lst (List.map B0 ps))] (.tup [.agg ((B0 ((Ik l ps).1)).map .p),.p (I ((Ik l ps).2))]):=by
 intro l ps h1 h2 h3;have hl:=h1.vars;have hl2:=h2;simp only[Dd] at hl hl2;refine A6 Tryz.func166 O nc (n:=63) O O (Az (BG O (BP O) fun b2=>BG O (A8 ER O) fun b4=>As Ay 1 [] O (Au (Au (BR [1,2,4] 16 (fun y=>y= .p (.bool ((!(CA l))||(!(ps.all CA))))) ?_ ?_)))))
 ·refine A4 (Ar O (BU (i:=1) Dc O O Ag) (Ar O (BF O O (RU l h1) O) (Ax Ay 2 [] O (BL 12 O (fun g=>?_) (fun g=>?_)))))
  ·(try simp only[sd,se] at g);exact As Ay 4 [] O (⟨O,O,AK,AI,⟨O,O,O,Aq⟩⟩)
  (try simp only[sd,se] at g);exact BC O (BZ O) (BC O (BF O O (Ve ps h2 h3) O) (As Ay 2 [] O (⟨O,O,AK,AI,⟨O,O,O,Aq⟩⟩)))
 rintro _ rfl;refine Aw O (fun c=>?_) (fun c=>?_)
 ·(try simp only[sd,se] at c);refine Av Ay 3 [0,0] O (BI (BT (i:=0) O) (A1 (⟨O,_,_,⟨_,_,O,(BB (i:=0) Dc O O O),⟨_,_,O,O,O⟩⟩,(List.nil_sublist _),?_⟩)))
  all_goals exact⟨by show (.tup [.agg [.p (I 0),.p (.lst [])],.p (I 3)]:AV)=_;rw[show Ik l ps=(Fa,3) by rw[Ik,if_pos (by simpa using c)]];rfl,rfl⟩
 (try simp only[sd,se] at c);have hv:CA l=true∧ps.all CA=true:=by simpa using c
 refine A2 (Au (Az (Ar O (BU (i:=1) Dc O O Ag) (Ar O (BF O O (Z7 l h1) O) (Bt O (Ar O (BM EZ O (List.length_map _)) (As Ay 1 [] O (Aw O (fun c1=>?_) (fun c1=>?_)))))))))
 ·(try simp only[sd,se] at c1);refine Av Ay 3 [0,0] O (BI (BT (i:=0) O) (A1 (⟨O,_,_,⟨_,_,O,(BB (i:=0) Dc O O O),⟨_,_,O,O,O⟩⟩,(List.nil_sublist _),?_⟩)))
  all_goals exact⟨by show (.tup [.agg [.p (I 0),.p (.lst [])],.p (I 24)]:AV)=_;rw[show Ik l ps=(Fa,24) by rw[Ik,if_neg (by simp[hv]),if_pos c1]];rfl,rfl⟩
 (try simp only[sd,se] at c1);have hpl:¬(GY l > ps.length):=by omega
 refine A2 (Az (Yp O O O (.inl ⟨O,O,O⟩) dU (DZ _) fun bs=>?_));obtain⟨bs,mm⟩:=bs;refine As Ay 1 [] O (Av Ay 6 [3,0,0] O (Au (Az (Ax Ay 2 [3] O (Ar O (BM CW O (List.length_map _)) (As Ay 1 [] O (BA (Be (α:=Nat) (fun i=>⟨63,mk [(1,.p (.lst (List.map B0 ps))),(4,.ptr b4 0),(6,.ptr bs 0),(31,.p (.lst (List.map D1 l.vars))),(32,.p (I (l.vars.length:Nat))),(33,.p (I (i:Int)))],[.box bs [.map mm,.p (I (((l.vars.take i).foldl (EA ps) ([],l.const)).2))],.map mm (EJ (Gs ((l.vars.take i).foldl (EA ps) ([],l.const)).1)),.box b4 [.p (I 0),.p (.nils)]],[]⟩) (fun i=>l.vars.length - i) (fun i=>i≤l.vars.length) 0 AQ ?_ ?_))))))))
 ·exact BY ⟨we O,we O,we O,we O,we O,we O,Aq⟩ (leH (is:=[0,1,2]) O (wl (oe O) (wl (oe O) (wl (oe O) (C7)))))
 rintro i hC
 try simp only at hC
 have hi:=hC;refine Av Ay 1 [] O (Au (Aw O (fun c2=>?_) (fun c2=>?_)))
 ·(try simp only[sd,se] at c2);refine A2 (Au (BA (Az ?_)));obtain⟨x,hx⟩:=A7 (l:=l.vars) (i:=i) Ao;have hw:=Ke hv.1 hx;have hpi:=dQ hv.1 hpl hx;refine Ar O (A5 CW O O Ao (Ci hx) (O)) (Ar O (BN Mw O (O)) (BG O (A8 Fy O) fun b8=>As Ay 1 [0,1] O (Av Ay 3 [0] O (Aw O (fun c3=>?_) (fun c3=>?_)))))
  ·(try simp only[sd,se] at c3);refine Bu (fun k=>false) Dt (BQ Ay 8 [1,0,0] O (GP O O (B8 [2] O (.inl ⟨O,O,O⟩) (Vs mm (((l.vars.take i).foldl (EA ps) ([],l.const)).1) x.index x.plus) ⟨_,_,O,O,O⟩ An O (.inl O)) AB Aq (JN O Ak (A4 (As Ay 2 [] O ?_)))));refine⟨(i+1),AU,by omega,BY ⟨we rfl,we rfl,we rfl,we rfl,we rfl,we rfl,trivial⟩ (leH (is:=[1,2,3]) rfl (wl (ob (by first | (simp only[step_take hx,T8 c3];done) | (simp only[step_take hx,UX c3 hx1];done))) (wl (om (by first | (simp only[step_take hx,T8 c3];done) | (simp only[step_take hx,UX c3 hx1];done))) (wl (oe rfl) (C7)))))⟩
  (try simp only[sd,se] at c3);refine Bu (fun k=>false) Dt (BQ Ay 4 [0] O ?_);obtain⟨x1,hx1⟩:=A7 (l:=ps) (i:=(x.index:Int).toNat) Ao;refine BH O (fun _=>A5 EZ O O Ao (Fz hx1) (Dm _)) Aq (BQ Ay 3 [0] O (GP O O (B8 [1,2] O (.inl ⟨O,O,O⟩) (iF bs mm (((l.vars.take i).foldl (EA ps) ([],l.const)).1) (((l.vars.take i).foldl (EA ps) ([],l.const)).2) x1 x.plus (I7.of (List.all_eq_true.1 hv.2 _ (List.mem_of_getElem? hx1))) hw.1.1 hw.1.2) ⟨_,_,O,O,⟨_,_,O,O,O⟩⟩ An O (.inl O)) AB Aq (JN O Ak (A4 (As Ay 2 [] O ?_)))));refine⟨(i+1),AU,by omega,BY ⟨we rfl,we rfl,we rfl,we rfl,we rfl,we rfl,trivial⟩ (leH (is:=[1,2,3]) rfl (wl (ob (by first | (simp only[step_take hx,T8 c3];done) | (simp only[step_take hx,UX c3 hx1];done))) (wl (om (by first | (simp only[step_take hx,T8 c3];done) | (simp only[step_take hx,UX c3 hx1];done))) (wl (oe rfl) (C7)))))⟩
 (try simp only[sd,se] at c2);refine Bg (Az ?_);have hfin:XT ((l.vars.take i).foldl (EA ps) ([],l.const)):=XT.fold (List.all_eq_true.1 hv.2) _ _ (XT.zero _) (fun x hx=>by
  obtain⟨j,hj⟩:=List.mem_iff_getElem?.1 (List.mem_of_mem_take hx);exact⟨Ke hv.1 hj,dQ hv.1 hpl hj⟩)
 refine Bt O (Ar O (B8 [0,1] O (.inl ⟨O,O,O⟩) (Z0 bs mm (((l.vars.take i).foldl (EA ps) ([],l.const)).1) (((l.vars.take i).foldl (EA ps) ([],l.const)).2) hfin) ⟨_,_,O,O,⟨_,_,O,O,O⟩⟩ An O (.inl O)) (As Ay 4 [2,1] O (A1 (⟨O,_,_,⟨_,_,O,(BB (i:=2) Dc O O Ag),⟨_,_,O,O,O⟩⟩,(List.nil_sublist _),?_⟩))))
 all_goals exact⟨by show (.tup [.agg ((B0 ((JU ⟨(((l.vars.take i).foldl (EA ps) ([],l.const)).2),G2 (((l.vars.take i).foldl (EA ps) ([],l.const)).1)⟩).1)).map .p),.p (I ((JU ⟨(((l.vars.take i).foldl (EA ps) ([],l.const)).2),G2 (((l.vars.take i).foldl (EA ps) ([],l.const)).1)⟩).2))]:AV)=_;rw[show Ik l ps=JU ⟨(l.vars.foldl (EA ps) ([],l.const)).2,G2 (l.vars.foldl (EA ps) ([],l.const)).1⟩ by rw[Ik,if_neg (by simp[hv]),if_neg hpl]];rw[show l.vars.take i=l.vars from List.take_of_length_le Ao],rfl⟩
theorem _root_.Go.Ah {α:Prop}(h:α:=by simp[BD]):α:=h
theorem GQ:∀(f:Tm) (xs:List Tm),(xs.length<Dd)→Ec Tryz.prog 24 [.agg ((BO f).map .p),.p (.lst (BE xs))] (.agg ((BO (apply f xs)).map .p)):=by
 intro f xs h1;simp only[Dd] at h1;refine A6 Tryz.func24 O rG (n:=20) O O (Az (BG O (BP O) fun b2=>BG O (A8 Bz O) fun b4=>Bj O (Au (Av Ay 1 [] O (BA (Be (α:=Nat) (fun i=>⟨20,mk [(1,.p (.lst (BE xs))),(2,.ptr b2 0),(4,.ptr b4 0),(5,.p (I (i:Int)))],[.box b4 [.p (I 0),.p (I 0),.p (.str ⟨#[]⟩),.p (.nils),.p (.nils)],.box b2 ((BO (apply f (xs.take i))).map .p)],[]⟩) (fun i=>xs.length - i) (fun i=>i≤xs.length) 0 AQ ?_ ?_))))))
 ·exact BY ⟨we O,we O,we O,we O,Aq⟩ (leH (is:=[0,1]) O (wl (oe O) (wl (oe O) (C7))))
 rintro i hC
 try simp only at hC
 have hi:=hC;refine Au (Az (Ax Ay 2 [] O (Ar O (BM Bf O (BS _)) (As Ay 1 [] O (Aw O (fun c=>?_) (fun c=>?_))))))
 ·(try simp only[sd,se] at c);refine A2 (Au (BA (Bu (fun k=>false) Dt (BQ Ay 3 [1] O ?_))));obtain⟨x,hx⟩:=A7 (l:=xs) (i:=i) Ao;refine BH O (fun _=>A5 Bf O O Ao (Bc hx) (BD _)) Aq (BH O (fun _=>BN Ba O (BD _)) Aq ?_);generalize hz:(apply f (xs.take i))=z;obtain⟨zk,zi,zn,zl,zs⟩:=z;obtain⟨xk,xi,xn,xl,xs1⟩:=x;refine BH O (fun _=>Bo Bf Bz O O O O O) Aq (Bn Ay 2 [1,0] O (A4 (As Ay 3 [] O ?_)));refine⟨(i+1),AU,by omega,BY ⟨we rfl,we rfl,we rfl,we rfl,trivial⟩ (leH (is:=[0,1]) rfl (wl (oe rfl) (wl (on (by rw[Rg hx,hz];rfl)) (C7))))⟩
 (try simp only[sd,se] at c);refine Bg (Av Ay 2 [1,0,1] O (A1 (⟨O,_,_,⟨_,_,O,(BB (i:=0) Ba O O Ah),O⟩,(List.nil_sublist _),?_⟩)))
 all_goals exact⟨by show (.agg ((BO (apply f (xs.take i))).map .p):AV)=_;rw[show i=xs.length by omega,List.take_length],rfl⟩
theorem _root_.Go.Aa {α:Prop}(h:α:=by simp only[Dd];omega):α:=h
theorem aj:∀(n:Nat) (t:Tm),(size t≤n)→(n<Dd)→Bq Tryz.prog 21 [.agg ((BO t).map .p)] [] (ZY (fun v=> .tup [.agg ((BO ((A9 t).1)).map .p),v]) 5 (BE ((A9 t).2))):=by
 intro n
 induction n with
 | zero=>intro t h;cases t;simp[size] at h
 | succ n ih =>
  intro t h1 h2;simp only[Dd] at h2;refine A6 Tryz.func21 O rD (n:=32) O O (Az (BG O (BP O) fun b1=>BG O (A8 Bz O) fun b2=>As Ay 1 [] O (Au (Au ?_))));obtain⟨tk,ti,tn,tl,ts⟩:=t;simp only[size] at h1;refine BR [1,2] 14 (fun y=>y= .p (.bool (((tk:Int) !=(4:Int))||(((ts.length:Nat):Int) !=(2:Int))))) ?_ ?_
  ·refine A4 (Ax Ay 4 [1] O (BL 9 O (fun g=>?_) (fun g=>?_)))
   ·(try simp only[sd,se] at g);exact As Ay 5 [] O (⟨O,O,AK,AI,⟨O,O,Aq⟩⟩)
   (try simp only[sd,se] at g);exact Ax Ay 2 [1] O (BC O (BM Bf O (BS _)) (As Ay 2 [] O (⟨O,O,AK,AI,⟨O,O,Aq⟩⟩)))
  rintro _ rfl;refine Aw O (fun c=>?_) (fun c=>?_)
  ·(try simp only[sd,se] at c);refine Av Ay 3 [1,0,0] O (BI (EG (t:=3) (sz:=5) O) (A1 (⟨O,_,_,⟨_,_,O,(BB (i:=1) Ba O O O),⟨_,_,O,O,O⟩⟩,(B4 (is:=[0]) O),?_⟩)));rw[RH c]
   all_goals exact⟨_,_,rfl,rfl⟩
  (try simp only[sd,se] at c);refine A2 (Az (Ax Ay 2 [1] O ?_));obtain⟨x,hx⟩:=A7 (l:=ts) (i:=0) Ao;refine Ar O (A5 Bf O O Ao (Bc hx) (BD _)) (Ar O (BN Ba O (BD _)) (NB O O O (.inl ⟨O,O,O⟩) (ih x (by have:=Ce hx;omega) Aa) (.inl O) fun o cp=>Ax Ay 3 [] O (BG O (A8 Bz O) fun b4=>As Ay 2 [0,1] O (Au (Bu (fun k=>Nat.beq k 7) Dt (BQ Ay 4 [0,3] O ?_))))));obtain⟨x1,hx1⟩:=A7 (l:=ts) (i:=1) Ao;refine BH O (fun _=>A5 Bf O O Ao (Bc hx1) (BD _)) Aq (BH O (fun _=>BN Ba O (BD _)) Aq ?_);obtain⟨x1k,x1i,x1n,x1l,x1s⟩:=x1;refine BH O (fun _=>Bo Bf Bz O O O O O) Aq (LC [] O O (CQ (i:=1) (rows':=BE [(.mk x1k x1i x1n x1l x1s:Tm)]) Bf Bf Bz O O O O O O (Bw _) (by have:=PM x;have:=Ce hx;simp[BS];omega) (Jl ((A9 x).2) [(.mk x1k x1i x1n x1l x1s:Tm)])) Ak fun o1 cp1=>⟨AB,Aq,?_⟩);refine Bn Ay 2 [2,1] O (A1 (⟨O,_,_,⟨_,_,O,(BB (i:=2) Ba O O Ah),⟨_,_,O,O,O⟩⟩,(B4 (is:=[1]) O),?_⟩));rw[TF c hx hx1]
  all_goals exact⟨_,_,rfl,rfl⟩
theorem SI:∀(n:Nat) (t:Tm),size t≤n→n<Dd→Ec Tryz.prog 21 [TV t] (.tup [TV (A9 t).1,pX (A9 t).2]) :=
 fun n t h1 h2=>Xb (pre:=[_]) (post:=[]) (aj n t h1 h2) (fun x _=>VX x)
theorem MS:∀(n:Nat) (t:Tm),(size t≤n)→(Nd t)→Ec Tryz.prog 77 [.agg ((BO t).map .p)] (.p (I (Eo t))):=by
 intro n
 induction n with
 | zero=>intro t h;cases t;simp[size] at h
 | succ n ih =>
  intro t h1 h2;obtain⟨tk,ti,tn,tl,ts⟩:=t;simp only[size] at h1;simp only[Nd,Dd] at h2;refine A6 Tryz.func77 O rX (n:=21) O O (Az (BG O (BP O) fun b1=>As Ay 1 [] O (Av Ay 1 [] O (Au (Av Ay 1 [] O (BA (Be (α:=Nat×Int) (fun(i,m)=>⟨21,mk [(1,.ptr b1 0),(3,.p (I m)),(4,.p (I (i:Int)))],[.box b1 [.p (I tk),.p (I ti),.p (.str tn),.p (.lst (List.map B0 tl)),.p (.lst (BE ts))]],[]⟩) (fun(i,m)=>ts.length - i) (fun(i,m)=>i≤ts.length∧(K9 m (ts.drop i)=K9 1 ts)) ⟨0,1⟩ Ap ?_ ?_)))))))
  ·exact BY ⟨we O,we O,we O,Aq⟩ (leH (is:=[0]) O (wl (oe O) (C7)))
  rintro⟨i,m⟩ hC
  try simp only at hC
  obtain⟨hi,hC⟩:=hC;refine Au (Az (Ax Ay 3 [0] O (Ar O (BM Bf O (BS _)) (As Ay 1 [] O (Aw O (fun c=>?_) (fun c=>?_))))))
  ·(try simp only[sd,se] at c);refine A2 (Au (BA (A4 (Ax Ay 4 [0] O ?_))));obtain⟨x,hx⟩:=A7 (l:=ts) (i:=i) Ao;refine Ar O (A5 Bf O O Ao (Bc hx) (BD _)) (Ar O (BN Ba O (BD _)) (Ar O (BF O O (ih x (by have:=Ce hx;omega) (DW h2.2.2.2.2.1 hx)) O) (Ar O (ED O O) (As Ay 1 [] O (A4 (As Ay 3 [] O ?_))))));refine⟨⟨i+1,wr (m+Eo x)⟩,AU,⟨by omega,by rw[←hC,Ch hx];rfl⟩,BY ⟨we rfl,we rfl,we rfl,trivial⟩ (leH (is:=[0]) rfl (wl (oe rfl) (C7)))⟩
  (try simp only[sd,se] at c);refine Bg (Av Ay 2 [] O (A1 (⟨O,_,_,⟨_,_,O,O,O⟩,(List.nil_sublist _),?_⟩)))
  all_goals exact⟨pI (by rw[show Eo (.mk tk ti tn tl ts)=K9 1 ts from rfl,←hC,show i=ts.length by omega,List.drop_length];rfl),rfl⟩
theorem OL:∀(n:Nat) (t:Tm),(size t≤n)→(Nd t)→Ec Tryz.prog 93 [.agg ((BO t).map .p)] (.p (I (Ev t))):=by
 intro n
 induction n with
 | zero=>intro t h;cases t;simp[size] at h
 | succ n ih =>
  intro t h1 h2;obtain⟨tk,ti,tn,tl,ts⟩:=t;simp only[size] at h1;simp only[Nd,Dd] at h2;refine A6 Tryz.func93 O rA (n:=22) O O (Az (BG O (BP O) fun b1=>As Ay 1 [] O (Av Ay 1 [] O (Au (Av Ay 1 [] O (BA (Be (α:=Nat×Int) (fun(i,m)=>⟨22,mk [(1,.ptr b1 0),(3,.p (I m)),(4,.p (I (i:Int)))],[.box b1 [.p (I tk),.p (I ti),.p (.str tn),.p (.lst (List.map B0 tl)),.p (.lst (BE ts))]],[]⟩) (fun(i,m)=>ts.length - i) (fun(i,m)=>i≤ts.length∧(Jp m (ts.drop i)=Jp 0 ts)) ⟨0,0⟩ Ap ?_ ?_)))))))
  ·exact BY ⟨we O,we O,we O,Aq⟩ (leH (is:=[0]) O (wl (oe O) (C7)))
  rintro⟨i,m⟩ hC
  try simp only at hC
  obtain⟨hi,hC⟩:=hC;refine Au (Az (Ax Ay 3 [0] O (Ar O (BM Bf O (BS _)) (As Ay 1 [] O (Aw O (fun c=>?_) (fun c=>?_))))))
  ·(try simp only[sd,se] at c);refine A2 (Au (BA (A4 (Ax Ay 4 [0] O ?_))));obtain⟨x,hx⟩:=A7 (l:=ts) (i:=i) Ao;refine Ar O (A5 Bf O O Ao (Bc hx) (BD _)) (Ar O (BN Ba O (BD _)) (Ar O (BF O O (ih x (by have:=Ce hx;omega) (DW h2.2.2.2.2.1 hx)) O) (Ar O (FR O O) (As Ay 1 [] O (A4 (As Ay 3 [] O ?_))))));refine⟨⟨i+1,max m (Ev x)⟩,AU,⟨by omega,by rw[←hC,Ch hx];rfl⟩,BY ⟨we rfl,we rfl,we rfl,trivial⟩ (leH (is:=[0]) rfl (wl (oe rfl) (C7)))⟩
  (try simp only[sd,se] at c);refine Bg (Az (Bt O (Ar O (ED O O) (As Ay 1 [] O (A1 (⟨O,_,_,⟨_,_,O,O,O⟩,(List.nil_sublist _),?_⟩))))))
  all_goals exact⟨pI (by rw[show Ev (.mk tk ti tn tl ts)=wr (Jp 0 ts+1) from rfl,←hC,show i=ts.length by omega,List.drop_length];rfl),rfl⟩
theorem XB:∀(b:Nat) (er nd e:Int),Bq Tryz.prog 141 [.ptr b 0,.p (I e)] [.box b [.p (I er),.p (I nd)]] (GW (.tup []) [.box b [.p (I (Gg er e)),.p (I nd)]]):=by
 intro b er nd e;refine A6 Tryz.func141 O nW (n:=13) O O (Av Ay 5 [0] O (Aw O (fun c=>?_) (fun c=>?_)))
 ·(try simp only[sd,se] at c);refine A4 (As Ay 5 [0,0] O ⟨O,_,_,O,(B4 (is:=[0]) O),?_⟩);refine⟨O,?_⟩;show ([.box b [.p (I e),.p (I nd)]]:List BJ)=_;simp[Gg,c]
 (try simp only[sd,se] at c);refine A2 ⟨O,_,_,O,(B4 (is:=[0]) O),?_⟩;refine⟨O,?_⟩;show ([.box b [.p (I er),.p (I nd)]]:List BJ)=_;simp[Gg,c]
theorem RG:∀(b:Nat) (er nd i:Int),Bq Tryz.prog 126 [.ptr b 0,.p (I i)] [.box b [.p (I er),.p (I nd)]] (GW (.agg ((BO (Oz i)).map .p)) [.box b [.p (I (NX er i)),.p (I nd)]]):=by
 intro b er nd i;refine A6 Tryz.func126 O nZ (n:=11) O O (Az (BG O (A8 Bz O) fun b4=>Bj O (Au (Av Ay 2 [] O (Aw O (fun c=>?_) (fun c=>?_))))))
 ·(try simp only[sd,se] at c);refine A4 (Bt O (Ar O (B8 [1] O (.inl ⟨O,O,O⟩) (XB b er nd 24) ⟨_,_,O,O,O⟩ An O (.inl O)) (Bj O (Av Ay 3 [0,0] O (BI (BT (i:=0) O) (A1 (⟨O,_,_,⟨_,_,O,(BB (i:=0) Ba O O O),O⟩,(B4 (is:=[1]) O),?_⟩)))))));refine⟨O,?_⟩;show ([.box b [.p (I (Gg er 24)),.p (I nd)]]:List BJ)=_;simp[NX,show i > 65535 by omega]
 (try simp only[sd,se] at c);refine A2 (Av Ay 3 [0,0] O (BI (BT (i:=0) O) (A1 (⟨O,_,_,⟨_,_,O,(BB (i:=0) Ba O O O),O⟩,(B4 (is:=[1]) O),?_⟩))));refine⟨O,?_⟩;show ([.box b [.p (I er),.p (I nd)]]:List BJ)=_;simp[NX,show ¬i > 65535 by omega]
theorem _root_.Go.AD {α:Prop}(h:α:=by simp only[BS,List.length_map,List.length_cons,List.length_nil,List.nil_append,List.length_append];omega):α:=h
theorem ZQ:∀(n:Nat) (t:Tm) (b:Nat) (by' fr d er nd:Int),(size t≤n)→(Nd t)→(0≤d)→(d+n<2 ^ 62)→Bq Tryz.prog 125 [.ptr b 0,.agg ((BO t).map .p),.p (I by'),.p (I fr),.p (I d)] [.box b [.p (I er),.p (I nd)]] (GW (.agg ((BO ((Cf by' fr d er t).1)).map .p)) [.box b [.p (I ((Cf by' fr d er t).2)),.p (I nd)]]):=by
 intro n
 induction n with
 | zero=>intro t b by' fr d er nd h;cases t;simp[size] at h
 | succ n ih =>
  intro t b by' fr d er nd h1 h2 h3 h4
  obtain⟨tk,ti,tn,tl,ts⟩:=t;simp only[size] at h1;simp only[Nd,Dd] at h2;refine A6 Tryz.func125 O pQ (n:=68) O O (Az (BG O (BP O) fun b6=>BG O (A8 Bz O) fun b10=>Bj O (Au (Av Ay 3 [1] O (Aw O (fun c=>?_) (fun c=>?_))))))
  ·(try simp only[sd,se] at c);refine Au (Az (Ax Ay 4 [1] O (Ar O (ED O O) (As Ay 1 [] O (Aw O (fun c1=>?_) (fun c1=>?_))))))
   ·(try simp only[sd,se] at c1);refine Av Ay 2 [1,0,0] O (A1 (⟨O,_,_,⟨_,_,O,(BB (i:=0) Ba O O O),O⟩,(B4 (is:=[2]) O),?_⟩));refine⟨by show (.agg [.p (I tk),.p (I ti),.p (.str tn),.p (.lst (List.map B0 tl)),.p (.lst (BE ts))]:AV)=_;rw[Cf,if_pos c,if_pos c1];rfl,?_⟩;show ([.box b [.p (I er),.p (I nd)]]:List BJ)=_;rw[Cf,if_pos c,if_pos c1]
   (try simp only[sd,se] at c1);refine A2 (Au (Az (Ax Ay 3 [1] O (Ar O (ED O O) (Ax Ay 2 [] O (Ar O (ED O O) (As Ay 1 [] O (Aw O (fun c2=>?_) (fun c2=>?_)))))))))
   ·(try simp only[sd,se] at c2);refine Az (Bt O (Ar O (B8 [2] O (.inl ⟨O,O,O⟩) (XB b er nd 24) ⟨_,_,O,O,O⟩ An O (.inl O)) (Bj O (Av Ay 2 [1,0,0] O (A1 (⟨O,_,_,⟨_,_,O,(BB (i:=0) Ba O O O),O⟩,(B4 (is:=[2]) O),?_⟩))))));refine⟨by show (.agg [.p (I tk),.p (I ti),.p (.str tn),.p (.lst (List.map B0 tl)),.p (.lst (BE ts))]:AV)=_;rw[Cf,if_pos c,if_neg Ao,if_pos c2];rfl,?_⟩;show ([.box b [.p (I (Gg er 24)),.p (I nd)]]:List BJ)=_;rw[Cf,if_pos c,if_neg Ao,if_pos c2]
   (try simp only[sd,se] at c2);refine A2 (Az (Ax Ay 4 [1] O (Ar O (ED O O) (Ar O (B8 [2] O (.inl ⟨O,O,O⟩) (RG b er nd (wr ((ti:Int)+(by':Int)))) ⟨_,_,rfl,rfl,rfl⟩ An rfl (.inl rfl)) (As Ay 1 [0,1] O (A1 (⟨O,_,_,⟨_,_,O,(BB (i:=0) Ba O O Ah),O⟩,(B4 (is:=[2]) O),?_⟩)))))));refine⟨by show (.agg ((BO (Oz (wr ((ti:Int)+(by':Int))))).map .p):AV)=_;rw[Cf,if_pos c,if_neg Ao,if_neg Ao],?_⟩;show ([.box b [.p (I (NX er (wr ((ti:Int)+(by':Int))))),.p (I nd)]]:List BJ)=_;rw[Cf,if_pos c,if_neg Ao,if_neg Ao]
  (try simp only[sd,se] at c);refine A2 (Av Ay 1 [] O (Au (Av Ay 1 [] O (BA (BI (EG (t:=11) (sz:=5) O) (Be (α:=Nat×List Tm×Int×Option Nat×Nat) (fun(i,ys,e,o,cp)=>⟨68,mk [(0,.ptr b 0),(2,.p (I by')),(3,.p (I fr)),(4,.p (I d)),(6,.ptr b6 0),(10,.ptr b10 0),(11,.vs o (BE ys).length cp),(12,.p (I (i:Int)))],[.vec o 5 (BE ys) cp,.box b10 [.p (I 0),.p (I 0),.p (.str ⟨#[]⟩),.p (.nils),.p (.nils)],.box b6 [.p (I tk),.p (I ti),.p (.str tn),.p (.lst (List.map B0 tl)),.p (.lst (BE ts))],.box b [.p (I e),.p (I nd)]],[]⟩) (fun(i,ys,e,o,cp)=>ts.length - i) (fun(i,ys,e,o,cp)=>i≤ts.length∧(ys.length=i∧(ys++(DJ by' fr tk d i e (ts.drop i)).1,(DJ by' fr tk d i e (ts.drop i)).2)=DJ by' fr tk d 0 er ts)) ⟨0,[],er,none,0⟩ Ap ?_ ?_))))))
  ·exact BY ⟨we O,we O,we O,we O,we O,we O,we O,we O,Aq⟩ (leH (is:=[0,1,2,3]) O (wl (oe O) (wl (oe O) (wl (oe O) (wl (oe O) (C7))))))
  rintro⟨i,ys,e,o,cp⟩ hC
  try simp only at hC
  obtain⟨hi,hl,hC⟩:=hC;refine Au (Az (Ax Ay 3 [2] O (Ar O (BM Bf O (BS _)) (As Ay 1 [] O (Aw O (fun c1=>?_) (fun c1=>?_))))))
  ·(try simp only[sd,se] at c1);refine A2 (Au (BA (Bu (fun k=>Nat.beq k 17) Dt (BQ Ay 5 [2] O ?_))));obtain⟨x,hx⟩:=A7 (l:=ts) (i:=i) Ao;refine BH O (fun _=>A5 Bf O O Ao (Bc hx) (BD _)) Aq (BQ Ay 7 [2] O (BH O (fun _=>BF O O (UT tk (i:Int)) O) Aq (BH O (fun _=>LA O O (by have:=C5 tk i;omega) (by have:=C5 tk i;omega)) Aq (GP O O (B8 [3] O (.inl ⟨O,O,O⟩) (ih x b by' fr ((d:Int)+(below tk (i:Int):Int)) e nd (by have:=Ce hx;omega) (DW h2.2.2.2.2.1 hx) (by have:=C5 tk i;omega) (by have:=C5 tk i;omega)) ⟨_,_,rfl,rfl,rfl⟩ An rfl (.inl rfl)) AB trivial ?_))));generalize hz:(Cf by' fr ((d:Int)+(below tk (i:Int):Int)) e x).1=z;obtain⟨zk,zi,zn,zl,zs⟩:=z;refine BH O (fun _=>Bo Bf Bz O O O O O) Aq (LC [] O O (CQ (i:=0) (rows':=BE [(.mk zk zi zn zl zs:Tm)]) Bf Bf Bz O O O O O O (Bw _) AD (Jl ys [(.mk zk zi zn zl zs:Tm)])) Ak fun o1 cp1=>⟨AB,Aq,?_⟩);refine Bn Ay 1 [] O (A4 (As Ay 3 [] O ?_));refine⟨⟨i+1,ys++[(Cf by' fr (d+below tk i) e x).1],(Cf by' fr (d+below tk i) e x).2,o1,cp1⟩,AU,⟨by omega,⟨by simp[hl],by rw[←hC,Ch hx];simp[DJ]⟩⟩,BY ⟨we rfl,we rfl,we rfl,we rfl,we rfl,we rfl,we (Lk (ys++[(.mk zk zi zn zl zs:Tm)]) (by rw[hz])),we rfl,trivial⟩ (leH (is:=[0,1,2,3]) rfl (wl (J5 (ys++[(.mk zk zi zn zl zs:Tm)]) (by rw[hz])) (wl (oe rfl) (wl (oe rfl) (wl (oe rfl) (C7))))))⟩
  (try simp only[sd,se] at c1);refine Bg (Az (Ax Ay 2 [] O (B3 (Cj (i:=0) [11,65] O (D6 ⟨O,O,Aq⟩)) (As Ay 1 [1,0] O (Av Ay 2 [1,0,0] O (A1 (⟨O,_,_,⟨_,_,O,(BB (i:=0) Ba O O O),O⟩,(B4 (is:=[2]) O),?_⟩)))))));refine⟨by show (.agg [.p (I tk),.p (I ti),.p (.str tn),.p (.lst (List.map B0 tl)),.p (.lst (BE ys))]:AV)=_;rw[Cf,if_neg c];rw[show i=ts.length by omega,List.drop_length] at hC;rw[←hC];simp[DJ];rfl,?_⟩;show ([.box b [.p (I e),.p (I nd)]]:List BJ)=_;rw[Cf,if_neg c];rw[show i=ts.length by omega,List.drop_length] at hC;rw[←hC];simp[DJ]
theorem jj:∀(n:Nat) (t:Tm) (vs:List Tm) (b:Nat) (d er nd:Int),(size t≤n)→(Nd t)→(Ld vs)→(Bb vs+d+n<2 ^ 62)→(0≤d)→Bq Tryz.prog 94 [.ptr b 0,.agg ((BO t).map .p),.p (.lst (BE vs)),.p (I d)] [.box b [.p (I er),.p (I nd)]] (GW (.agg ((BO ((CD vs d er nd t).1)).map .p)) [.box b [.p (I ((CD vs d er nd t).2.1)),.p (I ((CD vs d er nd t).2.2))]]):=by
 intro n
 induction n with
 | zero=>intro t vs b d er nd h;cases t;simp[size] at h
 | succ n ih =>
  intro t vs b d er nd h1 h2 h3 h4 h5;obtain⟨tk,ti,tn,tl,ts⟩:=t;simp only[size] at h1;simp only[Nd,I2,Dd] at h2;have hvl:=HW vs;refine A6 Tryz.func94 O qR (n:=105) O O (Az (BG O (BP O) fun b5=>BG O (A8 Bz O) fun b8=>Bj O (Au (Av Ay 5 [2] O (Aw O (fun c=>?_) (fun c=>?_))))))
  ·(try simp only[sd,se] at c);refine Av Ay 2 [1,0,0] O (A1 (⟨O,_,_,⟨_,_,O,(BB (i:=0) Ba O O O),O⟩,(B4 (is:=[2]) O),?_⟩));refine⟨by show (.agg [.p (I tk),.p (I ti),.p (.str tn),.p (.lst (List.map B0 tl)),.p (.lst (BE ts))]:AV)=_;rw[CD,if_pos Ao];rfl,?_⟩;show ([.box b [.p (I er),.p (I nd)]]:List BJ)=_;rw[CD,if_pos Ao]
  (try simp only[sd,se] at c);refine A2 (Au (Au (BR [0,2,3,5,8] 35 (fun y=>y= .p (.bool ((((tk:Int)==(0:Int))&&(decide ((ti:Int)≥(d:Int))))&&(decide (((ti:Int) - (d:Int):Int)<((vs.length:Nat):Int)))))) ?_ ?_)))
  ·refine A4 (Ax Ay 4 [1] O (BL 21 O (fun g=>?_) (fun g=>?_)))
   ·(try simp only[sd,se] at g);refine Ax Ay 6 [1] O (BL 27 O (fun g1=>?_) (fun g1=>?_))
    ·(try simp only[sd,se] at g1);exact Ax Ay 5 [1] O (BC O (BM Bf O (BS _)) (As Ay 2 [] O (⟨O,O,AK,AI,⟨O,O,O,O,O,Aq⟩⟩)))
    (try simp only[sd,se] at g1);exact As Ay 8 [] O (⟨O,O,AK,AI,⟨O,O,O,O,O,Aq⟩⟩)
   (try simp only[sd,se] at g);exact As Ay 14 [] O (⟨O,O,AK,AI,⟨O,O,O,O,O,Aq⟩⟩)
  rintro _ rfl;refine Aw O (fun c1=>?_) (fun c1=>?_)
  ·(try simp only[sd,se] at c1);refine Az (Ax Ay 5 [1] O ?_);obtain⟨x,hx⟩:=A7 (l:=vs) (i:=((ti:Int) - (d:Int):Int).toNat) Ao;refine Ar O (A5 Bf O O Ao (Bc hx) (BD _)) (Ar O (BN Ba O (BD _)) (BG O (A8 Bz O) fun b9=>As Ay 1 [0,1] O (Au (Bu (fun k=>false) Dt (BQ Ay 5 [3,0] O (BH O (fun _=>BF O O (MS _ x (Nat.le_refl _) (DW h3 hx)) O) Aq (BH O (fun _=>ED O O) Aq (Bn Ay 3 [3,0] O (Az (Ax Ay 3 [0] O (Ar O (B8 [3] O (.inl ⟨O,O,O⟩) (ZQ _ x b d 0 0 er (wr ((nd:Int)+(Eo x:Int))) (Nat.le_refl _) (DW h3 hx) Ao (by have:=Ce hx;omega)) ⟨_,_,O,O,O⟩ An O (.inl O)) (As Ay 1 [1,1] O (A1 (⟨O,_,_,⟨_,_,O,(BB (i:=1) Ba O O Ah),O⟩,(B4 (is:=[3]) O),?_⟩))))))))))))));refine⟨by show (.agg ((BO ((Cf d 0 0 er x).1)).map .p):AV)=_;rw[CD,if_neg Ao,if_pos Ao,Oo hx],?_⟩;show ([.box b [.p (I ((Cf d 0 0 er x).2)),.p (I (wr ((nd:Int)+(Eo x:Int))))]]:List BJ)=_;rw[CD,if_neg Ao,if_pos Ao,Oo hx]
  (try simp only[sd,se] at c1);refine A2 (Az (Ax Ay 4 [2] O (Ar O (ED O O) (As Ay 3 [2,0] O (Au (Av Ay 3 [1] O (Aw O (fun c2=>?_) (fun c2=>?_))))))))
  ·(try simp only[sd,se] at c2);refine Au (Av Ay 4 [1] O (Aw O (fun c3=>?_) (fun c3=>?_)))
   ·(try simp only[sd,se] at c3);refine Az (Ax Ay 4 [1] O (Ar O (BM Bf O (BS _)) (Ar O (JR O O) (Ar O (B8 [2] O (.inl ⟨O,O,O⟩) (RG b er (wr ((nd:Int)+(1:Int))) (wr ((ti:Int) - ((vs.length:Nat):Int)))) ⟨_,_,O,O,O⟩ An O (.inl O)) (As Ay 1 [0,1] O (A1 (⟨O,_,_,⟨_,_,O,(BB (i:=0) Ba O O Ah),O⟩,(B4 (is:=[2]) O),?_⟩)))))));refine⟨by show (.agg ((BO (Oz (wr ((ti:Int) - ((vs.length:Nat):Int))))).map .p):AV)=_;rw[CD,if_neg Ao,if_neg Ao,if_pos Ao,if_pos Ao],?_⟩;show ([.box b [.p (I (NX er (wr ((ti:Int) - ((vs.length:Nat):Int))))),.p (I (wr ((nd:Int)+(1:Int))))]]:List BJ)=_;rw[CD,if_neg Ao,if_neg Ao,if_pos Ao,if_pos Ao]
   (try simp only[sd,se] at c3);refine A2 (Av Ay 2 [1,0,0] O (A1 (⟨O,_,_,⟨_,_,O,(BB (i:=0) Ba O O O),O⟩,(B4 (is:=[2]) O),?_⟩)));refine⟨by show (.agg [.p (I tk),.p (I ti),.p (.str tn),.p (.lst (List.map B0 tl)),.p (.lst (BE ts))]:AV)=_;rw[CD,if_neg Ao,if_neg Ao,if_pos Ao,if_neg Ao];rfl,?_⟩;show ([.box b [.p (I er),.p (I (wr ((nd:Int)+(1:Int))))]]:List BJ)=_;rw[CD,if_neg Ao,if_neg Ao,if_pos Ao,if_neg Ao]
  (try simp only[sd,se] at c2);refine A2 (Av Ay 1 [] O (Au (Av Ay 1 [] O (BA (BI (EG (t:=10) (sz:=5) O) (Be (α:=Nat×List Tm×Int×Int×Option Nat×Nat) (fun(i,ys,e,m,o,cp)=>⟨105,mk [(0,.ptr b 0),(2,.p (.lst (BE vs))),(3,.p (I d)),(5,.ptr b5 0),(8,.ptr b8 0),(10,.vs o (BE ys).length cp),(11,.p (I (i:Int)))],[.vec o 5 (BE ys) cp,.box b8 [.p (I 0),.p (I 0),.p (.str ⟨#[]⟩),.p (.nils),.p (.nils)],.box b5 [.p (I tk),.p (I ti),.p (.str tn),.p (.lst (List.map B0 tl)),.p (.lst (BE ts))],.box b [.p (I e),.p (I m)]],[]⟩) (fun(i,ys,e,m,o,cp)=>ts.length - i) (fun(i,ys,e,m,o,cp)=>i≤ts.length∧(ys.length=i∧(ys++(Cd vs tk d i e m (ts.drop i)).1,(Cd vs tk d i e m (ts.drop i)).2)=Cd vs tk d 0 er (wr (nd+1)) ts)) ⟨0,[],er,wr (nd+1),none,0⟩ Ap ?_ ?_))))))
  ·exact BY ⟨we O,we O,we O,we O,we O,we O,we O,Aq⟩ (leH (is:=[0,1,2,3]) O (wl (oe O) (wl (oe O) (wl (oe O) (wl (oe O) (C7))))))
  rintro⟨i,ys,e,m,o,cp⟩ hC
  try simp only at hC
  obtain⟨hi,hl,hC⟩:=hC;refine Au (Az (Ax Ay 3 [2] O (Ar O (BM Bf O (BS _)) (As Ay 1 [] O (Aw O (fun c3=>?_) (fun c3=>?_))))))
  ·(try simp only[sd,se] at c3);refine A2 (Au (BA (Bu (fun k=>Nat.beq k 16) Dt (BQ Ay 5 [2] O ?_))));obtain⟨x,hx⟩:=A7 (l:=ts) (i:=i) Ao;refine BH O (fun _=>A5 Bf O O Ao (Bc hx) (BD _)) Aq (BQ Ay 6 [2] O (BH O (fun _=>BF O O (UT tk (i:Int)) O) Aq (BH O (fun _=>LA O O (by have:=C5 tk i;omega) (by have:=C5 tk i;omega)) Aq (GP O O (B8 [3] O (.inl ⟨O,O,O⟩) (ih x vs b ((d:Int)+(below tk (i:Int):Int)) e m (by have:=Ce hx;omega) (DW h2.2.2.2.2.1 hx) h3 (by have:=C5 tk i;omega) (by have:=C5 tk i;omega)) ⟨_,_,O,O,O⟩ An O (.inl O)) AB Aq ?_))));generalize hz:(CD vs ((d:Int)+(below tk (i:Int):Int)) e m x).1=z;obtain⟨zk,zi,zn,zl,zs⟩:=z;refine BH O (fun _=>Bo Bf Bz O O O O O) Aq (LC [] O O (CQ (i:=0) (rows':=BE [(.mk zk zi zn zl zs:Tm)]) Bf Bf Bz O O O O O O (Bw _) AD (Jl ys [(.mk zk zi zn zl zs:Tm)])) Ak fun o1 cp1=>⟨AB,Aq,?_⟩);refine Bn Ay 1 [] O (A4 (As Ay 3 [] O ?_));refine⟨⟨i+1,ys++[(CD vs (d+below tk i) e m x).1],(CD vs (d+below tk i) e m x).2.1,(CD vs (d+below tk i) e m x).2.2,o1,cp1⟩,AU,⟨by omega,⟨by simp[hl],by rw[←hC,Ch hx];simp[Cd]⟩⟩,BY ⟨we rfl,we rfl,we rfl,we rfl,we rfl,we (Lk (ys++[(.mk zk zi zn zl zs:Tm)]) (by rw[hz])),we rfl,trivial⟩ (leH (is:=[0,1,2,3]) rfl (wl (J5 (ys++[(.mk zk zi zn zl zs:Tm)]) (by rw[hz])) (wl (oe rfl) (wl (oe rfl) (wl (oe rfl) (C7))))))⟩
  (try simp only[sd,se] at c3);refine Bg (Az (Ax Ay 2 [] O (B3 (Cj (i:=0) [10,102] O (D6 ⟨O,O,Aq⟩)) (As Ay 1 [1,0] O (Av Ay 2 [1,0,0] O (A1 (⟨O,_,_,⟨_,_,O,(BB (i:=0) Ba O O O),O⟩,(B4 (is:=[2]) O),?_⟩)))))));refine⟨by show (.agg [.p (I tk),.p (I ti),.p (.str tn),.p (.lst (List.map B0 tl)),.p (.lst (BE ys))]:AV)=_;rw[CD,if_neg Ao,if_neg Ao,if_neg Ao];rw[show i=ts.length by omega,List.drop_length] at hC;rw[←hC];simp[Cd];rfl,?_⟩;show ([.box b [.p (I e),.p (I m)]]:List BJ)=_;rw[CD,if_neg Ao,if_neg Ao,if_neg Ao];rw[show i=ts.length by omega,List.drop_length] at hC;rw[←hC];simp[Cd]
theorem e7:∀(t:Tm) (vs:List Tm) (d:Int),(size t<2 ^ 60)→(Nd t)→(Ld vs)→(Bb vs<2 ^ 60)→(0≤d)→Ec Tryz.prog 59 [.agg ((BO t).map .p),.p (.lst (BE vs)),.p (I d)] (.tup [.agg ((BO ((CT t vs d).1)).map .p),.p (I ((CT t vs d).2))]):=by
 intro t vs d h1 h2 h3 h4 h5;generalize hr:CD vs (min d 65536) 0 0 t=r;refine A6 Tryz.func59 O qJ (n:=42) O O (Az (BG O (BP O) fun b3=>BG O (A8 Bz O) fun b6=>As Ay 1 [] O (Au (Av Ay 2 [] O (Aw O (fun c=>?_) (fun c=>?_))))))
 ·(try simp only[sd,se] at c);exact Av Ay 3 [0,0] O (BI (BT (i:=0) O) (A1 (absurd c Ao)))
 (try simp only[sd,se] at c);refine A2 (Az (Ar O (CO eW eU O) (BG O (BP O) fun b14=>As Ay 1 [] O (Az (Ax Ay 4 [2] O (Ar O (Ym O O) (Ar O (B8 [0] O (.inl ⟨O,O,O⟩) (jj _ t vs b14 (min (d:Int) (65536:Int)) 0 0 (Nat.le_refl _) h2 h3 Ao Ao) ⟨_,_,O,O,O⟩ An O (.inl O)) (BG O (A8 Bz O) fun b9=>As Ay 1 [0,1] O (Au (Av Ay 5 [1] O (Aw O (fun c1=>?_) (fun c1=>?_))))))))))))
 ·(try simp only[sd,se] at c1);refine Av Ay 3 [2,0] O (BI (BT (i:=2) O) (A1 (⟨O,_,_,⟨_,_,O,(BB (i:=2) Ba O O O),⟨_,_,O,O,O⟩⟩,(List.nil_sublist _),?_⟩)));unfold CT;rw[if_pos (by simpa using c1)]
  all_goals exact⟨rfl,rfl⟩
 (try simp only[sd,se] at c1);refine A2 (Au (Av Ay 5 [1] O (Aw O (fun c2=>?_) (fun c2=>?_))))
 ·(try simp only[sd,se] at c2);refine Au (Bu (fun k=>false) Dt (Bn Ay 7 [1,2,0] O (BI (BT (i:=2) O) (A1 (⟨O,_,_,⟨_,_,O,(BB (i:=2) Ba O O O),⟨_,_,O,O,O⟩⟩,(List.nil_sublist _),?_⟩)))));unfold CT;rw[if_neg Ao,if_pos c2]
  all_goals exact⟨rfl,rfl⟩
 (try simp only[sd,se] at c2);refine A2 (Au (Az (Ar O (BU (i:=0) Ba O O Ah) (Ar O (BF O O (OL _ ((CD vs (min (d:Int) (65536:Int)) 0 0 t).1) (Nat.le_refl _) (PU t vs _ _ _ h2 h3)) O) (As Ay 1 [] O (Aw O (fun c3=>?_) (fun c3=>?_)))))))
 ·(try simp only[sd,se] at c3);refine Av Ay 3 [2,0] O (BI (BT (i:=2) O) (A1 (⟨O,_,_,⟨_,_,O,(BB (i:=2) Ba O O O),⟨_,_,O,O,O⟩⟩,(List.nil_sublist _),?_⟩)));unfold CT;rw[if_neg Ao,if_neg (by simpa using c2),if_pos c3]
  all_goals exact⟨rfl,rfl⟩
 (try simp only[sd,se] at c3);refine A2 (Av Ay 3 [0,2,1] O (A1 (⟨O,_,_,⟨_,_,O,(BB (i:=2) Ba O O Ah),⟨_,_,O,O,O⟩⟩,(List.nil_sublist _),?_⟩)));unfold CT;rw[if_neg Ao,if_neg (by simpa using c2),if_neg Ao]
 all_goals exact⟨rfl,rfl⟩
theorem Rs:∀(t:Tm) (vs:List Tm),(size t<2 ^ 60)→(Nd t)→(Ld vs)→(Bb vs<2 ^ 60)→Ec Tryz.prog 23 [.agg ((BO t).map .p),.p (.lst (BE vs))] (.tup [.agg ((BO ((CT t vs 0).1)).map .p),.p (I ((CT t vs 0).2))]):=by
 intro t vs h1 h2 h3 h4;refine A6 Tryz.func23 O sD (n:=11) O O (Az (BG O (BP O) fun b2=>BG O (A8 Bz O) fun b4=>As Ay 1 [] O (Az (Ax Ay 2 [1] O (Ar O (BF O O (e7 t vs 0 h1 h2 h3 h4 Ao) O) (As Ay 4 [0,1] O (A1 (⟨O,_,_,⟨_,_,O,(BB (i:=0) Ba O O Ah),⟨_,_,O,O,O⟩⟩,(List.nil_sublist _),?_⟩))))))))
 all_goals exact⟨rfl,rfl⟩
theorem iZ:∀(b:Nat) (c:EL) (t:Tm) (e:Int),(Nd t)→Bq Tryz.prog 78 [.ptr b 0,.agg ((BO t).map .p),.p (I e)] [.box b ((G6 c).map .p)] (GW (.tup []) [.box b ((G6 (c.form t e)).map .p)]):=by
 intro b c t e h1;refine A6 Tryz.func78 O qu (n:=65) O O (Az (BG O (BP O) fun b4=>Bj O (Au (Bu (fun k=>false) Dt (BQ Ay 5 [1,0] O (BH O (fun _=>BF O O (MS _ t (Nat.le_refl _) h1) O) Aq (BH O (fun _=>ED O O) Aq (Bn Ay 3 [1,0] O (Au (BR [0] 61 (fun y=>y= .p (.bool (((((((e:Int) !=(0:Int))||(decide ((c.steps:Int) > (c.limit:Int))))||(decide ((c.nodes:Int) > (wr ((2:Int)*(c.limit:Int)):Int))))||(decide ((wr ((c.forms:Int)+(Eo t:Int)):Int) > (wr ((40:Int)*(c.limit:Int)):Int))))||(decide ((Eo t:Int) > (2000:Int))))||(decide ((Ev t:Int) > (95:Int)))))) ?_ ?_))))))))))
 ·refine Bu (fun k=>false) Dt (BQ Ay 3 [] O (Dx 17 O (fun g=>?_) (fun g=>?_)))
  ·(try simp only[sd,se] at g);exact Bn Ay 44 [] O (⟨O,O,AK,AI,⟨O,Aq⟩⟩)
  (try simp only[sd,se] at g);refine BQ Ay 11 [1,1] O (Dx 28 O (fun g1=>?_) (fun g1=>?_))
  ·(try simp only[sd,se] at g1);exact Bn Ay 33 [] O (⟨O,O,AK,AI,⟨O,Aq⟩⟩)
  (try simp only[sd,se] at g1);refine BQ Ay 8 [1,1] O (Cc O (fun _=>VJ O O) Aq (BQ Ay 3 [] O (Dx 40 O (fun g2=>?_) (fun g2=>?_))))
  ·(try simp only[sd,se] at g2);exact Bn Ay 21 [] O (⟨O,O,AK,AI,⟨O,Aq⟩⟩)
  (try simp only[sd,se] at g2);refine BQ Ay 8 [1,1] O (Cc O (fun _=>VJ O O) Aq (BQ Ay 3 [] O (Dx 52 O (fun g3=>?_) (fun g3=>?_))))
  ·(try simp only[sd,se] at g3);exact Bn Ay 9 [] O (⟨O,O,AK,AI,⟨O,Aq⟩⟩)
  (try simp only[sd,se] at g3);refine BQ Ay 1 [0] O (Cc O (fun _=>BF O O (MS _ t (Nat.le_refl _) h1) O) Aq (BQ Ay 3 [] O (Dx 57 O (fun g4=>?_) (fun g4=>?_))))
  ·(try simp only[sd,se] at g4);exact Bn Ay 4 [] O (⟨O,O,AK,AI,⟨O,Aq⟩⟩)
  (try simp only[sd,se] at g4);exact BQ Ay 1 [0] O (Cc O (fun _=>BF O O (OL _ t (Nat.le_refl _) h1) O) Aq (Bn Ay 2 [] O (⟨O,O,AK,AI,⟨O,Aq⟩⟩)))
 rintro _ rfl;refine Aw O (fun c1=>?_) (fun c1=>?_)
 ·have c1R:=c1;(try simp only[sd,se] at c1);refine A4 (As Ay 4 [1,0] O ⟨O,_,_,O,(B4 (is:=[1]) O),?_⟩);refine⟨O,?_⟩;show ([.box b [.p (I c.steps),.p (I c.nodes),.p (I (wr ((c.forms:Int)+(Eo t:Int)))),.p (I c.limit),.p (.bool true)]]:List BJ)=_;simp only[EL.form,G6,List.map_cons,List.map_nil];rw[c1R];simp
 have c1R:=c1;(try simp only[sd,se] at c1);refine A2 ⟨O,_,_,O,(B4 (is:=[1]) O),?_⟩;refine⟨O,?_⟩;show ([.box b [.p (I c.steps),.p (I c.nodes),.p (I (wr ((c.forms:Int)+(Eo t:Int)))),.p (I c.limit),.p (.bool c.over)]]:List BJ)=_;simp only[EL.form,G6,List.map_cons,List.map_nil];rw[c1R];simp
theorem jJ:∀{σ:Type}(st:σ→Int→Tm→σ×Bool) (Inv:Nat→σ→Prop) (HP:Bool→σ→List BJ→Prop) (l b2 b3 b4:Nat) (hI:∀m s d t,Inv (m+1) s→Inv m (st s d t).1) (hy:∀m s d t T,Nd t→Inv (m+1) s→HP true s T→MD Tryz.prog l [.p (I d),TV t] T (VM (.p (.bool (st s d t).2)) (HP (st s d t).2 (st s d t).1))) (n:Nat) (t:Tm) (d:Int) (s:σ) (T0:List BJ) (m:Nat),size t≤n→Nd t→0≤d→d+n<4611686018427387904→Inv (m+size t) s→HP true s T0→Bq Tryz.prog 114 [TV t,.p (I d),.ptr b2 0,.ptr b3 0,.ptr b4 0] (.box b2 [.fn (.yield l) [] []]:: .box b3 O8:: .box b4 [.fn (.func 114) [] [.ptr b2 0,.ptr b3 0,.ptr b4 0]]::T0) (VM (.p (.bool (El st t d s).2)) (fun H=>∃T,HP (El st t d s).2 (El st t d s).1 T∧H= .box b2 [.fn (.yield l) [] []]:: .box b3 O8:: .box b4 [.fn (.func 114) [] [.ptr b2 0,.ptr b3 0,.ptr b4 0]]::T)):=by
 intro σ st Inv HP l b2 b3 b4 hI hy n
 induction n with
 | zero=>intro t d s T0 m h;cases t;simp[size] at h
 | succ n ih =>
  intro t d s T0 m h1 h2 h3 h4 h5 h6;obtain⟨tk,ti,tn,tl,ts⟩:=t;have h2':=h2;simp only[size] at h1 h5;simp only[Nd,I2,Dd] at h2;refine A6 Tryz.func114 O pq (n:=50) O O (Az (BG O (BP O) fun b5=>As Ay 1 [] O (Au (Az (Ax Ay 3 [1,0] O (JA [_,_,_,_] O O O O (hy (m+Bb ts) _ _ _ _ h2' (by rw[Nat.add_assoc,Nat.add_comm (Bb ts)];exact h5) h6) O ?_ (fun _ _ h=>h.elim)))))));rintro _ T ⟨rfl,hT⟩;refine As Ay 1 [] O (Aw O (fun c=>?_) (fun c=>?_))
  ·(try simp only[sd,se] at c);refine Av Ay 1 [] O (A1 (⟨O,_,_,⟨_,_,O,O,O⟩,(Gx [1,2,3] [_,_,_,_] O),?_⟩));rw[VN c];rw[c] at hT;exact⟨O,_,hT,O⟩
  (try simp only[sd,se] at c);rw[c] at hT;refine A2 (Av Ay 1 [] O (Au (Au (BR [1,3,4,5,8] 24 (fun y=>y= .p (.bool ((decide ((tk:Int)≥(0:Int)))&&(decide ((tk:Int)<(13:Int)))))) ?_ ?_))))
  ·refine A4 (Ax Ay 4 [0] O (BL 20 O (fun g=>?_) (fun g=>?_)))
   ·(try simp only[sd,se] at g);exact As Ay 4 [0] O (⟨O,O,AK,AI,⟨O,O,O,O,O,Aq⟩⟩)
   (try simp only[sd,se] at g);exact As Ay 4 [] O (⟨O,O,AK,AI,⟨O,O,O,O,O,Aq⟩⟩)
  rintro _ rfl;refine Aw O (fun c1=>?_) (fun c1=>?_)
  ·(try simp only[sd,se] at c1);refine A4 (Ax Ay 2 [0] O (Ar O (SG j2 j4 O O Ao Ao) (Ar O (A0 pV O O) (Ar O (B7 (i:=2) DH O O (cz Ao)) (As Ay 1 [] O (Au (Az (Ax Ay 2 [0] O (Ar O (BM Bf O (BS _)) (As Ay 1 [] O (BA ?_)))))))))));refine Be (α:=Nat×σ×List BJ) (fun(i,q,U)=>⟨50,mk [(1,.p (I d)),(4,.ptr b4 0),(8,.p (I (Js tk))),(31,.p (.lst (BE ts))),(32,.p (I (ts.length:Nat))),(33,.p (I (i:Int)))],(.box b2 [.fn (.yield l) [] []]:: .box b3 O8:: .box b4 [.fn (.func 114) [] [.ptr b2 0,.ptr b3 0,.ptr b4 0]]::U),[]⟩) (fun(i,q,U)=>ts.length - i) (fun(i,q,U)=>i≤ts.length∧(Eg st tk d i q (ts.drop i)=Eg st tk d 0 (st s d (.mk tk ti tn tl ts)).1 ts∧Inv (m+Bb (ts.drop i)) q∧HP true q U)) ⟨0,(st s d (.mk tk ti tn tl ts)).1,T⟩ (⟨by omega,by simp,by simpa using hI _ _ _ _ (by rw[Nat.add_assoc,Nat.add_comm (Bb ts)];exact h5),by assumption⟩) ?_ ?_
   ·exact BY ⟨we O,we O,we O,we O,we O,we O,Aq⟩ (YS [1,2,3] [_,_,_,_] (l':=[_,_,_]) O (wl (oe O) (wl (oe O) (wl (oe O) (C7)))))
   rintro⟨i,q,U⟩ hC
   try simp only at hC
   obtain⟨hi,hC,hJ,hK⟩:=hC;refine Av Ay 1 [] O (Au (Aw O (fun c2=>?_) (fun c2=>?_)))
   ·(try simp only[sd,se] at c2);refine A2 (Au (BA (Az (Bt O ?_))));obtain⟨x,hx⟩:=A7 (l:=ts) (i:=i) Ao;refine Ar O (A5 Bf O O Ao (Bc hx) (BD _)) (Ar O (BN Ba O (BD _)) (BG O (A8 Bz O) fun b10=>As Ay 2 [0,1] O (Av Ay 2 [] O (Au (Av Ay 3 [] O (Aw O (fun c3=>?_) (fun c3=>?_)))))))
    ·(try simp only[sd,se] at c3);refine A4 (As Ay 3 [] O (BI (C9 (t:=11) (x:= .p (I (d+below tk i))) (pI (by have:=Wp (k:=tk) (i:=i) Ao Ao;omega))) (Az (Ax Ay 3 [3,0] O (IW [_] O O O (.inr O) (ih x (d+below tk i) q _ (m+Bb (ts.drop (i+1))) (by have:=Ce hx;omega) (DW h2.2.2.2.2.1 hx) (by have:=C5 tk i;omega) (by have:=C5 tk i;omega) (by rw[Ch hx,Bb] at hJ;rw[Nat.add_assoc,Nat.add_comm (Bb _)];exact hJ) hK) (aw (we O) (aw (we O) (aw (we O) (aw (we O) (aw (we O) (Et)))))) ?_ (fun _ _ h=>h.elim))))));rintro _ _ ⟨rfl,T1,hT1,rfl⟩;refine As Ay 1 [] O (Aw O (fun c4=>?_) (fun c4=>?_))
     ·(try simp only[sd,se] at c4);refine Av Ay 1 [] O (A1 (⟨O,_,_,⟨_,_,O,O,O⟩,(Gx [1,2,3] [_,_,_,_] O),?_⟩));rw[Hr Al,←hC,Ix hx c4];rw[c4] at hT1;exact⟨O,_,hT1,O⟩
     (try simp only[sd,se] at c4);rw[c4] at hT1;refine A2 (A4 (As Ay 2 [] O ?_));refine⟨⟨i+1,(El st x (d+below tk i) q).1,T1⟩,AU,⟨by omega,⟨by rw[←hC];exact(Kv hx Al).symm,by rw[Ch hx,Bb] at hJ;exact JV hI x _ _ _ (by rw[Nat.add_assoc,Nat.add_comm (Bb _)];exact hJ) Al,by assumption⟩⟩,BY ⟨we rfl,we rfl,we rfl,we rfl,we rfl,we rfl,trivial⟩ (YS [1,2,3] [_,_,_,_] (l':=[_,_,_]) rfl (wl (oe rfl) (wl (oe rfl) (wl (oe rfl) (C7)))))⟩
    (try simp only[sd,se] at c3);refine A2 (BI (C9 (t:=11) (x:= .p (I (d+below tk i))) (pI (by have:=Tl (k:=tk) (i:=i) Ao;omega))) (Az (Ax Ay 3 [3,0] O (IW [_] O O O (.inr O) (ih x (d+below tk i) q _ (m+Bb (ts.drop (i+1))) (by have:=Ce hx;omega) (DW h2.2.2.2.2.1 hx) (by have:=C5 tk i;omega) (by have:=C5 tk i;omega) (by rw[Ch hx,Bb] at hJ;rw[Nat.add_assoc,Nat.add_comm (Bb _)];exact hJ) hK) (aw (we O) (aw (we O) (aw (we O) (aw (we O) (aw (we O) (Et)))))) ?_ (fun _ _ h=>h.elim)))));rintro _ _ ⟨rfl,T1,hT1,rfl⟩;refine As Ay 1 [] O (Aw O (fun c4=>?_) (fun c4=>?_))
    ·(try simp only[sd,se] at c4);refine Av Ay 1 [] O (A1 (⟨O,_,_,⟨_,_,O,O,O⟩,(Gx [1,2,3] [_,_,_,_] O),?_⟩));rw[Hr Al,←hC,Ix hx c4];rw[c4] at hT1;exact⟨O,_,hT1,O⟩
    (try simp only[sd,se] at c4);rw[c4] at hT1;refine A2 (A4 (As Ay 2 [] O ?_));refine⟨⟨i+1,(El st x (d+below tk i) q).1,T1⟩,AU,⟨by omega,⟨by rw[←hC];exact(Kv hx Al).symm,by rw[Ch hx,Bb] at hJ;exact JV hI x _ _ _ (by rw[Nat.add_assoc,Nat.add_comm (Bb _)];exact hJ) Al,by assumption⟩⟩,BY ⟨we rfl,we rfl,we rfl,we rfl,we rfl,we rfl,trivial⟩ (YS [1,2,3] [_,_,_,_] (l':=[_,_,_]) rfl (wl (oe rfl) (wl (oe rfl) (wl (oe rfl) (C7)))))⟩
   (try simp only[sd,se] at c2);refine Bg (Av Ay 1 [] O (A1 (⟨O,_,_,⟨_,_,O,O,O⟩,(Gx [0,1,2] [_,_,_] O),?_⟩)));rw[Hr Al,←hC,show i=ts.length by omega,List.drop_length];exact⟨O,_,hK,O⟩
  (try simp only[sd,se] at c1);have hbx:=Ws (k:=tk) Ao;refine A2 (Au (Az (Ax Ay 2 [0] O (Ar O (BM Bf O (BS _)) (As Ay 1 [] O (BA ?_))))));refine Be (α:=Nat×σ×List BJ) (fun(i,q,U)=>⟨50,mk [(1,.p (I d)),(4,.ptr b4 0),(8,.p (I (-1))),(31,.p (.lst (BE ts))),(32,.p (I (ts.length:Nat))),(33,.p (I (i:Int)))],(.box b2 [.fn (.yield l) [] []]:: .box b3 O8:: .box b4 [.fn (.func 114) [] [.ptr b2 0,.ptr b3 0,.ptr b4 0]]::U),[]⟩) (fun(i,q,U)=>ts.length - i) (fun(i,q,U)=>i≤ts.length∧(Eg st tk d i q (ts.drop i)=Eg st tk d 0 (st s d (.mk tk ti tn tl ts)).1 ts∧Inv (m+Bb (ts.drop i)) q∧HP true q U)) ⟨0,(st s d (.mk tk ti tn tl ts)).1,T⟩ (⟨by omega,by simp,by simpa using hI _ _ _ _ (by rw[Nat.add_assoc,Nat.add_comm (Bb ts)];exact h5),by assumption⟩) ?_ ?_
  ·exact BY ⟨we O,we O,we O,we O,we O,we O,Aq⟩ (YS [1,2,3] [_,_,_,_] (l':=[_,_,_]) O (wl (oe O) (wl (oe O) (wl (oe O) (C7)))))
  rintro⟨i,q,U⟩ hC
  try simp only at hC
  obtain⟨hi,hC,hJ,hK⟩:=hC;refine Av Ay 1 [] O (Au (Aw O (fun c2=>?_) (fun c2=>?_)))
  ·(try simp only[sd,se] at c2);refine A2 (Au (BA (Az (Bt O ?_))));obtain⟨x,hx⟩:=A7 (l:=ts) (i:=i) Ao;refine Ar O (A5 Bf O O Ao (Bc hx) (BD _)) (Ar O (BN Ba O (BD _)) (BG O (A8 Bz O) fun b10=>As Ay 2 [0,1] O (Av Ay 2 [] O (Au (Av Ay 3 [] O (Aw O (fun c3=>?_) (fun c3=>?_)))))))
   ·(try simp only[sd,se] at c3);refine A4 (As Ay 3 [] O (BI (C9 (t:=11) (x:= .p (I (d+below tk i))) (pI (by have:=Wp (k:=tk) (i:=i) Ao Ao;omega))) (Az (Ax Ay 3 [3,0] O (IW [_] O O O (.inr O) (ih x (d+below tk i) q _ (m+Bb (ts.drop (i+1))) (by have:=Ce hx;omega) (DW h2.2.2.2.2.1 hx) (by have:=C5 tk i;omega) (by have:=C5 tk i;omega) (by rw[Ch hx,Bb] at hJ;rw[Nat.add_assoc,Nat.add_comm (Bb _)];exact hJ) hK) (aw (we O) (aw (we O) (aw (we O) (aw (we O) (aw (we O) (Et)))))) ?_ (fun _ _ h=>h.elim))))));rintro _ _ ⟨rfl,T1,hT1,rfl⟩;refine As Ay 1 [] O (Aw O (fun c4=>?_) (fun c4=>?_))
    ·(try simp only[sd,se] at c4);refine Av Ay 1 [] O (A1 (⟨O,_,_,⟨_,_,O,O,O⟩,(Gx [1,2,3] [_,_,_,_] O),?_⟩));rw[Hr Al,←hC,Ix hx c4];rw[c4] at hT1;exact⟨O,_,hT1,O⟩
    (try simp only[sd,se] at c4);rw[c4] at hT1;refine A2 (A4 (As Ay 2 [] O ?_));refine⟨⟨i+1,(El st x (d+below tk i) q).1,T1⟩,AU,⟨by omega,⟨by rw[←hC];exact(Kv hx Al).symm,by rw[Ch hx,Bb] at hJ;exact JV hI x _ _ _ (by rw[Nat.add_assoc,Nat.add_comm (Bb _)];exact hJ) Al,by assumption⟩⟩,BY ⟨we rfl,we rfl,we rfl,we rfl,we rfl,we rfl,trivial⟩ (YS [1,2,3] [_,_,_,_] (l':=[_,_,_]) rfl (wl (oe rfl) (wl (oe rfl) (wl (oe rfl) (C7)))))⟩
   (try simp only[sd,se] at c3);refine A2 (BI (C9 (t:=11) (x:= .p (I (d+below tk i))) (pI (by have:=Tl (k:=tk) (i:=i) Ao;omega))) (Az (Ax Ay 3 [3,0] O (IW [_] O O O (.inr O) (ih x (d+below tk i) q _ (m+Bb (ts.drop (i+1))) (by have:=Ce hx;omega) (DW h2.2.2.2.2.1 hx) (by have:=C5 tk i;omega) (by have:=C5 tk i;omega) (by rw[Ch hx,Bb] at hJ;rw[Nat.add_assoc,Nat.add_comm (Bb _)];exact hJ) hK) (aw (we O) (aw (we O) (aw (we O) (aw (we O) (aw (we O) (Et)))))) ?_ (fun _ _ h=>h.elim)))));rintro _ _ ⟨rfl,T1,hT1,rfl⟩;refine As Ay 1 [] O (Aw O (fun c4=>?_) (fun c4=>?_))
   ·(try simp only[sd,se] at c4);refine Av Ay 1 [] O (A1 (⟨O,_,_,⟨_,_,O,O,O⟩,(Gx [1,2,3] [_,_,_,_] O),?_⟩));rw[Hr Al,←hC,Ix hx c4];rw[c4] at hT1;exact⟨O,_,hT1,O⟩
   (try simp only[sd,se] at c4);rw[c4] at hT1;refine A2 (A4 (As Ay 2 [] O ?_));refine⟨⟨i+1,(El st x (d+below tk i) q).1,T1⟩,AU,⟨by omega,⟨by rw[←hC];exact(Kv hx Al).symm,by rw[Ch hx,Bb] at hJ;exact JV hI x _ _ _ (by rw[Nat.add_assoc,Nat.add_comm (Bb _)];exact hJ) Al,by assumption⟩⟩,BY ⟨we rfl,we rfl,we rfl,we rfl,we rfl,we rfl,trivial⟩ (YS [1,2,3] [_,_,_,_] (l':=[_,_,_]) rfl (wl (oe rfl) (wl (oe rfl) (wl (oe rfl) (C7)))))⟩
  (try simp only[sd,se] at c2);refine Bg (Av Ay 1 [] O (A1 (⟨O,_,_,⟨_,_,O,O,O⟩,(Gx [0,1,2] [_,_,_] O),?_⟩)));rw[Hr Al,←hC,show i=ts.length by omega,List.drop_length];exact⟨O,_,hK,O⟩
theorem l5:Ec Tryz.prog 113 [] (.agg O8):=by
 refine A6 Tryz.func113 O m4 (n:=15) O O (Az (BG O (A8 dF O) fun b0=>Bj O (Az (Ax Ay 13 [] O (Ar O (EO j2 j4 dF O) (As Ay 1 [0,0] O (A1 (⟨O,_,_,⟨_,_,O,(BB (i:=0) mE O O O),O⟩,(List.nil_sublist _),?_⟩))))))))
 all_goals exact⟨rfl,rfl⟩
theorem cu:∀(t:Tm),Bq Tryz.prog 82 [.agg ((BO t).map .p)] [] (fun r H'=>∃b,r= .val (.fn (.func 112) [] [.ptr b 0])∧H'=[.box b ((BO t).map .p)]):=by
 intro t;refine A6 Tryz.func82 O rB (n:=4) O O (Az (BG O (BP O) fun b1=>As Ay 1 [] O (Av Ay 2 [] O (A1 (⟨O,_,_,⟨_,_,O,O,O⟩,(B4 (is:=[0]) O),?_⟩)))));exact⟨_,O,O⟩
theorem eH:∀{σ:Type}(st:σ→Int→Tm→σ×Bool) (Inv:Nat→σ→Prop) (HP:Bool→σ→List BJ→Prop) (l b1:Nat) (hI:∀m s d t,Inv (m+1) s→Inv m (st s d t).1) (hy:∀m s d t T,Nd t→Inv (m+1) s→HP true s T→MD Tryz.prog l [.p (I d),TV t] T (VM (.p (.bool (st s d t).2)) (HP (st s d t).2 (st s d t).1))) (t:Tm) (s:σ) (T0:List BJ) (m:Nat),Nd t→size t<4611686018427387904→Inv (m+size t) s→HP true s T0→Bq Tryz.prog 112 [.fn (.yield l) [] [],.ptr b1 0] (.box b1 ((BO t).map .p)::T0) (VM (.tup []) (fun H=>∃T,HP (El st t 0 s).2 (El st t 0 s).1 T∧H= .box b1 ((BO t).map .p)::T)):=by
 intro σ st Inv HP l b1 hI hy t s T0 m h1 h2 h3 h4;refine A6 Tryz.func112 O mS (n:=10) O O (Az (BG O (BP O) fun b2=>Bj O (Az (Ar O (BF O O (l5 ) O) (BG O (A8 dF O) fun b3=>As Ay 1 [0,0] O (Az (BG O (A8 pK O) fun b4=>Bj O (Av Ay 2 [0,0] O (A4 (Ax Ay 2 [0,3] O (Lw ((List.reverse_perm [_,_,_,_]).symm.append_right _) (IW [_] O O O (.inr O) (jJ st Inv HP l b2 b3 b4 hI hy _ t 0 s T0 m (Nat.le_refl _) h1 Ao Ao h3 h4) (aw (we O) (aw (we O) (aw (we O) (aw (we O) (aw (we O) (Et)))))) ?_ (fun _ _ h=>h.elim)))))))))))));rintro _ _ ⟨rfl,T,hT,rfl⟩;refine Bj O ⟨O,_,_,O,(Gx [0] [_,_,_,_] O),?_⟩;exact⟨O,_,hT,O⟩
theorem Yz:∀(t:Tm),(Nd t)→(size t<1152921504606846976)→Ec Tryz.prog 45 [.agg ((BO t).map .p)] (.p (I (size t:Nat))):=by
 intro t h1 h2;refine FT Tryz.func45 O sF (n:=11) O O (Az (BG O (BP O) fun b1=>As Ay 1 [] O (Az (BG O (A8 hG O) fun b3=>As Ay 1 [0,0] O (Au (Az (Ar O (BU (i:=1) Ba O O Ah) ?_)))))));refine eS [] O O O (.inl ⟨O,O,O⟩) (cu t) O Ap (aw (we O) Et) ?_ (fun _ _ ⟨_,h,_⟩=>by cases h);rintro _ _ ⟨bn,h,rfl⟩;cases h;refine Bj O (BA (Q9 (.inr O) fun dd l L hL=>⟨_,_,Da (is:=[2,0,3]) An ⟨_,_,O,O,⟨_,_,O,O,⟨_,_,O,O,O⟩⟩⟩,?_⟩));have hy:∀(m:Nat) (s:Int) (d:Int) (t:Tm) (T:List BJ),Nd t→(fun _ _=>True) (m+1) s→(fun(_:Bool) (s:Int) (T:List BJ)=>T=[.loop l L,.box b3 [.p (I s)]]) true s T→MD Tryz.prog l [.p (I d),TV t] T (VM (.p (.bool (Xk s d t).2)) ((fun(_:Bool) (s:Int) (T:List BJ)=>T=[.loop l L,.box b3 [.p (I s)]]) (Xk s d t).2 (Xk s d t).1)):=by
  rintro m s d tt T hnd hinv rfl;subst hL;refine Tb (i:=0) O O O O (A2 ⟨O,0,O,?_⟩);refine BA (A4 (Ar O (B7 (i:=1) DH O O O) (Ar O (ED O O) (As Ay 1 [1,0] O ⟨0,_,O,B4 (is:=[0,1]) O,?_⟩))));exact⟨O,O⟩
 refine(eH Xk (fun _ _=>True) (fun(_:Bool) (s:Int) (T:List BJ)=>T=[.loop l L,.box b3 [.p (I s)]]) l bn (fun _ _ _ _ _=>Aq) hy t 0 _ 0 (h1) Ao (Aq) O).mono ?_;rintro(v | v) H' hR
 rotate_left
 ·exact hR.elim
 obtain⟨rfl,_,rfl,rfl⟩:=hR;subst hL;refine⟨1,_,O,Ap,?_⟩;refine Av Ay 2 [1] O (A1 (⟨2,O,_,_,⟨_,_,O,O,O⟩,(List.nil_sublist _),?_⟩))
 all_goals exact⟨pI (by rw[Vy 4611686018427387904 (Int.le_refl _) t 0 0 Ao Ao];simp),rfl⟩
theorem V1:∀(n:Nat) (t:Tm),(size t≤n)→(Nd t)→Ec Tryz.prog 46 [.agg ((BO t).map .p)] (.p (I (Ev t))):=by
 intro n
 induction n with
 | zero=>intro t h;cases t;simp[size] at h
 | succ n ih =>
  intro t h1 h2;obtain⟨tk,ti,tn,tl,ts⟩:=t;simp only[size] at h1;simp only[Nd,Dd] at h2;refine A6 Tryz.func46 O qM (n:=20) O O (Az (BG O (BP O) fun b1=>As Ay 1 [] O (Av Ay 1 [] O (Au (Az (Ax Ay 2 [0] O (Ar O (BM Bf O (BS _)) (As Ay 1 [] O (BA (Be (α:=Nat×Int) (fun(i,m)=>⟨20,mk [(3,.p (I m)),(7,.p (.lst (BE ts))),(8,.p (I (ts.length:Nat))),(9,.p (I (i:Int)))],[],[]⟩) (fun(i,m)=>ts.length - i) (fun(i,m)=>i≤ts.length∧(Jp m (ts.drop i)=Jp 0 ts)) ⟨0,0⟩ Ap ?_ ?_))))))))))
  ·exact BY ⟨we O,we O,we O,we O,Aq⟩ (leH (is:=[]) O (C7))
  rintro⟨i,m⟩ hC
  try simp only at hC
  obtain⟨hi,hC⟩:=hC;refine Av Ay 1 [] O (Au (Aw O (fun c=>?_) (fun c=>?_)))
  ·(try simp only[sd,se] at c);refine A2 (Au (BA (Az ?_)));obtain⟨x,hx⟩:=A7 (l:=ts) (i:=i) Ao;refine Ar O (A5 Bf O O Ao (Bc hx) (BD _)) (Ar O (BN Ba O (BD _)) (BG O (A8 Bz O) fun b5=>As Ay 1 [0,1] O (A4 (Ax Ay 2 [0] O (Ar O (BF O O (ih x (by have:=Ce hx;omega) (DW h2.2.2.2.2.1 hx)) O) (Ar O (FR O O) (As Ay 1 [] O (A4 (As Ay 2 [] O ?_)))))))));refine⟨⟨i+1,max m (Ev x)⟩,AU,⟨by omega,by rw[←hC,Ch hx];rfl⟩,BY ⟨we rfl,we rfl,we rfl,we rfl,trivial⟩ (leH (is:=[]) rfl (C7))⟩
  (try simp only[sd,se] at c);refine Bg (Az (Bt O (Ar O (ED O O) (As Ay 1 [] O (A1 (⟨O,_,_,⟨_,_,O,O,O⟩,(List.nil_sublist _),?_⟩))))))
  all_goals exact⟨pI (by rw[show Ev (.mk tk ti tn tl ts)=wr (Jp 0 ts+1) from rfl,←hC,show i=ts.length by omega,List.drop_length];rfl),rfl⟩
theorem EP:∀(f:Tm) (xs:List Tm),(xs.length<Dd)→Ec Tryz.prog 73 [.agg ((BO f).map .p),.p (.lst (BE xs))] (.agg ((BO (apply f xs)).map .p)):=by
 intro f xs h1;simp only[Dd] at h1;refine A6 Tryz.func73 O qz (n:=19) O O (Az (BG O (BP O) fun b2=>BG O (A8 Bz O) fun b4=>Bj O (Au (Az (Bt O (Ar O (BM Bf O (BS _)) (As Ay 1 [] O (BA (Be (α:=Nat) (fun i=>⟨19,mk [(2,.ptr b2 0),(4,.ptr b4 0),(7,.p (.lst (BE xs))),(8,.p (I (xs.length:Nat))),(9,.p (I (i:Int)))],[.box b4 [.p (I 0),.p (I 0),.p (.str ⟨#[]⟩),.p (.nils),.p (.nils)],.box b2 ((BO (apply f (xs.take i))).map .p)],[]⟩) (fun i=>xs.length - i) (fun i=>i≤xs.length) 0 AQ ?_ ?_)))))))))
 ·exact BY ⟨we O,we O,we O,we O,we O,Aq⟩ (leH (is:=[0,1]) O (wl (oe O) (wl (oe O) (C7))))
 rintro i hC
 try simp only at hC
 have hi:=hC;refine Av Ay 1 [] O (Au (Aw O (fun c=>?_) (fun c=>?_)))
 ·(try simp only[sd,se] at c);refine A2 (Au (BA (Az ?_)));obtain⟨x,hx⟩:=A7 (l:=xs) (i:=i) Ao;refine Ar O (A5 Bf O O Ao (Bc hx) (BD _)) (Ar O (BN Ba O (BD _)) (BG O (A8 Bz O) fun b6=>As Ay 1 [0,1] O (A4 (Ax Ay 2 [2,0] O ?_))));generalize hz:(apply f (xs.take i))=z;obtain⟨zk,zi,zn,zl,zs⟩:=z;obtain⟨xk,xi,xn,xl,xs1⟩:=x;refine Ar O (Bo Bf Bz O O O O O) (As Ay 2 [2,0] O (A4 (As Ay 2 [] O ?_)));refine⟨(i+1),AU,by omega,BY ⟨we rfl,we rfl,we rfl,we rfl,we rfl,trivial⟩ (leH (is:=[1,2]) rfl (wl (oe rfl) (wl (on (by rw[Rg hx,hz];rfl)) (C7))))⟩
 (try simp only[sd,se] at c);refine Bg (Av Ay 2 [1,0,1] O (A1 (⟨O,_,_,⟨_,_,O,(BB (i:=0) Ba O O Ah),O⟩,(List.nil_sublist _),?_⟩)))
 all_goals exact⟨by show (.agg ((BO (apply f (xs.take i))).map .p):AV)=_;rw[show i=xs.length by omega,List.take_length],rfl⟩
theorem _root_.Go.AM {α:Prop}(h:α:=by simp only[BS,List.length_map,List.length_set];omega):α:=h
theorem _root_.Go.AY {α:Prop}(h:α:=by simp only[BS];omega):α:=h
theorem _root_.Go.AZ {α:Prop}(h:α:=by simp[BS];omega):α:=h
theorem dZ:∀(xs:List Tm) (o0:Option Nat) (c0:Nat),(xs.length<Dd)→Bq Tryz.prog 98 [.vs o0 (BE xs).length c0] [.vec o0 5 (BE xs) c0] (GW (.tup []) [.vec o0 5 (BE xs.reverse) c0]):=by
 intro xs o0 c0 h1;simp only[Dd] at h1;refine A6 Tryz.func98 O rK (n:=28) O O (Az (Bt O (Ar O (KA Bf O (BS _)) (As Ay 3 [] O (BA (Be (α:=Nat×List Tm×Option Nat×Nat) (fun(i,ys,o,cp)=>⟨28,mk [(0,.vs o (BE ys).length cp),(2,.p (I (i:Int))),(3,.p (I ((xs.length:Int) - 1 - (i:Int))))],[.vec o 5 (BE ys) cp],[]⟩) (fun(i,ys,o,cp)=>xs.length - i) (fun(i,ys,o,cp)=>i≤xs.length∧VP xs ys i∧o=o0∧cp=c0) ⟨0,xs,o0,c0⟩ (⟨by omega,YD xs,rfl,rfl⟩) ?_ ?_))))))
 ·exact BY ⟨we O,we O,we (pI Ao),Aq⟩ (leH (is:=[0]) O (wl (oe O) (C7)))
 rintro⟨i,ys,o,cp⟩ hC
 try simp only at hC
 obtain⟨hi,hR,ho,hcp⟩:=hC;have hyl:=hR.1;have hjn:((xs.length:Int) - 1 - (i:Int)).toNat=xs.length - 1 - i:=by omega
 refine Au (Av Ay 3 [] O (Aw O (fun c=>?_) (fun c=>?_)))
 ·(try simp only[sd,se] at c);refine A2 (Au (BA (L2 (i:=0) O AZ fun b hb=>?_)));subst hb;refine Bu (fun k=>false) Dt (BQ Ay 6 [] O (BH O (fun _=>Cz Bf O O Ao AY) Aq ?_));obtain⟨y,hy⟩:=A7 (l:=ys) (i:=((xs.length:Int) - 1 - (i:Int):Int).toNat) Ao;refine CX (j:=0) O O O (fun H i hi=>Ei (i:=i) Ba O hi (Bc hy)) AB Aq (BQ Ay 2 [] O (BH O (fun _=>Cz Bf O O Ao AY) Aq ?_));obtain⟨y1,hy1⟩:=A7 (l:=ys) (i:=i) Ao;refine CX (j:=0) O O O (fun H i hi=>Ei (i:=i) Ba O hi (Bc hy1)) AB Aq (BH O (fun _=>Cz Bf O O Ao AY) Aq (GP O O (EN (i:=0) (j:=i) Ba O O O AM O (KG _) (BD _) (E0 _) (Sv ys i y)) AB Aq (BH O (fun _=>Cz Bf O O Ao AY) Aq (GP O O (EN (i:=0) (j:=(((xs.length:Int) - 1 - (i:Int):Int).toNat)) Ba O O O AM O (KG _) (BD _) (E0 _) (Sv ((ys).set i y) (((xs.length:Int) - 1 - (i:Int):Int).toNat) y1)) AB Aq (JN O Ak (A4 (As Ay 6 [] O ?_)))))));refine⟨⟨i+1,(ys.set i y).set (xs.length - 1 - i) y1,(some b),cp⟩,AU,⟨by omega,YN hR Ao hy1 (hjn▸hy),ho,hcp⟩,BY ⟨we (DO ys Ap),we rfl,we (pI Ao),trivial⟩ (leH (is:=[0]) rfl (wl (J5 (((ys).set i y).set (((xs.length:Int) - 1 - (i:Int):Int).toNat) y1) (by rw[hjn])) (C7)))⟩
 (try simp only[sd,se] at c);refine Bg ⟨O,_,_,O,(B4 (is:=[0]) O),?_⟩;refine⟨O,?_⟩;show ([.vec o 5 (BE ys) cp]:List BJ)=_;rw[XM hR Ao,ho,hcp]
theorem MF:∀(t:Tm),(Nd t)→(size t<Dd)→Ec Tryz.prog 72 [.agg ((BO t).map .p)] (.tup [.agg ((BO ((A9 t).1)).map .p),.p (.lst (BE ((A9 t).2)))]):=by
 intro t h1 h2;simp only[Dd] at h2;refine A6 Tryz.func72 O qN (n:=29) O O (Az (BG O (BP O) fun b1=>BG O (A8 Bz O) fun b2=>As Ay 1 [] O (Av Ay 1 [] O (Au (BA (BI (EG (t:=4) (sz:=5) O) ?_))))));refine Be (α:=Tm×List Tm×Option Nat×Nat) (fun(tt,ys,o,cp)=>⟨29,mk [(1,.ptr b1 0),(2,.ptr b2 0),(4,.vs o (BE ys).length cp)],[.vec o 5 (BE ys) cp,.box b2 [.p (I 0),.p (I 0),.p (.str ⟨#[]⟩),.p (.nils),.p (.nils)],.box b1 ((BO tt).map .p)],[]⟩) (fun(tt,ys,o,cp)=>size tt) (fun(tt,ys,o,cp)=>A9 t=((A9 tt).1,(A9 tt).2++ys.reverse)∧Nd tt∧size tt+ys.length≤size t) ⟨t,[],none,0⟩ (⟨by simp,h1,by simp⟩) ?_ ?_
 ·exact BY ⟨we O,we O,we O,Aq⟩ (leH (is:=[0,1,2]) O (wl (oe O) (wl (oe O) (wl (oe O) (C7)))))
 rintro⟨tt,ys,o,cp⟩ hC
 try simp only at hC
 obtain⟨hS,hN,hL⟩:=hC;refine Au (Au ?_);obtain⟨ttk,tti,ttn,ttl,tts⟩:=tt;simp only[size] at hL;refine BR [1,2,4] 13 (fun y=>y= .p (.bool (((ttk:Int)==(4:Int))&&(((tts.length:Nat):Int)==(2:Int))))) ?_ ?_
 ·refine A4 (Ax Ay 4 [2] O (BL 8 O (fun g=>?_) (fun g=>?_)))
  ·(try simp only[sd,se] at g);exact Ax Ay 2 [2] O (BC O (BM Bf O (BS _)) (As Ay 2 [] O (⟨O,O,AK,AI,⟨O,O,O,Aq⟩⟩)))
  (try simp only[sd,se] at g);exact As Ay 5 [] O (⟨O,O,AK,AI,⟨O,O,O,Aq⟩⟩)
 rintro _ rfl;refine Aw O (fun c=>?_) (fun c=>?_)
 ·(try simp only[sd,se] at c);refine A2 (BA (Az (Ax Ay 3 [2] O ?_)));obtain⟨x,hx⟩:=A7 (l:=tts) (i:=1) Ao;refine Ar O (A5 Bf O O Ao (Bc hx) (BD _)) (Ar O (BN Ba O (BD _)) ?_);obtain⟨xk,xi,xn,xl,xs⟩:=x;refine Ar O (Bo Bf Bz O O O O O) (FF O O (CQ (i:=0) (rows':=BE [(.mk xk xi xn xl xs:Tm)]) Bf Bf Bz O O O O O O (Bw _) AD (Jl ys [(.mk xk xi xn xl xs:Tm)])) fun o1 cp1=>As Ay 1 [] O (A4 (Ax Ay 2 [2] O ?_)));obtain⟨x1,hx1⟩:=A7 (l:=tts) (i:=0) Ao;refine Ar O (A5 Bf O O Ao (Bc hx1) (BD _)) (As Ay 2 [2,1] O ?_);refine⟨⟨x1,ys++[.mk xk xi xn xl xs],o1,cp1⟩,(by have:=Ce hx1;simp only[size];omega),⟨by rw[hS,TF c hx1 hx];simp,DW hN.2.2.2.2.1 hx1,by have:=Ce hx1;simp;omega⟩,BY ⟨we rfl,we rfl,we rfl,trivial⟩ (leH (is:=[0,1,2]) rfl (wl (oe rfl) (wl (oe rfl) (wl (oe rfl) (C7)))))⟩
 (try simp only[sd,se] at c);refine Bg (Az (Bt O (Ar O (B8 [0] O (.inl ⟨O,O,O⟩) (dZ ys o cp Aa) ⟨_,_,O,O,O⟩ An O (.inl O)) (Bj O (Av Ay 4 [2,1,0] O (BI (C9 (t:=4) (x:= .vs o (BE ys.reverse).length cp) (DO ys (l':=ys.reverse) Ap)) (BI (C9 (t:=25) (x:= .vs o (BE ys.reverse).length cp) (DO ys (l':=ys.reverse) Ap)) (BI (C9 (t:=28) (x:= .vs o (BE ys.reverse).length cp) (DO ys (l':=ys.reverse) Ap)) (BI (C9 (t:=3) (x:= .vs o (BE ys.reverse).length cp) (DO ys (l':=ys.reverse) Ap)) (BI (Cj (i:=0) [4,25,28,3] O (D6 ⟨O,O,O,O,Aq⟩)) (A1 (⟨O,_,_,⟨_,_,O,(BB (i:=0) Ba O O O),⟨_,_,O,O,O⟩⟩,(List.nil_sublist _),?_⟩))))))))))));rw[hS,RH (Classical.or_iff_not_imp_left.2 fun h=>by simp at h;exact fun e=>absurd (c h) (by simp[e]))]
 all_goals exact⟨rfl,rfl⟩
theorem QS:∀(e:Int),Bq Tryz.prog 174 [.p (I e)] [] (U5 (.p (.iface 223 (I e))) []):=by
 intro e;exact A6 Tryz.func174 O pd (n:=4) O O (A4 (Bt O (Ar O (SQ ju (by intro ms h;cases h) O) (Nt O O (MZ O) (⟨O,_,List.nil_sublist _,⟨O,O⟩⟩)))))
theorem TT:∀(e:Int),Ec Tryz.prog 154 [.p (.iface 223 (I e))] (.p (I e)):=by
 intro e;refine A6 Tryz.func154 O nj (n:=14) O O (Av Ay 1 [] O (Az (Bt O (Ar O (Rm ju O O) (As Ay 5 [] O (Au (Av Ay 2 [] O ?_)))))));refine Aw O (fun c=>by cases c) (fun c=>?_);refine A2 (Av Ay 2 [] O (A1 (⟨O,_,_,⟨_,_,O,O,O⟩,(List.nil_sublist _),?_⟩)))
 all_goals exact⟨rfl,rfl⟩
theorem dE:∀(k i:Int),Ec Tryz.prog 175 [.p (I k),.p (I i)] (.p (I (below k i))):=by
 intro k i;refine A6 Tryz.func175 O m7 (n:=26) O O (Av Ay 1 [] O (Au (BA (Au (Au (BR [0,1] 5 (fun y=>y= .p (.bool (((i:Int)==(1:Int))&&((((k:Int)==(5:Int))||((k:Int)==(6:Int)))||((k:Int)==(7:Int)))))) ?_ ?_))))))
 ·refine A4 (Ax Ay 3 [] O (BL 8 O (fun g=>?_) (fun g=>?_)))
  ·(try simp only[sd,se] at g);refine Ax Ay 3 [] O (BL 11 O (fun g1=>?_) (fun g1=>?_))
   ·(try simp only[sd,se] at g1);exact As Ay 9 [] O (⟨O,O,AK,AI,⟨O,O,Aq⟩⟩)
   (try simp only[sd,se] at g1);refine Ax Ay 4 [] O (BL 15 O (fun g2=>?_) (fun g2=>?_))
   ·(try simp only[sd,se] at g2);exact As Ay 5 [] O (⟨O,O,AK,AI,⟨O,O,Aq⟩⟩)
   (try simp only[sd,se] at g2);exact As Ay 5 [] O (⟨O,O,AK,AI,⟨O,O,Aq⟩⟩)
  (try simp only[sd,se] at g);exact As Ay 12 [] O (⟨O,O,AK,AI,⟨O,O,Aq⟩⟩)
 rintro _ rfl;refine Aw O (fun c=>?_) (fun c=>?_)
 ·(try simp only[sd,se] at c);refine A2 (Aw O (fun c1=>?_) (fun c1=>?_))
  ·(try simp only[sd,se] at c1);refine Av Ay 1 [] O (A1 (⟨O,_,_,⟨_,_,O,O,O⟩,(List.nil_sublist _),?_⟩))
   all_goals exact⟨pI (by unfold below;simp_all),rfl⟩
  (try simp only[sd,se] at c1);refine A2 (Av Ay 1 [] O (A1 (⟨O,_,_,⟨_,_,O,O,O⟩,(List.nil_sublist _),?_⟩)))
  all_goals exact⟨pI (by unfold below;simp_all),rfl⟩
 (try simp only[sd,se] at c);refine BR [] 5 (fun y=>y= .p (.bool (((i:Int)==(2:Int))&&((k:Int)==(11:Int))))) ?_ ?_
 ·refine A4 (Ax Ay 3 [] O (BL 22 O (fun g=>?_) (fun g=>?_)))
  ·(try simp only[sd,se] at g);exact As Ay 4 [] O ⟨O,O,AK,AI,Aq⟩
  (try simp only[sd,se] at g);exact As Ay 4 [] O ⟨O,O,AK,AI,Aq⟩
 rintro _ rfl;refine Aw O (fun c1=>?_) (fun c1=>?_)
 ·(try simp only[sd,se] at c1);refine Av Ay 1 [] O (A1 (⟨O,_,_,⟨_,_,O,O,O⟩,(List.nil_sublist _),?_⟩))
  all_goals exact⟨pI (by unfold below;simp_all),rfl⟩
 (try simp only[sd,se] at c1);refine A2 (Av Ay 1 [] O (A1 (⟨O,_,_,⟨_,_,O,O,O⟩,(List.nil_sublist _),?_⟩)))
 all_goals exact⟨pI (by unfold below;simp_all),rfl⟩
theorem WH:∀(i:Int),Bq Tryz.prog 163 [.p (I i)] [] (Ky (fun(r:Tm)=>TV r) (fun e=> .p (.iface 223 (I e))) (fun r H'=>H'=[]) (Io i)):=by
 intro i;refine A6 Tryz.func163 O pt (n:=8) O O (Az (BG O (A8 Bz O) fun b2=>Bj O (Au (Av Ay 2 [] O (Aw O (fun c=>?_) (fun c=>?_))))))
 ·(try simp only[sd,se] at c);refine A4 (OQ O O O (.inl ⟨O,O,O⟩) (QS 24) (aw (we O) (Et)) ?_);exact⟨O,_,List.nil_sublist _,⟨_,by unfold Io;rw[if_pos Ao],rfl⟩⟩
 (try simp only[sd,se] at c);refine A2 (Av Ay 3 [0,0] O (BI (BT (i:=0) O) (A1 (⟨O,_,_,⟨_,_,O,(BB (i:=0) Ba O O O),O⟩,(List.nil_sublist _),?_⟩))));exact⟨(.mk 0 i ⟨#[]⟩ [] []:Tm),by unfold Io;rw[if_neg Ao];rfl,rfl,rfl⟩
theorem cm:∀(bc:Nat) (n m:Int),Bq Tryz.prog 157 [.ptr bc 0,.p (I m)] [.box bc [.p (I n)]] (Ky (fun(r:Int)=> .tup []) (fun e=> .p (.iface 223 (I e))) (fun r H'=>H'=[.box bc [.p (I r)]]) (Vi n m)):=by
 intro bc n m;refine A6 Tryz.func157 O pM (n:=18) O O (Az (Ax Ay 5 [0] O (Ar O (ED O O) (As Ay 3 [0,0] O (Av Ay 5 [0] O (Aw O (fun c=>?_) (fun c=>?_)))))))
 ·(try simp only[sd,se] at c);refine A4 (OQ O O O (.inl ⟨O,O,O⟩) (QS 5) (aw (we O) (Et)) ?_);exact⟨O,_,List.nil_sublist _,⟨_,by unfold Vi;rw[if_pos Ao],rfl⟩⟩
 (try simp only[sd,se] at c);refine A2 ⟨O,_,_,O,(B4 (is:=[0]) O),?_⟩;exact⟨(wr (n+m)),by unfold Vi;rw[if_neg Ao],rfl,rfl⟩
theorem _root_.Go.AJ {α:Prop}(h:α:=by simp only[List.length_map,List.length_take,List.length_cons,List.length_nil];omega):α:=h
theorem R3:∀(t:Tm),(Nd t)→Ec Tryz.prog 162 [.agg ((BO t).map .p)] (.agg ((BO (Pc t)).map .p)):=by
 intro t h1;obtain⟨tk,ti,tn,tl,ts⟩:=t;simp only[Nd,Dd] at h1;refine A6 Tryz.func162 O j7 (n:=33) O O (Az (BG O (BP O) fun b1=>BG O (A8 Bz O) fun b2=>Bj O (Az (Ax Ay 7 [1,1,1] O (BG O (A8 Bz O) fun b3=>As Ay 1 [0,0] O (Au (Az (B3 (H5 (i:=0) O (XY (aw (we O) (aw (we O) (aw (we O) (aw (I4) (aw (we O) (Et)))))))) (B3 (Hu (sz:=2)) (Ax Ay 2 [3] O (Ar O (BM EZ O (List.length_map _)) (As Ay 1 [] O (BA ?_)))))))))))));refine Be (α:=Nat×Option Nat×Nat) (fun(i,o,cp)=>⟨33,mk [(2,.ptr b2 0),(3,.ptr b3 0),(14,.p (.lst (List.map B0 tl))),(15,.p (I (tl.length:Nat))),(16,.p (I (i:Int)))],[.vec o 2 (List.map B0 (tl.take i)) cp,.box b3 [.p (I tk),.p (I ti),.p (.str tn),.vs o (List.map B0 (tl.take i)).length cp,.p (.nils)],.box b2 [.p (I 0),.p (I 0),.p (.str ⟨#[]⟩),.p (.nils),.p (.nils)]],[]⟩) (fun(i,o,cp)=>tl.length - i) (fun(i,o,cp)=>i≤tl.length) ⟨0,none,0⟩ AQ ?_ ?_
 ·exact BY ⟨we O,we O,we O,we O,we O,Aq⟩ (leH (is:=[0,1,2]) O (wl (oe O) (wl (oe O) (wl (oe O) (C7)))))
 rintro⟨i,o,cp⟩ hC
 try simp only at hC
 have hi:=hC;refine Av Ay 1 [] O (Au (Aw O (fun c=>?_) (fun c=>?_)))
 ·(try simp only[sd,se] at c);refine A2 (Au (BA (Az ?_)));obtain⟨x,hx⟩:=A7 (l:=tl) (i:=i) Ao;refine Ar O (A5 EZ O O Ao (Fz hx) (Dm _)) (Ar O (BN Dc O (Dm _)) (BG O (A8 ER O) fun b5=>As Ay 1 [0,0] O (Bu (fun k=>Nat.beq k 9) Dt (BQ Ay 6 [2,0,0] O (BH O (fun _=>Lc (rows':=List.map D1 x.vars) CW CW Fy O O (fun _ _ _ h=>T9 h) O (GK _) (by have:=h1.2.2.1 x (List.mem_of_getElem? hx);have:=this.1;simp only[Dd] at this;simp only[List.length_map];omega)) Aq (BH O (fun _=>CO Tz ER O) Aq (BH O (fun _=>Bo EZ ER O O O O O) Aq (LC [] O O (CQ (i:=1) (rows':=List.map B0 [(CZ.mk x.const x.vars)]) EZ EZ ER O O O O O O (MQ _) AJ (GJ (f:=B0) (tl.take i) [(CZ.mk x.const x.vars)])) Ak fun o1 cp1=>⟨AB,Aq,?_⟩))))))));refine Bn Ay 2 [2,0] O (A4 (As Ay 2 [] O ?_));refine⟨⟨i+1,o1,cp1⟩,AU,by omega,BY ⟨we rfl,we rfl,we rfl,we rfl,we rfl,trivial⟩ (leH (is:=[1,2,3]) rfl (wl (Fk (f:=B0) (tl.take i++[(CZ.mk x.const x.vars)]) (by rw[List.take_add_one,hx];rfl)) (wl (XY (aw (we rfl) (aw (we rfl) (aw (we rfl) (aw (we (Gb (f:=B0) (tl.take i++[(CZ.mk x.const x.vars)]) (by rw[List.take_add_one,hx];rfl))) (aw (we rfl) (Et))))))) (wl (oe rfl) (C7)))))⟩
 (try simp only[sd,se] at c);refine Bg (Az (B3 (DQ (i:=0) (j:=1) (q:=3) [] O O O (D6 Aq)) (As Ay 2 [0,1,0] O (BI (BT (i:=1) O) (A1 (⟨O,_,_,⟨_,_,O,(BB (i:=1) Ba O O O),O⟩,(List.nil_sublist _),?_⟩))))))
 all_goals exact⟨by show (.agg [.p (I tk),.p (I ti),.p (.str tn),.p (.lst (List.map B0 (tl.take i))),.p (.lst [])]:AV)=_;rw[show i=tl.length by omega,List.take_length];rfl,rfl⟩
theorem Nv:∀{σ:Type}(vis:σ→Tm→Int→Except Int ((Tm×Bool)×σ)) (HP:σ→List BJ→Prop) (fid:Nat) (caps:List AV) (hv:∀(s:σ) (t:Tm) (d:Int) (T:List BJ),Nd t→Vp t→0≤d→d<Dd→HP s T→Bq Tryz.prog fid ([TV t,.p (I d)]++caps) T (Ky (fun(r:(Tm×Bool)×σ)=> .tup [TV r.1.1,.p (.bool r.1.2)]) (fun e=> .p (.iface 223 (I e))) (fun r=>HP r.2) (vis s t d))) (n:Nat) (t:Tm) (d:Int) (s:σ) (T0:List BJ),size t≤n→Nd t→Vp t→0≤d→d+size t<Dd→HP s T0→Bq Tryz.prog 158 [.agg [.fn (.func fid) [] caps],TV t,.p (I d)] T0 (Ky (fun(r:Tm×σ)=>TV r.1) (fun e=> .p (.iface 223 (I e))) (fun r=>HP r.2) (D5 vis t d s)):=by
 intro σ vis HP fid caps hv n
 induction n with
 | zero=>intro t d s T0 h1;exact absurd h1 (by have:=size_pos t;omega)
 | succ n ih =>
  intro t d s T0 h1 h2 h3 h4 h5 h6;simp only[Dd] at h5;refine A6 Tryz.func158 O pL (n:=54) O O (Az (BG O (BP O) fun b3=>BG O (BP O) fun b4=>BG O (A8 Bz O) fun b6=>Bj O (Az (Ax Ay 4 [2,1] O (jt [_,_,_] O O O (.inr O) (hv s t d T0 h2 h3 h4 (by simp only[Dd];have:=size_pos t;omega) h6) (DZ _) ?_ ?_)))))
  rotate_left
  ·intro e _ he;exact⟨O,_,List.nil_sublist _,⟨_,H4 he,O⟩⟩
  rintro⟨⟨z,dn⟩,q⟩ T hz hT;refine Ax Ay 3 [] O (BG O (A8 Bz O) fun b7=>As Ay 2 [0,1] O (Au (Av Ay 1 [] O (Aw O (fun c=>?_) (fun c=>?_)))))
  ·(try simp only[sd,se] at c);refine Av Ay 2 [0,1,1] O (A1 (⟨O,_,_,⟨_,_,O,(BB (i:=1) Ba O O Ah),O⟩,(Gx [] [_,_,_,_] O),?_⟩));exact⟨⟨z,q⟩,GH (by rw[hz,c]),O,hT⟩
  (try simp only[sd,se] at c);refine A2 (Az (Ar O (A0 G8 O O) ?_));obtain⟨zk,zi,zn,zl,zs⟩:=z;refine As Ay 1 [0,0] O (Au (Az (Ar O (A0 G8 O O) ?_)));obtain⟨tk,ti,tn,tl,ts⟩:=t;simp only[size] at h1 h5;have hn2:=h2;simp only[Nd,Dd] at hn2;refine Ar O (B7 (i:=2) Gk O O O) (Ar O (BM Bf O (BS _)) (As Ay 1 [] O (Aw O (fun c1=>?_) (fun c1=>?_))))
  ·(try simp only[sd,se] at c1);refine Az (Ax Ay 2 [2] O (Ar O (BM Bf O (BS _)) (RL O O (Lp Bf Bz O O An O O O Ao Ao Ao (oO (((ts.length:Nat):Int).toNat) (.mk 0 0 ⟨#[]⟩ [] []:Tm))) fun b29 cp=>As Ay 2 [1,0] O (Az (Ax Ay 2 [3] O (Ar O (BM Bf O (BS _)) (As Ay 1 [] O (BA ?_))))))));refine Be (α:=Nat×List Tm×σ×List BJ×Option Nat×Nat) (fun(i,ys,q1,U,o,cp1)=>⟨54,mk [(2,.p (I d)),(3,.ptr b3 0),(4,.ptr b4 0),(6,.ptr b6 0),(7,.ptr b7 0),(32,.p (.lst (BE ts))),(33,.p (I (ts.length:Nat))),(34,.p (I (i:Int)))],(.vec o 5 (BE (ys++List.replicate (ts.length - i) Bi)) cp1:: .box b7 [.p (I zk),.p (I zi),.p (.str zn),.p (.lst (List.map B0 zl)),.vs o (BE (ys++List.replicate (ts.length - i) Bi)).length cp1]:: .box b6 [.p (I 0),.p (I 0),.p (.str ⟨#[]⟩),.p (.nils),.p (.nils)]:: .box b4 [.p (I tk),.p (I ti),.p (.str tn),.p (.lst (List.map B0 tl)),.p (.lst (BE ts))]:: .box b3 [.fn (.func fid) [] caps]::U),[]⟩) (fun(i,ys,q1,U,o,cp1)=>ts.length - i) (fun(i,ys,q1,U,o,cp1)=>i≤ts.length∧(Qo vis tk ts d q i ys q1∧HP q1 U)) ⟨0,[],q,T,(some b29),cp⟩ (⟨by omega,Qo.zero _ _ _ _,hT⟩) ?_ ?_
   ·exact BY ⟨we O,we O,we O,we O,we O,we O,we O,we O,Aq⟩ (YS [0,1,2,3,4] [_,_,_,_,_] (l':=[_,_,_,_,_]) O (wl (oe O) (wl (oe O) (wl (oe O) (wl (oe O) (wl (oe O) (C7)))))))
   rintro⟨i,ys,q1,U,o,cp1⟩ hC
   try simp only at hC
   obtain⟨hi,hB,hU⟩:=hC;have hbl:=C5 tk i;refine Av Ay 1 [] O (Au (Aw O (fun c2=>?_) (fun c2=>?_)))
   ·(try simp only[sd,se] at c2);refine A2 (Au (BA (Az (Bt O ?_))));obtain⟨x,hx⟩:=A7 (l:=ts) (i:=i) Ao;refine Ar O (A5 Bf O O Ao (Bc hx) (BD _)) (Ar O (BN Ba O (BD _)) (BG O (A8 Bz O) fun b10=>As Ay 2 [0,1] O (L2 (i:=1) O AZ fun b hb=>?_)));subst hb;refine Bu (fun k=>Nat.beq k 11) Dt (BQ Ay 9 [2,5,0,4] O (BH O (fun _=>BF O O (dE tk (i:Int)) O) Aq (BQ Ay 1 [] O (nQ [_,_,_,_,_,_] O O O (.inl ⟨O,O,O⟩) (ih x (d+below tk i) q1 U (by have:=Ce hx;omega) (DW h2.2.2.2.2.1 hx) (MN h3.2 hx) (by have:=(C5 tk i).1;omega) (by have:=Ce hx;have:=C5 tk i;simp only[Dd];omega) hU) (DZ _) Ak Ak O AB ?_ ?_))))
    rotate_left
    ·intro e he _ _ hτ;exact⟨O,_,List.nil_sublist _,⟨_,Jn (by rw[hz,c]) (hB.err hx he),O⟩⟩
    rintro⟨y,q2⟩ T1 hz1 hT1;refine⟨AB,Aq,?_⟩;refine BH O (fun _=>Cz Bf O O Ao (by simp only[BS,List.length_append,List.length_replicate,hB.1];omega)) Aq (GP O O (EN (i:=1) (j:=i) Ba O O O (by simp only[BS,List.length_append,List.length_replicate,hB.1];omega) O (KG _) (BD _) (E0 _) (Sv (ys++List.replicate (ts.length - i) Bi) i y)) AB Aq (JN O Ak (A4 (As Ay 2 [] O ?_))));refine⟨⟨i+1,ys++[y],q2,T1,(some b),cp1⟩,AU,⟨by omega,⟨hB.succ hx hz1,hT1⟩⟩,BY ⟨we rfl,we rfl,we rfl,we rfl,we rfl,we rfl,we rfl,we rfl,trivial⟩ (YS [1,2,3,4,5] [_,_,_,_,_,_] (l':=[_,_,_,_,_]) rfl (wl (J5 ((ys++List.replicate (ts.length - i) Bi).set i y) (by rw[dY hB.1 Ao];congr 2)) (wl (XY (aw (we rfl) (aw (we rfl) (aw (we rfl) (aw (we rfl) (aw (we (DO (ys++List.replicate (ts.length - i) Bi) Aj)) (Et))))))) (wl (oe rfl) (wl (oe rfl) (wl (oe rfl) (C7)))))))⟩
   (try simp only[sd,se] at c2);refine Bg (Az (B3 (DQ (i:=0) (j:=1) (q:=4) [] O O O (D6 Aq)) (As Ay 2 [0,1,0] O (A1 (⟨O,_,_,⟨_,_,O,(BB (i:=1) Ba O O O),O⟩,(Gx [] [_,_,_,_] O),?_⟩)))));rw[show ts.length - i=0 by omega,List.replicate_zero,List.append_nil];exact⟨⟨.mk zk zi zn zl ys,q1⟩,IT (by rw[hz,c]) (hB.fin Ao),O,hU⟩
  (try simp only[sd,se] at c1);refine A2 (Av Ay 2 [0,1,0] O (BI (BT (i:=1) O) (A1 (⟨O,_,_,⟨_,_,O,(BB (i:=1) Ba O O O),O⟩,(Gx [] [_,_,_,_] O),?_⟩))));exact⟨⟨.mk zk zi zn zl [],q⟩,IT (o:= .mk zk zi zn zl zs) (q:=q) (ys:=[]) (by rw[hz,c]) (by rw[show ts=[] by (cases ts with | nil=>rfl | cons a b=>simp at c1;omega)];rfl),O,hT⟩
theorem dR:∀(t:Tm),(Nd t)→Bq Tryz.prog 162 [.agg ((BO t).map .p)] [] (iT (fun p:Option Nat×Nat=> .agg [.p (I t.kind),.p (I t.index),.p (.str t.name),.vs p.1 (List.map B0 t.levels).length p.2,.p (.lst [])]) (fun p=>[.vec p.1 2 (List.map B0 t.levels) p.2])):=by
 intro t h1;obtain⟨tk,ti,tn,tl,ts⟩:=t;simp only[Nd,Dd] at h1;refine A6 Tryz.func162 O j7 (n:=33) O O (Az (BG O (BP O) fun b1=>BG O (A8 Bz O) fun b2=>Bj O (Az (Ax Ay 7 [1,1,1] O (BG O (A8 Bz O) fun b3=>As Ay 1 [0,0] O (Au (Az (B3 (H5 (i:=0) O (XY (aw (we O) (aw (we O) (aw (we O) (aw (I4) (aw (we O) (Et)))))))) (B3 (Hu (sz:=2)) (Ax Ay 2 [3] O (Ar O (BM EZ O (List.length_map _)) (As Ay 1 [] O (BA ?_)))))))))))));refine Be (α:=Nat×Option Nat×Nat) (fun(i,o,cp)=>⟨33,mk [(2,.ptr b2 0),(3,.ptr b3 0),(14,.p (.lst (List.map B0 tl))),(15,.p (I (tl.length:Nat))),(16,.p (I (i:Int)))],[.vec o 2 (List.map B0 (tl.take i)) cp,.box b3 [.p (I tk),.p (I ti),.p (.str tn),.vs o (List.map B0 (tl.take i)).length cp,.p (.nils)],.box b2 [.p (I 0),.p (I 0),.p (.str ⟨#[]⟩),.p (.nils),.p (.nils)]],[]⟩) (fun(i,o,cp)=>tl.length - i) (fun(i,o,cp)=>i≤tl.length) ⟨0,none,0⟩ AQ ?_ ?_
 ·exact BY ⟨we O,we O,we O,we O,we O,Aq⟩ (leH (is:=[0,1,2]) O (wl (oe O) (wl (oe O) (wl (oe O) (C7)))))
 rintro⟨i,o,cp⟩ hC
 try simp only at hC
 have hi:=hC;refine Av Ay 1 [] O (Au (Aw O (fun c=>?_) (fun c=>?_)))
 ·(try simp only[sd,se] at c);refine A2 (Au (BA (Az ?_)));obtain⟨x,hx⟩:=A7 (l:=tl) (i:=i) Ao;refine Ar O (A5 EZ O O Ao (Fz hx) (Dm _)) (Ar O (BN Dc O (Dm _)) (BG O (A8 ER O) fun b5=>As Ay 1 [0,0] O (Bu (fun k=>Nat.beq k 9) Dt (BQ Ay 6 [2,0,0] O (BH O (fun _=>Lc (rows':=List.map D1 x.vars) CW CW Fy O O (fun _ _ _ h=>T9 h) O (GK _) (by have:=h1.2.2.1 x (List.mem_of_getElem? hx);have:=this.1;simp only[Dd] at this;simp only[List.length_map];omega)) Aq (BH O (fun _=>CO Tz ER O) Aq (BH O (fun _=>Bo EZ ER O O O O O) Aq (LC [] O O (CQ (i:=1) (rows':=List.map B0 [(CZ.mk x.const x.vars)]) EZ EZ ER O O O O O O (MQ _) AJ (GJ (f:=B0) (tl.take i) [(CZ.mk x.const x.vars)])) Ak fun o1 cp1=>⟨AB,Aq,?_⟩))))))));refine Bn Ay 2 [2,0] O (A4 (As Ay 2 [] O ?_));refine⟨⟨i+1,o1,cp1⟩,AU,by omega,BY ⟨we rfl,we rfl,we rfl,we rfl,we rfl,trivial⟩ (leH (is:=[1,2,3]) rfl (wl (Fk (f:=B0) (tl.take i++[(CZ.mk x.const x.vars)]) (by rw[List.take_add_one,hx];rfl)) (wl (XY (aw (we rfl) (aw (we rfl) (aw (we rfl) (aw (we (Gb (f:=B0) (tl.take i++[(CZ.mk x.const x.vars)]) (by rw[List.take_add_one,hx];rfl))) (aw (we rfl) (Et))))))) (wl (oe rfl) (C7)))))⟩
 (try simp only[sd,se] at c);refine Bg (Av Ay 2 [1,2,0] O (BI (BT (i:=2) O) (A1 (⟨O,_,_,⟨_,_,O,(BB (i:=2) Ba O O O),O⟩,(B4 (is:=[0]) O),?_⟩))));have htk:tl.take i=tl:=List.take_of_length_le Ao;exact⟨(o,cp),by rw[htk];simp[Tm.kind,Tm.index,Tm.name,Tm.levels,splice,dn],by rw[htk];rfl⟩
theorem bq:∀(tk ti:Int) (tn:ByteArray) (tl:List CZ) (ts:List Tm),Nd (.mk tk ti tn tl ts)→Bq Tryz.prog 162 [TV (.mk tk ti tn tl ts)] [] (iT (fun p:Option Nat×Nat=> .agg [.p (I tk),.p (I ti),.p (.str tn),.vs p.1 (List.map B0 tl).length p.2,.p (.lst [])]) (fun p=>[.vec p.1 2 (List.map B0 tl) p.2])):=fun tk ti tn tl ts h=>dR _ h
theorem kR:∀(l:CZ) (ps:List CZ),(M4 l)→(ps.length<Dd)→(∀p∈ps,M4 p)→Ec Tryz.prog 165 [.agg ((B0 l).map .p),.ref [.lst (List.map B0 ps)]] (.tup [.agg ((B0 ((Cv l ps).1)).map .p),.p (I ((Cv l ps).2))]):=by
 intro l ps h1 h2 h3;refine A6 Tryz.func165 O pv (n:=10) O O (Az (BG O (BP O) fun b2=>BG O (A8 ER O) fun b3=>As Ay 1 [] O (Az (Ax Ay 2 [1] O (Ar O (BF O O (Zi l ps h1 h2 h3) O) (As Ay 4 [0,1] O (A1 (⟨O,_,_,⟨_,_,O,(BB (i:=0) Dc O O Ag),⟨_,_,O,O,O⟩⟩,(List.nil_sublist _),?_⟩))))))))
 all_goals exact⟨by show (.tup [.agg ((B0 ((Ik l ps).1)).map .p),.p (I ((Ik l ps).2))]:AV)=_;rw[Zs],rfl⟩
theorem kY:∀(bR:Nat) (ps:List CZ) (s:Unit) (t:Tm) (d:Int),(Nd t)→(ps.length<Dd)→(∀p∈ps,M4 p)→Bq Tryz.prog 179 [.agg ((BO t).map .p),.p (I d),.ptr bR 0] [.box bR [.fn (.func 165) [] [.ref [.lst (List.map B0 ps)]]]] (Ky (fun(r:(Tm×Bool)×Unit)=> .tup [TV r.1.1,.p (.bool r.1.2)]) (fun e=> .p (.iface 223 (I e))) (fun r H'=>H'=[.box bR [.fn (.func 165) [] [.ref [.lst (List.map B0 ps)]]]]) (UE ps s t d)):=by
 intro bR ps s t d h1 h2 h3;obtain⟨tk,ti,tn,tl,ts⟩:=t;have hn:=h1;simp only[Nd,Dd] at hn;refine A6 Tryz.func179 O mA (n:=39) O O (Az (BG O (BP O) fun b3=>BG O (A8 Bz O) fun b5=>As Ay 1 [] O (Az (Ar O (BU (i:=1) Ba O O O) (Yp O O O (.inl ⟨O,O,O⟩) (bq tk ti tn tl ts h1) (DZ _) fun vv=>?_)))));obtain⟨ov,cv⟩:=vv;refine BG O (A8 Bz O) fun b7=>As Ay 1 [0,0] O (Au (Az (Ax Ay 2 [3] O (Ar O (BM EZ O (List.length_map _)) (As Ay 1 [] O (BA ?_))))));refine Be (α:=Nat×List CZ×Option Nat×Nat) (fun(i,ys,o,cp)=>⟨39,mk [(2,.ptr bR 0),(5,.ptr b5 0),(7,.ptr b7 0),(15,.p (.lst (List.map B0 tl))),(16,.p (I (tl.length:Nat))),(17,.p (I (i:Int)))],[.box b7 [.p (I tk),.p (I ti),.p (.str tn),.vs o (List.map B0 (ys++tl.drop i)).length cp,.p (.lst (BE []))],.vec o 2 (List.map B0 (ys++tl.drop i)) cp,.box b5 [.p (I 0),.p (I 0),.p (.str ⟨#[]⟩),.p (.nils),.p (.nils)],.box bR [.fn (.func 165) [] [.ref [.lst (List.map B0 ps)]]]],[]⟩) (fun(i,ys,o,cp)=>tl.length - i) (fun(i,ys,o,cp)=>i≤tl.length∧(ys.length=i∧It ps tl=OJ ys (It ps (tl.drop i)))) ⟨0,[],ov,cv⟩ (⟨by omega,rfl,Zv _⟩) ?_ ?_
 ·exact BY ⟨we O,we O,we O,we O,we O,we O,Aq⟩ (leH (is:=[0,1,2,4]) O (wl (oe O) (wl (oe O) (wl (oe O) (wl (oe O) (C7))))))
 rintro⟨i,ys,o,cp⟩ hC
 try simp only at hC
 obtain⟨hi,hl,hC⟩:=hC;refine Av Ay 1 [] O (Au (Aw O (fun c=>?_) (fun c=>?_)))
 ·(try simp only[sd,se] at c);refine A2 (Au (BA (Az (Bt O ?_))));obtain⟨x,hx⟩:=A7 (l:=tl) (i:=i) Ao;refine Ar O (A5 EZ O O Ao (Fz hx) (Dm _)) (Ar O (BN Dc O (Dm _)) (BG O (A8 ER O) fun b9=>As Ay 2 [0,1] O (Az (Ax Ay 2 [4,0] O (Ar O (gW O O (kR x ps (hn.2.2.1 _ (List.mem_of_getElem? hx)) h2 h3) (.inl O)) (Ax Ay 3 [] O (BG O (A8 ER O) fun b10=>As Ay 2 [0,1] O (Au (Av Ay 2 [] O (Aw O (fun c1=>?_) (fun c1=>?_)))))))))))
  ·(try simp only[sd,se] at c1);exact A4 (Bt O (OQ O O O (.inl ⟨O,O,O⟩) (QS ((Cv x ps).2)) (aw (we O) (Et)) (⟨O,_,List.nil_sublist _,⟨_,iV (hC.trans (lI hx Ao)),O⟩⟩)))
  (try simp only[sd,se] at c1);refine A2 (A4 (Ax Ay 4 [2,0] O (MX (i:=3) O AZ fun b hb=>?_)));subst hb;refine Ar O (Cz EZ O O Ao (by first | omega | (simp;omega))) (Ar O (EN (i:=3) (j:=i) Dc O O O (by first | omega | (simp;omega)) O (Zp _) (Dm _) (ic _) (df (f:=B0) (ys++tl.drop i) i ((Cv x ps).1))) (Bj O (A4 (As Ay 2 [] O (⟨⟨i+1,ys++[(Cv x ps).1],(some b),cp⟩,AU,⟨by omega,⟨by simp[hl],hC.trans (kI hx Ao)⟩⟩,BY ⟨we rfl,we rfl,we rfl,we rfl,we rfl,we rfl,trivial⟩ (leH (is:=[2,3,4,5]) rfl (wl (XY (aw (we rfl) (aw (we rfl) (aw (we rfl) (aw (we (Tw (f:=B0) (ys++tl.drop i) Aj)) (aw (we rfl) (Et))))))) (wl (Fk (f:=B0) ((ys++tl.drop i).set i ((Cv x ps).1)) (by rw[set_drop hl hx])) (wl (oe rfl) (wl (oe rfl) (C7))))))⟩)))))
 (try simp only[sd,se] at c);refine Bg (Az (B3 (DQ (i:=1) (j:=0) (q:=3) [] O O O (D6 Aq)) (As Ay 3 [0,1,0] O (A1 (⟨O,_,_,⟨_,_,O,(BB (i:=1) Ba O O O),⟨_,_,O,O,O⟩⟩,(B4 (is:=[2]) O),?_⟩)))));rw[List.drop_eq_nil_of_le Ao,List.append_nil];exact⟨⟨⟨.mk tk ti tn ys [],false⟩,()⟩,kU (lp hC Ao),O,O⟩
theorem jR:∀(bo be:Nat) (co ce:List AV),Eh Tryz.prog 178 [.ptr bo 0,.ptr be 0] (.ret) [.box bo co,.box be ce] (fun H'=>H'=[.box bo co,.box be ce]):=by
 intro bo be co ce;refine IE (ty2:=0) Tryz.func178 O jz (n:=9) O O O O O O (Az (Bt O (Ar O (HI bC O O O) (Bj O ?_))));refine Aw O (fun c=>by cases c) (fun c=>?_);exact A2 ⟨.inl O,O,_,(B4 (is:=[0,1]) O),O⟩
theorem gS:∀(bo be:Nat) (e:Int),Eh Tryz.prog 178 [.ptr bo 0,.ptr be 0] (.pan (.p (.iface 223 (I e)))) [.box bo [.p (I 0),.p (I 0),.p (.str ⟨#[]⟩),.p (.nils),.p (.nils)],.box be [.p (I 0)]] (fun H'=>H'=[.box bo [.p (I 0),.p (I 0),.p (.str ⟨#[]⟩),.p (.lst []),.p (.lst [])],.box be [.p (I e)]]):=by
 intro bo be e;refine IE (ty2:=0) Tryz.func178 O jz (n:=9) O O O O O O (Az (Bt O (Ar O (HI bC O O O) (B3 (BT (i:=0) O) (Bj O ?_)))));refine Aw O (fun c=>?_) (fun c=>by cases c);exact A4 (Ax Ay 2 [] O (Ar O (BF O O (TT _) O) (Ax Ay 2 [0,0,1,0] O (B3 (BT (i:=0) O) (Bj O ⟨.inl O,O,_,(B4 (is:=[0,1]) O),O⟩)))))
set_option maxHeartbeats 2000000 in
theorem X2:∀(t:Tm) (ps:List CZ),(Nd t)→(Vp t)→(size t<1099511627776)→(ps.length<Dd)→(∀p∈ps,M4 p)→Ec Tryz.prog 164 [.agg ((BO t).map .p),.fn (.func 165) [] [.ref [.lst (List.map B0 ps)]]] (.tup [.agg ((BO ((Bp t ps).1)).map .p),.p (I ((Bp t ps).2))]):=by
 intro t ps h1 h2 h3 h4 h5;refine FT Tryz.func164 O pS (n:=11) O O (Az (BG O (BP O) fun b2=>BG O (BP O) fun b3=>BG O (A8 Bz O) fun b4=>BG O (A8 dM O) fun b5=>Bj O (Az (Ar O (Ef O O) (OD O O O O (Bj O (Az (Ax Ay 3 [3] O ?_))))))));refine Dv [2] O O O (.inl ⟨O,O,O⟩) (Nv (UE ps) (fun _ T=>T=[.box b3 [.fn (.func 165) [] [.ref [.lst (List.map B0 ps)]]]]) 179 [.ptr b3 0] (fun s t d T hn hp h0 hb hT=>by subst hT;exact kY b3 ps s t d hn h4 h5) _ t 0 () _ (Nat.le_refl _) h1 h2 Ao Aa rfl) ⟨_,_,rfl,rfl,rfl⟩ An (DZ _) (fun _ _ h=>(congrArg List.length h).trans rfl) ?_ ?_
 rotate_left
 ·intro e _ he;refine⟨_,_,_,O,Mj (is:=[1,0]) _ An ⟨_,_,O,O,⟨_,_,O,O,O⟩⟩,Eh.eq (gS b4 b5 _) ?_⟩;refine⟨_,[],⟨_,_,O,(BB (i:=0) Ba O O O),⟨_,_,O,(Gp (i:=1) SN O O),O⟩⟩,(List.nil_sublist _),?_⟩;rw[Vk ((Ox t 0).symm.trans he)];exact⟨O,O⟩
 rintro⟨z,_⟩ _ hz rfl;refine As Ay 2 [1,1,0,0] O (A1 (⟨_,_,_,O,Da (is:=[1,0]) An ⟨_,_,O,O,⟨_,_,O,O,O⟩⟩,Eh.eq (jR b4 b5 _ _) ?_⟩));refine⟨_,_,⟨_,_,O,(BB (i:=0) Ba O O Ah),⟨_,_,O,(Gp (i:=1) SN O O),O⟩⟩,(List.nil_sublist _),?_⟩;rw[XW ((Ox t 0).symm.trans hz)]
 all_goals exact⟨rfl,rfl⟩
theorem Mg:∀(t:Tm) (ps:List CZ),(Nd t)→(Vp t)→(size t<1099511627776)→(ps.length<Dd)→(∀p∈ps,M4 p)→Ec Tryz.prog 138 [.agg ((BO t).map .p),.p (.lst (List.map B0 ps))] (.tup [.agg ((BO ((Bp t ps).1)).map .p),.p (I ((Bp t ps).2))]):=by
 intro t ps h1 h2 h3 h4 h5;refine A6 Tryz.func138 O oS (n:=11) O O (Az (BG O (BP O) fun b2=>BG O (BP O) fun b3=>BG O (A8 Bz O) fun b4=>As Ay 1 [] O (Az (B3 (PH (i:=1) (cs:=[.lst (List.map B0 ps)]) [3] O (D6 ⟨O,Aq⟩)) (Ax Ay 2 [1] O (Ar O (BF O O (X2 t ps h1 h2 h3 h4 h5) O) (As Ay 4 [0,1] O (A1 (⟨O,_,_,⟨_,_,O,(BB (i:=0) Ba O O Ah),⟨_,_,O,O,O⟩⟩,(List.nil_sublist _),?_⟩)))))))))
 all_goals exact⟨rfl,rfl⟩
theorem V0:∀(t:Tm),(Nd t)→(size t<1000000)→Ec Tryz.prog 115 [.agg ((BO t).map .p)] (.tup [.p (.lst (BE ((HA t).1))),.agg ((BO ((HA t).2)).map .p)]):=by
 intro t h1 h2;refine A6 Tryz.func115 O j3 (n:=27) O O (Az (BG O (BP O) fun b1=>VV O (BG O (A8 Bz O) fun b3=>Bj O (Av Ay 1 [] O (Au (BA (BI (EG (t:=4) (sz:=5) O) ?_)))))));refine Be (α:=Tm×List Tm×Option Nat×Nat) (fun(y,l,o,cp)=>⟨27,mk [(1,.ptr b1 0),(3,.ptr b3 0),(4,.vs o (BE l).length cp)],[.vec o 5 (BE l) cp,.box b3 [.p (I 0),.p (I 0),.p (.str ⟨#[]⟩),.p (.nils),.p (.nils)],.box b1 ((BO y).map .p)],[]⟩) (fun(y,l,o,cp)=>size y) (fun(y,l,o,cp)=>Nd y∧l.length+size y≤size t∧(l++(HA y).1,(HA y).2)=HA t) ⟨t,[],none,0⟩ (⟨h1,by simp,by simp⟩) ?_ ?_
 ·exact BY ⟨we O,we O,we O,Aq⟩ (leH (is:=[0,1,2]) O (wl (oe O) (wl (oe O) (wl (oe O) (C7)))))
 rintro⟨y,l,o,cp⟩ hC
 try simp only at hC
 have hl0:l.length<1000000:=by have:=hC.2.1;omega
 refine Au (Au ?_);obtain⟨yk,yi,yn,yl,ys⟩:=y;refine BR [1,3,4] 13 (fun y=>y= .p (.bool (((yk:Int)==(6:Int))&&(((ys.length:Nat):Int)==(2:Int))))) ?_ ?_
 ·refine A4 (Ax Ay 4 [2] O (BL 8 O (fun g=>?_) (fun g=>?_)))
  ·(try simp only[sd,se] at g);exact Ax Ay 2 [2] O (BC O (BM Bf O (BS _)) (As Ay 2 [] O (⟨O,O,AK,AI,⟨O,O,O,Aq⟩⟩)))
  (try simp only[sd,se] at g);exact As Ay 5 [] O (⟨O,O,AK,AI,⟨O,O,O,Aq⟩⟩)
 rintro _ rfl;refine Aw O (fun c=>?_) (fun c=>?_)
 ·(try simp only[sd,se] at c);refine A2 (BA (Az (Ax Ay 3 [2] O ?_)));obtain⟨x,hx⟩:=A7 (l:=ys) (i:=0) (by first | omega | (simp at c;omega));refine Ar O (A5 Bf O O Ao (Bc hx) (BD _)) (Ar O (BN Ba O (BD _)) ?_);obtain⟨xk,xi,xn,xl,xs⟩:=x;refine Ar O (Bo Bf Bz O O O O O) (FF O O (CQ (i:=0) (rows':=BE [(.mk xk xi xn xl xs:Tm)]) Bf Bf Bz O O O O O O (Bw _) AD (Jl l [(.mk xk xi xn xl xs:Tm)])) fun o1 cp1=>As Ay 1 [] O (A4 (Ax Ay 2 [2] O ?_)));obtain⟨x1,hx1⟩:=A7 (l:=ys) (i:=1) (by first | omega | (simp at c;omega));refine Ar O (A5 Bf O O Ao (Bc hx1) (BD _)) (As Ay 2 [2,1] O ?_);refine⟨⟨x1,l++[(.mk xk xi xn xl xs:Tm)],o1,cp1⟩,(by have:=Ce hx1;simp only[size];omega),⟨DW hC.1.2.2.2.2.1 hx1,by have:=Ce hx1;have:=hC.2.1;simp only[size] at *;simp only[List.length_append,List.length_cons,List.length_nil];omega,TG c hx hx1 hC.2.2⟩,BY ⟨we rfl,we rfl,we rfl,trivial⟩ (leH (is:=[0,1,2]) rfl (wl (oe rfl) (wl (oe rfl) (wl (oe rfl) (C7)))))⟩
 (try simp only[sd,se] at c);refine Bg (Au (Bu (fun k=>false) Dt (Bn Ay 4 [2,1,0] O (BI (Cj (i:=0) [4,25,2] O (D6 ⟨O,O,O,Aq⟩)) (A1 (⟨O,_,_,⟨_,_,O,O,⟨_,_,O,(BB (i:=0) Ba O O O),O⟩⟩,(List.nil_sublist _),?_⟩))))))
 all_goals exact⟨by show (.tup [.p (.lst (BE l)),.agg [.p (I yk),.p (I yi),.p (.str yn),.p (.lst (List.map B0 yl)),.p (.lst (BE ys))]]:AV)=_;rw[Vr Ao hC.2.2];rfl,rfl⟩
theorem Y9:∀(t:Tm),(Nd t)→(size t<1000000)→Ec Tryz.prog 117 [.agg ((BO t).map .p)] (.tup [.p (.lst (BE ((HA t).1))),.agg ((BO ((HA t).2)).map .p)]):=by
 intro t h1 h2;refine A6 Tryz.func117 O mQ (n:=27) O O (Az (BG O (BP O) fun b1=>VV O (BG O (A8 Bz O) fun b3=>Bj O (Av Ay 1 [] O (Au (BA (BI (EG (t:=4) (sz:=5) O) ?_)))))));refine Be (α:=Tm×List Tm×Option Nat×Nat) (fun(y,l,o,cp)=>⟨27,mk [(1,.ptr b1 0),(3,.ptr b3 0),(4,.vs o (BE l).length cp)],[.vec o 5 (BE l) cp,.box b3 [.p (I 0),.p (I 0),.p (.str ⟨#[]⟩),.p (.nils),.p (.nils)],.box b1 ((BO y).map .p)],[]⟩) (fun(y,l,o,cp)=>size y) (fun(y,l,o,cp)=>Nd y∧l.length+size y≤size t∧(l++(HA y).1,(HA y).2)=HA t) ⟨t,[],none,0⟩ (⟨h1,by simp,by simp⟩) ?_ ?_
 ·exact BY ⟨we O,we O,we O,Aq⟩ (leH (is:=[0,1,2]) O (wl (oe O) (wl (oe O) (wl (oe O) (C7)))))
 rintro⟨y,l,o,cp⟩ hC
 try simp only at hC
 have hl0:l.length<1000000:=by have:=hC.2.1;omega
 refine Au (Au ?_);obtain⟨yk,yi,yn,yl,ys⟩:=y;refine BR [1,3,4] 13 (fun y=>y= .p (.bool (((yk:Int)==(6:Int))&&(((ys.length:Nat):Int)==(2:Int))))) ?_ ?_
 ·refine A4 (Ax Ay 4 [2] O (BL 8 O (fun g=>?_) (fun g=>?_)))
  ·(try simp only[sd,se] at g);exact Ax Ay 2 [2] O (BC O (BM Bf O (BS _)) (As Ay 2 [] O (⟨O,O,AK,AI,⟨O,O,O,Aq⟩⟩)))
  (try simp only[sd,se] at g);exact As Ay 5 [] O (⟨O,O,AK,AI,⟨O,O,O,Aq⟩⟩)
 rintro _ rfl;refine Aw O (fun c=>?_) (fun c=>?_)
 ·(try simp only[sd,se] at c);refine A2 (BA (Az (Ax Ay 3 [2] O ?_)));obtain⟨x,hx⟩:=A7 (l:=ys) (i:=0) (by first | omega | (simp at c;omega));refine Ar O (A5 Bf O O Ao (Bc hx) (BD _)) (Ar O (BN Ba O (BD _)) ?_);obtain⟨xk,xi,xn,xl,xs⟩:=x;refine Ar O (Bo Bf Bz O O O O O) (FF O O (CQ (i:=0) (rows':=BE [(.mk xk xi xn xl xs:Tm)]) Bf Bf Bz O O O O O O (Bw _) AD (Jl l [(.mk xk xi xn xl xs:Tm)])) fun o1 cp1=>As Ay 1 [] O (A4 (Ax Ay 2 [2] O ?_)));obtain⟨x1,hx1⟩:=A7 (l:=ys) (i:=1) (by first | omega | (simp at c;omega));refine Ar O (A5 Bf O O Ao (Bc hx1) (BD _)) (As Ay 2 [2,1] O ?_);refine⟨⟨x1,l++[(.mk xk xi xn xl xs:Tm)],o1,cp1⟩,(by have:=Ce hx1;simp only[size];omega),⟨DW hC.1.2.2.2.2.1 hx1,by have:=Ce hx1;have:=hC.2.1;simp only[size] at *;simp only[List.length_append,List.length_cons,List.length_nil];omega,TG c hx hx1 hC.2.2⟩,BY ⟨we rfl,we rfl,we rfl,trivial⟩ (leH (is:=[0,1,2]) rfl (wl (oe rfl) (wl (oe rfl) (wl (oe rfl) (C7)))))⟩
 (try simp only[sd,se] at c);refine Bg (Au (Bu (fun k=>false) Dt (Bn Ay 4 [2,1,0] O (BI (Cj (i:=0) [4,25,2] O (D6 ⟨O,O,O,Aq⟩)) (A1 (⟨O,_,_,⟨_,_,O,O,⟨_,_,O,(BB (i:=0) Ba O O O),O⟩⟩,(List.nil_sublist _),?_⟩))))))
 all_goals exact⟨by show (.tup [.p (.lst (BE l)),.agg [.p (I yk),.p (I yi),.p (.str yn),.p (.lst (List.map B0 yl)),.p (.lst (BE ys))]]:AV)=_;rw[Vr Ao hC.2.2];rfl,rfl⟩
theorem bA:∀(d:CK) (k:Int),(Nn d)→(0≤d.fixed∧d.fixed≤1000000)→(0≤k)→(k<d.ctors.length)→Ec Tryz.prog 85 [.agg ((Bk d).map .p),.p (I k)] (.p (I (FQ d k))):=by
 intro d k h1 h2 h3 h4;have hcl:=h1.cl;refine A6 Tryz.func85 O ny (n:=23) O O (Az (BG O (BP O) fun b2=>As Ay 1 [] O (Az (Ar O (A0 Cy O O) (Ar O (A3 (i:=0) Hl O O (CB _)) (Bt O ?_))))));obtain⟨x,hx⟩:=A7 (l:=d.ctors) (i:=(k:Int).toNat) Ao;have hct:=h1.cs _ (List.mem_of_getElem? hx);have htl:=IQ x.type;have hsz:=hct.ty.sz;refine Ar O (A5 HN O O Ao (EX hx) (D8 _)) (Ar O (Bv Ir O O) (Ar O (DA Ba O (FA _) (BD _)) (Ar O (BF O O (V0 x.type hct.ty.nd hct.ty.sz) O) (Ax Ay 3 [] O (BG O (A8 Bz O) fun b6=>As Ay 2 [0,1] O (Az (Bt O (Ar O (BM Bf O (BS _)) (Ar O (A0 Cy O O) (Ar O (A3 (i:=1) DH O O (Co _)) (Ar O (Kh O O Ao Ao) (Ar O (FR O O) (As Ay 1 [] O (A1 (⟨O,_,_,⟨_,_,O,O,O⟩,(List.nil_sublist _),?_⟩)))))))))))))))
 all_goals exact⟨pI (by unfold FQ XI Ed;rw[CJ hx]),rfl⟩
theorem WS:∀(d:CK),(Nn d)→(0≤d.fixed∧d.fixed≤1000000)→Ec Tryz.prog 83 [.agg ((Bk d).map .p)] (.p (I (Ln d))):=by
 intro d h1 h2;have htl:=IQ d.type;have hsz:=h1.ty.sz;refine A6 Tryz.func83 O qP (n:=17) O O (Az (BG O (BP O) fun b1=>As Ay 1 [] O (Az (Ar O (A0 Cy O O) (Ar O (By (i:=0) Ba O O (E6 _) (BD _)) (Ar O (BF O O (V0 d.type h1.ty.nd h1.ty.sz) O) (Ax Ay 3 [] O (BG O (A8 Bz O) fun b4=>As Ay 2 [0,1] O (Az (Bt O (Ar O (BM Bf O (BS _)) (Ar O (A0 Cy O O) (Ar O (A3 (i:=1) DH O O (Co _)) (Ar O (Kh O O Ao Ao) (Ar O (FR O O) (As Ay 1 [] O (A1 (⟨O,_,_,⟨_,_,O,O,O⟩,(List.nil_sublist _),?_⟩))))))))))))))))))
 all_goals exact⟨pI rfl,rfl⟩
theorem L8:∀(d:CK),(Nn d)→(0≤d.fixed∧d.fixed≤1000000)→Ec Tryz.prog 48 [.agg ((Bk d).map .p)] (.p (I (CR d))):=by
 intro d h1 h2;have hir:=Fj h1 h2;have hcl:=h1.cl;refine A6 Tryz.func48 O qj (n:=13) O O (Az (BG O (BP O) fun b1=>As Ay 1 [] O (Au (Bu (fun k=>false) Dt (BH O (fun _=>A0 Cy O O) Aq (CX (j:=0) O O O (fun H i hi=>A3 (i:=i) DH O hi (Co _)) AB Aq (BQ Ay 2 [] O (CX (j:=0) O O O (fun H i hi=>A3 (i:=i) Hl O hi (CB _)) AB Aq (BH O (fun _=>BM HN O (List.length_map _)) Aq (BQ Ay 2 [0] O (BH O (fun _=>BF O O (WS d h1 h2) O) Aq (Bn Ay 2 [] O (A1 (⟨O,_,_,⟨_,_,O,O,O⟩,(List.nil_sublist _),?_⟩))))))))))))))
 all_goals exact⟨pI rfl,rfl⟩
theorem Nq:∀(d:CK),(Nn d)→(0≤d.fixed∧d.fixed≤1000000)→Ec Tryz.prog 90 [.agg ((Bk d).map .p)] (.p (I (CR d))):=by
 intro d h1 h2;have hir:=Fj h1 h2;have hcl:=h1.cl;have htl:=IQ d.type;have hsz:=h1.ty.sz;refine A6 Tryz.func90 O rh (n:=25) O O (Az (BG O (BP O) fun b1=>As Ay 1 [] O (Az (Ar O (A0 Cy O O) (Ar O (By (i:=0) Ba O O (E6 _) (BD _)) (Ar O (BF O O (Y9 d.type h1.ty.nd h1.ty.sz) O) (Ax Ay 3 [] O (BG O (A8 Bz O) fun b4=>As Ay 2 [0,1] O (Az (Ar O (A0 Cy O O) (Ar O (A3 (i:=1) DH O O (Co _)) (Ax Ay 2 [] O (Ar O (A3 (i:=1) Hl O O (CB _)) (Ar O (BM HN O (List.length_map _)) (Ax Ay 2 [] O (Ar O (BM Bf O (BS _)) (Ar O (A0 Cy O O) (Ar O (A3 (i:=1) DH O O (Co _)) (Ar O (Kh O O Ao Ao) (Ar O (FR O O) (As Ay 2 [] O (A1 ?_))))))))))))))))))))));refine⟨O,_,_,⟨_,_,O,O,O⟩,(List.nil_sublist _),?_⟩
 all_goals exact⟨pI rfl,rfl⟩
theorem U0:∀(l:List Tm),(l.length<Dd)→Ec Tryz.prog 63 [.p (.lst (BE l))] (.p (.lst (BE l.reverse))):=by
 intro l h1;simp only[Dd] at h1;refine A6 Tryz.func63 O sN (n:=20) O O (Av Ay 1 [] O (Av Ay 1 [] O (Au (Az (Bt O (Ar O (BM Bf O (BS _)) (As Ay 2 [] O (BA (BI (EG (t:=3) (sz:=5) O) (Be (α:=Nat×Option Nat×Nat) (fun(m,o,cp)=>⟨20,mk [(0,.p (.lst (BE l))),(3,.vs o (BE ((l.drop m).reverse)).length cp),(4,.p (I ((m:Int) - 1)))],[.vec o 5 (BE ((l.drop m).reverse)) cp],[]⟩) (fun(m,o,cp)=>m) (fun(m,o,cp)=>m≤l.length) ⟨l.length,none,0⟩ AQ ?_ ?_))))))))))
 ·exact BY ⟨we O,we (Lk [] Ap),we (pI Ao),Aq⟩ (leH (is:=[0]) O (wl (J5 [] Ap) (C7)))
 rintro⟨m,o,cp⟩ hC
 try simp only at hC
 refine Au (Av Ay 2 [] O (Aw O (fun c=>?_) (fun c=>?_)))
 ·(try simp only[sd,se] at c);refine A2 (Au (BA (A4 (Ax Ay 3 [] O ?_))));obtain⟨x,hx⟩:=A7 (l:=l) (i:=((m:Int) - 1:Int).toNat) Ao;refine Ar O (A5 Bf O O Ao (Bc hx) (BD _)) (Ar O (BN Ba O (BD _)) ?_);obtain⟨xk,xi,xn,xl,xs⟩:=x;refine Ar O (Bo Bf Bz O O O O O) (FF O O (CQ (i:=0) (rows':=BE [(.mk xk xi xn xl xs:Tm)]) Bf Bf Bz O O O O O O (Bw _) (by simp only[BS,List.length_reverse,List.length_drop,List.length_cons,List.length_nil];omega) (Jl ((l.drop m).reverse) [(.mk xk xi xn xl xs:Tm)])) fun o1 cp1=>As Ay 1 [] O (A4 (As Ay 3 [] O ?_)));refine⟨⟨m - 1,o1,cp1⟩,AU,by first | trivial | omega | (simp only;omega) | (simp;omega),BY ⟨we rfl,we (Lk ((l.drop m).reverse++[(.mk xk xi xn xl xs:Tm)]) (Vq (by simpa using hx) Ao)),we (pI Ao),trivial⟩ (leH (is:=[0]) rfl (wl (J5 ((l.drop m).reverse++[(.mk xk xi xn xl xs:Tm)]) (Vq (by simpa using hx) Ao)) (C7)))⟩
 (try simp only[sd,se] at c);refine Bg (Av Ay 2 [] O (BI (Cj (i:=0) [3,19,2] O (D6 ⟨O,O,O,Aq⟩)) (A1 (⟨O,_,_,⟨_,_,O,O,O⟩,(List.nil_sublist _),?_⟩))))
 all_goals exact⟨by show (.p (.lst (BE ((l.drop m).reverse))):AV)=_;rw[show m=0 by omega,List.drop_zero],rfl⟩
theorem RQ:∀(ds:List CK) (h:Tm),(HT ds)→Ec Tryz.prog 47 [.p (.lst (List.map Bk ds)),.agg ((BO h).map .p)] (.tup [.agg ((DN ((Bh ds h.name).1)).map .p),.p (.bool (QG ds h))]):=by
 intro ds h h1;obtain⟨hk,hi,hn,hl,hs⟩:=h;refine A6 Tryz.func47 O sG (n:=26) O O (Az (BG O (BP O) fun b3=>BG O (A8 Hk O) fun b4=>As Ay 1 [] O (Az (Ax Ay 3 [1] O (Ar O (BF O O (Lf ds hn h1) O) (Ax Ay 3 [] O (BG O (A8 Hk O) fun b6=>As Ay 2 [0,1] O (Au (Bu (fun k=>false) Dt (BQ Ay 4 [0] O (Dx 18 O (fun g=>?_) (fun g=>?_))))))))))))
 ·(try simp only[sd,se] at g);refine BQ Ay 2 [2] O (Cc O (fun _=>BM EZ O (List.length_map _)) Aq (Cc O (fun _=>A0 Fe O O) Aq (Lo (i:=0) O O O O O (fun H i hi=>A3 (i:=i) DH O hi (Hd _)) AB Aq (Bn Ay 4 [1,1] O (A1 (⟨O,_,_,⟨_,_,O,(BB (i:=1) LS O O Af),⟨_,_,O,O,O⟩⟩,(List.nil_sublist _),?_⟩))))))
  all_goals exact⟨by show (.tup [.agg ((DN ((Bh ds hn).1)).map .p),.p (.bool (((hl.length:Nat):Int)==(((Bh ds hn).1).params:Int)))]:AV)=_;rw[fQ (k:=hk) (i:=hi) (ks:=hs) (by first | exact g | omega)];rfl,rfl⟩
 (try simp only[sd,se] at g);refine Bn Ay 9 [1,1] O (A1 (⟨O,_,_,⟨_,_,O,(BB (i:=1) LS O O Af),⟨_,_,O,O,O⟩⟩,(List.nil_sublist _),?_⟩))
 all_goals exact⟨by show (.tup [.agg ((DN ((Bh ds hn).1)).map .p),.p (.bool false)]:AV)=_;rw[j8 (k:=hk) (i:=hi) (ls:=hl) (ks:=hs) (by first | exact g | omega)];rfl,rfl⟩
end Go.Proofs.YtboammbpdaoojaaGreat
namespace Go.Eu
open Go.Abs
def Out.ex {α:Type}:Out α→Except Int α
 | .ok a=> .ok a
 | .stuck=> .error 0
 | .fail=> .error 0
section
variable {α β σ:Type}
theorem IZ {o:Out α}{a:α}(h:o.ex= .ok a):o= .ok a:=by
 cases o<;>simp[Out.ex] at h;rw[h]
theorem DS {o:Out α}{a:α}(h:o= .ok a):o.ex= .ok a:=by rw[h];rfl
theorem lj {o:Out α}{e:Int}(hs:o≠ .stuck) (h:o.ex= .error e):o= .fail∧e=0:=by
 cases o with
 | stuck=>exact absurd rfl hs
 | fail=>simp[Out.ex] at h;exact⟨rfl,h.symm⟩
 | ok a=>simp[Out.ex] at h
theorem jV {o:Out α}(h:o= .fail):o.ex= .error 0:=by rw[h];rfl
theorem IH {o:Out α}{k:α→Out β}{b:β}(h:o.bind k= .ok b):∃a,o= .ok a∧k a= .ok b:=by
 cases o with
 | stuck=>simp[Out.bind] at h
 | fail=>simp[Out.bind] at h
 | ok a=>exact⟨a,rfl,h⟩
theorem Ji {o:Out α}{k:α→Out β}(h:o.bind k≠ .stuck):o≠ .stuck:=fun e=>h (by rw[e];rfl)
theorem MT {o:Out α}{k:α→Out β}{a:α}(h:o.ex= .ok a):o.bind k=k a:=by rw[IZ h];rfl
theorem Kn {o:Out α}{k:α→Out β}{e:Int}(h:o.bind k≠ .stuck) (he:o.ex= .error e):(o.bind k).ex= .error e:=by
 obtain⟨h1,h2⟩:=lj (Ji h) he;subst h2;rw[h1];rfl
theorem He {o:Out (Tm×σ)}{k:Tm×σ→Out β}{b:β}(h:o.chk k= .ok b):∃r,o= .ok r∧okB r.1=true∧k r= .ok b:=by
 obtain⟨r,h1,h2⟩:=IH h;split at h2
 ·rename_i hr;exact⟨r,h1,hr,h2⟩
 cases h2
theorem UK {o:Out (Tm×σ)}{k:Tm×σ→Out β}(h:o.chk k≠ .stuck):o≠ .stuck:=Ji h
theorem T7 {o:Out (Tm×σ)}{k:Tm×σ→Out β}{r:Tm×σ}(hs:o.chk k≠ .stuck) (h:o.ex= .ok r):okB r.1=true∧o.chk k=k r:=by
 have h1:=IZ h;subst h1;simp only[Out.chk,Out.bind] at hs ⊢;split at hs
 ·rename_i hr;exact⟨hr,by rw[if_pos hr]⟩
 exact absurd O hs
theorem UF {o:Out (Tm×σ)}{k:Tm×σ→Out β}{e:Int}(h:o.chk k≠ .stuck) (he:o.ex= .error e):(o.chk k).ex= .error e:=Kn h he
theorem K3 {s:EL}{x:Tm×Int}{k:Tm→EL→Out α}(h:DD.put s x k≠ .stuck):okB x.1=true∧DD.put s x k=k x.1 (s.result x.1 x.2):=by
 unfold Sys.put at h ⊢;split at h
 ·rename_i hx;exact⟨hx,by rw[if_pos hx];rfl⟩
 exact absurd O h
theorem ZC {s:Int}{x:Tm×Int}{k:Tm→Int→Out α}(h:B5.put s x k≠ .stuck):okB x.1=true∧B5.put s x k=if s - 1<0∨x.2≠0 then .fail else k x.1 (s - 1):=by
 unfold Sys.put at h ⊢;split at h
 ·rename_i hx;refine⟨hx,?_⟩;rw[if_pos hx];simp only[B5];by_cases c:s - 1<0∨x.2≠0
  ·rw[if_pos c,if_pos c]
  rw[if_neg c,if_neg c]
 exact absurd O h
end
section
variable {E:List CK}{σ:Type}{S:Sys σ}{W:σ→Tm→Out (Tm×σ)}{n:Nat}{t:FJ}{v:List Tm}{l:Tm}{s:σ}{x:Tm}
def Ps (E:List CK) (S:Sys σ) (W:σ→Tm→Out (Tm×σ)) (n:Nat) (t:FJ) (v:List Tm) (r:Tm×σ):Out ((Option (Tm×List Tm)×Tm)×σ):=match DE E r.1 with
 | none=> .ok ((none,r.1),r.2)
 | some (d,j,fields)=>match Cp (Ed d j).name t.branches with
  | none=> .ok ((none,r.1),r.2)
  | some t'=>Ds E S W n t' (v++fields) r.1 r.2
theorem Tv {X:Out ((Option (Tm×List Tm)×Tm)×σ)}(h:Ds E S W n t v l s=X) (hX:X≠ .stuck):∃k,n=k+1:=by
 cases n with
 | zero=>rw[Ds] at h;exact absurd h.symm hX
 | succ k=>exact⟨k,rfl⟩
theorem HM (h:t.kind≠1):Ds E S W (n+1) t v l s= .ok ((some (t.body,v),Bi),s):=by rw[Ds,if_neg h]
theorem IL (h:t.kind=1) (hb:t.var<0∨t.var≥(v.length:Int)∨S.over s=true):Ds E S W (n+1) t v l s= .ok ((none,l),s):=by rw[Ds,if_pos h,if_pos hb]
theorem Jf (h:t.kind=1) (hb:¬(t.var<0∨t.var≥(v.length:Int)∨S.over s=true)) (hx:v[t.var.toNat]?=some x):Ds E S W (n+1) t v l s=(W s x).chk (Ps E S W n t v):=by
 rw[Ds,if_pos h,if_neg hb,CJ hx];rfl
theorem Fp {r:Tm×σ}(h:DE E r.1=none):Ps E S W n t v r= .ok ((none,r.1),r.2):=by unfold Ps;rw[h]
theorem HV {r:Tm×σ}{d:CK}{j:Int}{f:List Tm}(h:DE E r.1=some (d,j,f)) (hb:Cp (Ed d j).name t.branches=none):Ps E S W n t v r= .ok ((none,r.1),r.2):=by unfold Ps;rw[h];simp only[hb]
theorem Hc {r:Tm×σ}{d:CK}{j:Int}{f:List Tm}{t':FJ}(h:DE E r.1=some (d,j,f)) (hb:Cp (Ed d j).name t.branches=some t'):Ps E S W n t v r=Ds E S W n t' (v++f) r.1 r.2:=by unfold Ps;rw[h];simp only[hb]
end
section
variable {E:List CK}{σ:Type}{S:Sys σ}{W:σ→Tm→Out (Tm×σ)}{n:Nat}{h m:Tm}{a:List Tm}{s:σ}{d:CK}{x:GV}
theorem Kc (he:(Bp d.value h.levels).2≠0):E1 S d h a s= .ok (none,s):=by rw[E1,if_pos he]
theorem KB (he:(Bp d.value h.levels).2=0):E1 S d h a s=S.put s ((Bp d.value h.levels).1,0) fun t s'=> .ok (some (apply t a),s'):=by rw[E1,if_neg Ao]
theorem Mf (hc:DE E m=none):E4 E S d h a m s= .ok (none,s):=by unfold E4;rw[hc]
theorem QK {e:CK}{j:Int}{f:List Tm}(hc:DE E m=some (e,j,f)) (hn:e.name≠d.name∨j≥(d.recs.rules.length:Int)):E4 E S d h a m s= .ok (none,s):=by unfold E4;rw[hc];simp only[if_pos hn]
theorem Lv {e:CK}{j:Int}{f:List Tm}{r:Tm}(hc:DE E m=some (e,j,f)) (hn:¬(e.name≠d.name∨j≥(d.recs.rules.length:Int))) (hr:d.recs.rules[j.toNat]?=some r) (he:(Bp r h.levels).2≠0):E4 E S d h a m s= .ok (none,s):=by
 unfold E4;rw[hc];simp only[if_neg hn,UC,CJ hr,if_pos he]
theorem Me {e:CK}{j:Int}{f:List Tm}{r:Tm}(hc:DE E m=some (e,j,f)) (hn:¬(e.name≠d.name∨j≥(d.recs.rules.length:Int))) (hr:d.recs.rules[j.toNat]?=some r) (he:(Bp r h.levels).2=0) :
  E4 E S d h a m s=S.put s (apply (apply (Bp r h.levels).1 (a.take (d.fixed+1+d.ctors.length).toNat)) f,0) fun t s'=> .ok (some (apply t (a.drop (CR d+1).toNat)),s'):=by
 unfold E4;rw[hc];simp only[if_neg hn,UC,CJ hr,if_neg (show ¬(Bp r h.levels).2≠0 by omega)]
theorem KO {b:Tm}{vars rest:List Tm}(he:(Bp b h.levels).2≠0):HL S h b vars rest s= .ok (none,s):=by rw[HL,if_pos he]
theorem Uh {b:Tm}{vars rest:List Tm}(hs:HL S h b vars rest s≠ .stuck) (he:(Bp b h.levels).2=0):okB (Bp b h.levels).1=true∧(∀v∈vars,okB v=true)∧Bb vars<1125899906842624∧HL S h b vars rest s=S.put s (CT (Bp b h.levels).1 vars.reverse 0) fun t s'=> .ok (some (apply t rest),s'):=by
 rw[HL,if_neg Ao] at hs ⊢;split at hs
 ·exact absurd O hs
 rename_i hc;have hn:=hc;simp only[not_or,Bool.not_eq_false] at hc;exact⟨hc.1,fun v hv=>List.all_eq_true.1 hc.2.1 v hv,by omega,by rw[if_neg hn]⟩
def Pf (S:Sys σ) (f:Hi) (h:Tm) (a:List Tm) (q:(Option (Tm×List Tm)×Tm)×σ):Out (Option Tm×σ):=match q.1.1 with
 | none=> .ok (none,q.2)
 | some (b,vars)=>if S.over q.2=true then .ok (none,q.2) else HL S h b vars (a.drop f.arity.toNat) q.2
theorem J6 {f:Hi}(hl:(a.length:Int)<f.arity):JO E S W n f h a s= .ok (none,s):=by rw[JO,if_pos hl]
theorem KP {f:Hi}(hl:¬(a.length:Int)<f.arity):JO E S W n f h a s=(Ds E S W n f.tree (a.take f.arity.toNat) Bi s).bind (Pf S f h a):=by rw[JO,if_neg hl];rfl
theorem ON (hl:(a.length:Int)≤CR d):RV E S W d h a s= .ok (none,s):=by rw[RV,if_pos hl]
theorem Qs {y:Tm}(hl:¬(a.length:Int)≤CR d) (hy:a[(CR d).toNat]?=some y):RV E S W d h a s=(W s y).chk fun r=>E4 E S d h a r.1 r.2:=by rw[RV,if_neg hl,CJ hy]
theorem JF (hu:QG E h=false):EY E S W n h a s= .ok (none,s):=by
 unfold EY;rw[Cm,hu];simp
section
variable (hu:QG E h=true) (hd:E[(Bh E h.name).1.decl.toNat]?=some d)
include hu hd
theorem I6 (hk:(Bh E h.name).1.kind=1):EY E S W n h a s=E1 S d h a s:=by
 unfold EY;rw[Cm,hu,if_pos rfl];simp only[if_pos hk,Cb,CJ hd]
theorem IC (hk:(Bh E h.name).1.kind=5):EY E S W n h a s=RV E S W d h a s:=by
 unfold EY;rw[Cm,hu,if_pos rfl];simp only[hk,Cb,CJ hd];rfl
theorem HK {f:Hi}(hk:(Bh E h.name).1.kind=6) (hf:d.funs[(Bh E h.name).1.item.toNat]?=some f):EY E S W n h a s=JO E S W n f h a s:=by
 unfold EY;rw[Cm,hu,if_pos rfl];simp only[hk,Cb,CJ hd,E2,CJ hf];rfl
omit hd
theorem IS (h1:(Bh E h.name).1.kind≠1) (h5:(Bh E h.name).1.kind≠5) (h6:(Bh E h.name).1.kind≠6):EY E S W n h a s= .ok (none,s):=by
 unfold EY;rw[Cm,hu,if_pos rfl];simp only[if_neg h1,if_neg h5,if_neg h6]
end
end
section
variable {E:List CK}{σ:Type}{S:Sys σ}{n:Nat}{t:Tm}{s:σ}{X:Out (Tm×σ)}
theorem ZB (h:EF E S n s t=X) (hX:X≠ .stuck):∃k,n=k+1:=by
 cases n with
 | zero=>rw[EF] at h;exact absurd h.symm hX
 | succ k=>exact⟨k,rfl⟩
theorem Xl (h:EF E S (n+1) s t=X) (hX:X≠ .stuck):okB t=true:=by
 rw[EF] at h;split at h
 ·exact absurd h.symm hX
 rename_i hc;simpa using hc
theorem Y5 (ho:okB t=true) (h:S.over s=true):EF E S (n+1) s t= .ok (t,s):=by rw[EF,if_neg (by simp[ho]),if_pos h]
theorem YY (ho:okB t=true) (h:S.over s=false) (hm:S.many (A9 t).2.length=true):EF E S (n+1) s t= .fail:=by rw[EF,if_neg (by simp[ho]),if_neg (by simp[h]),if_pos hm]
section
variable (ho:okB t=true) (h:S.over s=false) (hm:S.many (A9 t).2.length=false)
include ho h hm
theorem Ol (hk:(A9 t).1.kind=5) (hl:(A9 t).2.length=0):EF E S (n+1) s t= .ok (t,s):=by
 rw[EF,if_neg (by simp[ho]),if_neg (by simp[h]),if_neg (by simp[hm]),if_pos hk,if_pos hl]
theorem Q4 {b:Tm}(hk:(A9 t).1.kind=5) (hl:(A9 t).2.length≠0) (hb:(A9 t).1.kids[1]?=some b) :
  EF E S (n+1) s t=S.put s (CT b ((A9 t).2.take 1) 0) fun x s'=>EF E S n s' (apply x ((A9 t).2.drop 1)):=by
 rw[EF,if_neg (by simp[ho]),if_neg (by simp[h]),if_neg (by simp[hm]),if_pos hk,if_neg hl,Nw,hb]
theorem R0 {v b:Tm}(hk:(A9 t).1.kind=11) (hv:(A9 t).1.kids[1]?=some v) (hb:(A9 t).1.kids[2]?=some b) :
  EF E S (n+1) s t=S.put s (CT b [v] 0) fun x s'=>EF E S n s' (apply x (A9 t).2):=by
 rw[EF,if_neg (by simp[ho]),if_neg (by simp[h]),if_neg (by simp[hm]),if_neg Ao,if_pos hk,Ua,hv,hb]
def Px (E:List CK) (S:Sys σ) (n:Nat) (h:Tm) (a:List Tm) (r:Tm×σ):Out (Tm×σ) :=
 if r.1.kind≠8 then .ok (apply (Ip h.kind r.1) a,r.2) else Ms S h r.1 a r.2 fun x s'=>EF E S n s' x
theorem OR {p:Tm}(hk:(A9 t).1.kind=9∨(A9 t).1.kind=10) (hp:(A9 t).1.kids[0]?=some p) :
  EF E S (n+1) s t=(EF E S n s p).chk (Px E S n (A9 t).1 (A9 t).2):=by
 rw[EF,if_neg (by simp[ho]),if_neg (by simp[h]),if_neg (by simp[hm]),if_neg Ao,if_neg Ao,if_pos hk,hp];rfl
def Yr (E:List CK) (S:Sys σ) (n:Nat) (t:Tm) (r:Option Tm×σ):Out (Tm×σ):=match r.1 with
 | none=> .ok (t,r.2)
 | some x=>EF E S n r.2 x
theorem Ka (hk:(A9 t).1.kind=3):EF E S (n+1) s t=(EY E S (EF E S n) n (A9 t).1 (A9 t).2 s).bind (Yr E S n t):=by
 rw[EF,if_neg (by simp[ho]),if_neg (by simp[h]),if_neg (by simp[hm]),if_neg Ao,if_neg Ao,if_neg Ao,if_pos hk];rfl
theorem V3 (h1:(A9 t).1.kind≠5) (h2:(A9 t).1.kind≠11) (h3:(A9 t).1.kind≠9) (h4:(A9 t).1.kind≠10) (h5:(A9 t).1.kind≠3):EF E S (n+1) s t= .ok (t,s):=by
 rw[EF,if_neg (by simp[ho]),if_neg (by simp[h]),if_neg (by simp[hm]),if_neg h1,if_neg h2,if_neg Ao,if_neg h5]
end
theorem Lm {h:Tm}{a:List Tm}{r:Tm×σ}(hk:r.1.kind≠8):Px E S n h a r= .ok (apply (Ip h.kind r.1) a,r.2):=by rw[Px,if_pos hk]
theorem OC {h:Tm}{a:List Tm}{r:Tm×σ}{q:Tm}(hk:r.1.kind=8) (hq:r.1.kids[(1+h.kind - 9).toNat]?=some q):Px E S n h a r=S.put r.2 (q,0) fun x s'=>EF E S n s' (apply x a):=by
 rw[Px,if_neg Ao,Ms,hq]
end
theorem FI {vs:List Tm}(h:∀v∈vs,okB v=true):Ld vs∧Nl vs∧Sy vs:=NY vs (KI.2 fun t ht=>LH (h t ht))
theorem ZO {vs:List Tm}(h:∀v∈vs,okB v=true) (hl:vs.length<549755813888):QA vs 0 :=
 ⟨(FI h).2.1,(FI h).2.2,fun x hx=>by have:=F9 (h x hx);omega,by omega,by omega,by omega⟩
theorem Ks {b:Tm}{vs:List Tm}(hb:okB b=true) (hv:∀v∈vs,okB v=true):size (CT b vs 0).1≤4096 :=
 WE b vs 0 (CP.1 hb).wt (FI hv).2.1 fun x hx=>by have:=F9 (hv x hx);omega
theorem O0 {b:Tm}{vs:List Tm}(hb:okB b=true) (hv:∀v∈vs,okB v=true) (hl:vs.length<549755813888):okB (CT b vs 0).1=true:=by
 have o:=CP.1 hb;obtain⟨h1,h2,h3⟩:=FI hv;have:=Ks hb hv;exact CP.2 ⟨aH b vs 0 o.nd h1,aE b vs 0 o.wt h2,aC (ZO hv hl) o.vp (by have:=o.sz;omega),by omega⟩
theorem I7.zero:I7 Fa:=I7.num (n:=0) Ao
theorem PI {ps:List CZ}(hp:∀p∈ps,CA p=true):∀(vs:List CE) (out:CZ),I7 out→(∀v∈vs,(0≤v.plus∧v.plus≤100)∧ -65536≤v.index∧v.index<8)→I7 (GN ps out vs).1
 | [],out,h,_=>h
 | v::vs,out,h,hv=>by
  have h1:=hv v Ap;have h2:∀u∈vs,(0≤u.plus∧u.plus≤100)∧ -65536≤u.index∧u.index<8:=fun u hu=>hv u (by simp[hu]);rw[GN];split
  ·rename_i hi;split
   ·exact I7.zero
   rename_i he;refine PI hp vs _ (h.join ?_) h2;have hlt:v.index.toNat<ps.length:=by omega
   have hg:ps.getD v.index.toNat default∈ps:=by rw[CJ (List.getElem?_eq_getElem hlt)];exact List.getElem_mem hlt
   exact I7.plus (hp _ hg) h1.1.1 h1.1.2 (Decidable.not_not.1 he)
  exact PI hp vs _ (h.join (I7.one h1)) h2
theorem Xm (l:CZ) (ps:List CZ):I7 (Cv l ps).1:=by
 unfold Cv;split
 ·exact I7.zero
 rename_i h;simp only[not_or,Bool.not_eq_false,List.all_eq_true] at h;split
 ·exact I7.zero
 have hl:=I7.of h.1;exact PI h.2 l.vars _ (I7.num hl.c) hl.rg
theorem Td (ps:List CZ):∀(ls:List CZ) (er:Int),(FK ps er ls).1.length=ls.length∧(FK ps er ls).1.all XJ=true
 | [],er=>⟨rfl,rfl⟩
 | l::ls,er=>by
  obtain⟨h1,h2⟩:=Td ps ls (Gg er (Cv l ps).2);simp only[FK,List.length_cons,List.all_cons,Bool.and_eq_true];exact⟨by rw[h1],Yk (Xm l ps).nd,h2⟩
mutual
theorem RB (ps:List CZ):∀(t:Tm) (er:Int),TQ t=true→TQ (Hn ps er t).1=true∧size (Hn ps er t).1=size t
 | .mk k i n ls ks,er,h=>by
  rw[L5,Bool.and_eq_true] at h;obtain⟨h1,h2⟩:=Td ps ls er;obtain⟨h3,h4,h5⟩:=Te ps ks (FK ps er ls).2 h.2;simp only[Hn,L5,size,Bool.and_eq_true];refine⟨⟨?_,h4⟩,by rw[h5]⟩;have g:=h.1;simp only[mv,Bool.and_eq_true] at g ⊢;rw[h1,h3];exact⟨⟨⟨⟨⟨⟨⟨⟨g.1.1.1.1.1.1.1.1,g.1.1.1.1.1.1.1.2⟩,h2⟩,g.1.1.1.1.1.2⟩,g.1.1.1.1.2⟩,g.1.1.1.2⟩,g.1.1.2⟩,g.1.2⟩,g.2⟩
theorem Te (ps:List CZ):∀(ts:List Tm) (er:Int),LR ts=true→(Ge ps er ts).1.length=ts.length∧LR (Ge ps er ts).1=true∧Bb (Ge ps er ts).1=Bb ts
 | [],er,_=>⟨rfl,rfl,rfl⟩
 | t::ts,er,h=>by
  simp only[LR,Bool.and_eq_true] at h;obtain⟨h1,h2⟩:=RB ps t er h.1;obtain⟨h3,h4,h5⟩:=Te ps ts (Hn ps er t).2 h.2;simp only[Ge,List.length_cons,LR,Bool.and_eq_true,Bb];exact⟨by rw[h3],⟨h1,h4⟩,by rw[h2,h5]⟩
end
theorem dX:TQ Bi=true:=by decide
theorem HR:okB Bi=true:=by decide
theorem Ls {t:Tm}(ps:List CZ) (h:okB t=true):size (Bp t ps).1≤size t:=by
 unfold Bp;split
 ·exact size_pos t
 exact Nat.le_of_eq (RB ps t 0 (LH h)).2
theorem PD {t:Tm}(ps:List CZ) (h:okB t=true):okB (Bp t ps).1=true:=by
 have:=Ls ps h;have:=F9 h;refine PA ?_ Ao;unfold Bp;split
 ·exact dX
 exact(RB ps t 0 (LH h)).1
theorem Kb {f:Tm}{xs:List Tm}(h:okB f=true) (hx:∀x∈xs,okB x=true) (hs:size f+Bb xs+xs.length<549755813888):okB (apply f xs)=true :=
 PA (KD (LH h) fun x hx'=>LH (hx x hx')) (by rw[DL];exact hs)
theorem jI {k:Int}{p:Tm}(hk:k=9∨k=10) (h:okB p=true) (hs:size p+1<549755813888):okB (Ip k p)=true:=by
 refine PA ?_ (by simp only[Ip,size,Bb];omega);rw[Ip,L5,Bool.and_eq_true];refine⟨?_,by simp[LR,LH h]⟩;rcases hk with rfl | rfl<;>rfl
theorem Db (l:List Tm) (k:Nat):Bb (l.take k)+Bb (l.drop k)=Bb l:=by rw[←I3,List.take_append_drop]
theorem Fm:∀(t:Tm),size (A9 t).1+Bb (A9 t).2+(A9 t).2.length=size t
 | .mk k i n l [f,a]=>by
  unfold A9;split
  ·have:=Fm f;simp only[I3,Bb,size,List.length_append,List.length_cons,List.length_nil];omega
  ·simp[Bb]
 | .mk k i n l []=>by simp[A9,Bb]
 | .mk k i n l [_]=>by simp[A9,Bb]
 | .mk k i n l (_::_::_::_)=>by simp[A9,Bb]
mutual
def Dz:FJ→Nat
 | .mk _ _ _ l=>1+Kx l
def Xq:GD→Nat
 | .mk _ _ t=>Dz t
def Kx:List GD→Nat
 | []=>0
 | b::l=>max (Xq b) (Kx l)
end
theorem W9:∀t:FJ,1≤Dz t
 | .mk k b v l=>by simp only[Dz];omega
structure HQ (E:List CK):Prop where
 g:Ja E
 vl:∀d∈E,size d.value≤400
 ru:∀d∈E,∀t∈d.recs.rules,size t≤400
 fu:∀d∈E,∀f∈d.funs,Dz f.tree≤50
theorem Vw {nm:ByteArray}:∀{l:List GD}{t:FJ},Cp nm l=some t→RA l→Fg t∧Dz t≤Kx l
 | .mk c a q::l,t,h,ho=>by
  simp only[RA,j0] at ho;rw[Cp] at h;simp only[Kx,Xq];split at h
  ·split at h
   ·cases h
   cases h;exact⟨ho.1,by simp only[GD.tree];omega⟩
  obtain⟨h1,h2⟩:=Vw h ho.2;exact⟨h1,by omega⟩
theorem X9 {nm:ByteArray}{t t':FJ}(h:Cp nm t.branches=some t') (ho:Fg t):Fg t'∧Dz t' < Dz t:=by
 obtain⟨k,b,v,l⟩:=t;simp only[Fg] at ho;obtain⟨h1,h2⟩:=Vw h ho.2;exact⟨h1,by simp only[Dz,FJ.branches] at *;omega⟩
theorem Hh {E:List CK}{h:Tm}(hu:QG E h=true):∃(i:Nat) (d:CK),E[i]?=some d∧ZA d i (Bh E h.name).1∧d∈E∧E[(Bh E h.name).1.decl.toNat]?=some d:=by
 simp only[QG,Bool.and_eq_true,decide_eq_true_eq] at hu;obtain⟨i,d,h1,h2⟩:=Np hu.1;exact⟨i,d,h1,h2,List.mem_of_getElem? h1,by rw[h2.decl];simpa using h1⟩
theorem Ti {E:List CK}{nm:ByteArray}{d:CK}{j:Int}(h:HU E nm=some (d,j)):d∈E∧(0≤j→j<d.ctors.length):=by
 unfold HU at h;split at h
 ·cases h
 rename_i h0;obtain⟨i,d',h1,h2⟩:=Np (Decidable.not_not.1 h0);have hd:Cb E (Bh E nm).1.decl=d':=CJ (by rw[h2.decl];simpa using h1);have hm:=List.mem_of_getElem? h1;rw[hd] at h;split at h
 ·cases h;exact⟨hm,fun q=>by omega⟩
 split at h
 ·rename_i h4;obtain⟨k,c,h5,h6⟩:=h2.ctor h4;cases h;exact⟨hm,fun _=>by have:=(List.getElem?_eq_some_iff.1 h5).1;omega⟩
 split at h
 ·cases h;exact⟨hm,fun q=>by omega⟩
 cases h
structure kq (E:List CK) (t:Tm) (d:CK) (j:Int) (f:List Tm):Prop where
 mem:d∈E
 lo:0≤j
 hi:j<d.ctors.length
 fs:f=(A9 t).2.drop d.fixed.toNat
 len:((A9 t).2.length:Int)=d.fixed+FQ d j
 kind:(A9 t).1.kind=3
theorem Fs {E:List CK}{t:Tm}{d:CK}{j:Int}{f:List Tm}(h:DE E t=some (d,j,f)):kq E t d j f:=by
 unfold DE at h;split at h
 ·cases h
 rename_i hk;split at h
 ·cases h
 rename_i d' j' hf;obtain⟨h1,h2⟩:=Ti hf;split at h
 ·cases h
 split at h
 ·cases h
 rename_i h3 h4;cases h;exact⟨h1,by omega,h2 Ao,rfl,Decidable.not_not.1 h4,Decidable.not_not.1 hk⟩
theorem Jg {E:List CK}{t:Tm}{d:CK}{j:Int}{f:List Tm}(h:DE E t=some (d,j,f)) (ho:okB t=true):(∀x∈f,okB x=true∧size x<size t)∧Bb f+f.length<size t:=by
 have c:=Fs h;have hs:=Fm t;have hp:=size_pos (A9 t).1;have hd:=Db (A9 t).2 d.fixed.toNat;rw[c.fs];refine⟨fun x hx=>⟨(Ga ho).2 x (List.mem_of_mem_drop hx),?_⟩,by rw[List.length_drop];omega⟩;have:=En (List.mem_of_mem_drop hx);omega
theorem JI {E:List CK}{t:Tm}{d:CK}{j:Int}{f:List Tm}(hE:Ja E) (h:DE E t=some (d,j,f)):f.length≤1000000:=by
 have c:=Fs h;have hd:=hE.all d c.mem;have hlo:=c.lo;have hhi:=c.hi;have hlt:j.toNat<d.ctors.length:=by omega
 have hx:=List.getElem?_eq_getElem hlt;have hs:=(hd.din.cs _ (List.getElem_mem hlt)).ty.sz;have hl:=IQ d.ctors[j.toNat].type;have hfx:=hd.fx;have hlen:=c.len;rw[c.fs,List.length_drop];unfold FQ XI Ed at hlen;rw[CJ hx] at hlen;omega
def DM {α:Type}(o:Out α) (p:α→Prop):Prop:=match o with
 | .stuck=>False
 | .fail=>True
 | .ok a=>p a
section
variable {α β σ:Type}
theorem DM.ok {a:α}{p:α→Prop}(h:p a):DM (.ok a) p:=h
theorem DM.ns {o:Out α}{p:α→Prop}(h:DM o p):o≠ .stuck:=fun e=>by rw[e] at h;exact h
theorem DM.get {o:Out α}{p:α→Prop}{a:α}(h:DM o p) (e:o= .ok a):p a:=by rw[e] at h;exact h
theorem DM.mono {o:Out α}{p q:α→Prop}(h:DM o p) (hpq:∀a,p a→q a):DM o q:=by
 cases o with
 | stuck=>exact h
 | fail=>trivial
 | ok a=>exact hpq a h
theorem DM.bind {o:Out α}{k:α→Out β}{p:α→Prop}{q:β→Prop}(h:DM o p) (hk:∀a,p a→DM (k a) q):DM (o.bind k) q:=by
 cases o with
 | stuck=>exact h
 | fail=>trivial
 | ok a=>exact hk a h
theorem DM.chk {o:Out (Tm×σ)}{k:Tm×σ→Out β}{p:Tm×σ→Prop}{q:β→Prop}(h:DM o p) (hk:∀a,p a→okB a.1=true∧DM (k a) q):DM (o.chk k) q :=
 DM.bind h fun a ha=>by rw[if_pos (hk a ha).1];exact(hk a ha).2
theorem DM.put {S:Sys σ}{s:σ}{x:Tm×Int}{k:Tm→σ→Out β}{q:β→Prop}(ho:okB x.1=true) (hk:∀s',S.res s x.1 x.2=some s'→DM (k x.1 s') q):DM (S.put s x k) q:=by
 unfold Sys.put;rw[if_pos ho];cases h:S.res s x.1 x.2 with
 | none=>trivial
 | some s'=>exact hk s' h
end
structure Xn {σ:Type} (S:Sys σ) (J:σ→Prop) (cnt:σ→Nat) (C:Nat):Prop where
 nov:∀s,J s→S.over s=false→cnt s≤C
 res:∀s t e s',J s→cnt s<1152921504606846976→okB t=true→S.res s t e=some s'→J s'∧cnt s'=cnt s+1
 hC:C≤20000
section
variable {σ:Type}(S:Sys σ) (J:σ→Prop) (cnt:σ→Nat) (C:Nat)
structure Vo (s:σ) (t:Tm) (r:Tm×σ):Prop where
 j:J r.2
 ok:okB r.1=true
 le:cnt s≤cnt r.2
 sz:size r.1≤size t+(cnt r.2 - cnt s)*4500
 ub:S.over s=false→cnt r.2≤C+1+size t+(C - cnt s)*4500
 st:S.over s=true→r.2=s
structure p8 (n:Nat) (s:σ) (t:Tm):Prop where
 j:J s
 ok:okB t=true
 pm:S.over s=false→size t+(C - cnt s)*4500≤90100000
 fu:S.over s=false→size t+(C - cnt s)*4501+100≤n
 n1:1≤n
def kN (n:Nat) (W:σ→Tm→Out (Tm×σ)):Prop:=∀s t,p8 S J cnt C n s t→DM (W s t) (Vo S J cnt C s t)
end
section
variable {σ:Type}{S:Sys σ}{J:σ→Prop}{cnt:σ→Nat}{C:Nat}{E:List CK}{n:Nat}{W:σ→Tm→Out (Tm×σ)}
variable (hS:Xn S J cnt C) (hE:HQ E) (hW:kN S J cnt C n W)
structure rZ (S:Sys σ) (J:σ→Prop) (cnt:σ→Nat) (C n V Z:Nat) (s:σ) (vars:List Tm) (last:Tm):Prop where
 j:J s
 ok:∀v∈vars,okB v=true
 lok:okB last=true
 pm:S.over s=false→∀v∈vars,size v+(C - cnt s)*4500≤V
 fu:S.over s=false→∀v∈vars,size v+(C - cnt s)*4501+100≤n
 lm:S.over s=false→size last+(C - cnt s)*4500≤V∧size last+(C - cnt s)*4501+100≤n
 zs:∀v∈vars,size v≤Z
 lz:size last≤Z
structure j1 (S:Sys σ) (J:σ→Prop) (cnt:σ→Nat) (C n V L Z:Nat) (s:σ) (q:(Option (Tm×List Tm)×Tm)×σ):Prop where
 j:J q.2
 le:cnt s≤cnt q.2
 ub:S.over s=false→cnt q.2≤C+1+V
 st:S.over s=true→q.2=s
 ok:∀b vars,q.1.1=some (b,vars)→okB b=true∧∀v∈vars,okB v=true
 vl:∀b vars,q.1.1=some (b,vars)→vars.length≤L∧Bb vars<1125899906842624
 lok:okB q.1.2=true
 lz:q.1.1=none→size q.1.2≤Z+(cnt q.2 - cnt s)*4500
 lm:S.over q.2=false→q.1.1=none→size q.1.2+(C - cnt q.2)*4500≤V∧size q.1.2+(C - cnt q.2)*4501+100≤n
include hS hE hW
theorem Rn {V L:Nat}(hV:V≤90100000):∀(m:Nat) (t:FJ) (vars:List Tm) (last:Tm) (s:σ) (Z:Nat),Dz t≤m→Fg t→1≤n→vars.length+Dz t*1000000≤L→Bb vars+Dz t*549755813888<1125899906842624→rZ S J cnt C n V Z s vars last→DM (Ds E S W m t vars last s) (j1 S J cnt C n V L Z s)
 | 0,t,vars,last,s,Z,h,_,_,_,_,_=>absurd h (by have:=W9 t;omega)
 | m+1,t,vars,last,s,Z,h,ht,hn,hL,hM,hp=>by
  by_cases hk:t.kind=1
  ·by_cases hb:t.var<0∨t.var≥(vars.length:Int)∨S.over s=true
   ·rw[IL hk hb];exact DM.ok ⟨hp.j,Nat.le_refl _,fun h=>by have:=hS.nov s hp.j h;simp only;omega,fun _=>rfl,fun b v e=>by simp at e,fun b v e=>by simp at e,hp.lok,fun _=>by have:=hp.lz;simp only;omega,fun h _=>hp.lm h⟩
   have hlt:t.var.toNat<vars.length:=by omega
   have ho:S.over s=false:=by simpa using fun e=>hb (.inr (.inr e))
   have hx:=List.getElem?_eq_getElem hlt;have hm:=List.getElem_mem hlt;rw[Jf hk hb hx];have hcs:=hS.nov s hp.j ho;refine DM.chk (hW s _ ⟨hp.j,hp.ok _ hm,fun _=>by have:=hp.pm ho _ hm;omega,fun _=>hp.fu ho _ hm,hn⟩) fun r hr=>⟨hr.ok,?_⟩;have hpm:=hp.pm ho _ hm;have hfu:=hp.fu ho _ hm;have hub:=hr.ub ho;have hle:=hr.le;have hsz:=hr.sz;have hlm:S.over r.2=false→size r.1+(C - cnt r.2)*4500≤V∧size r.1+(C - cnt r.2)*4501+100≤n:=fun h=>by have:=hS.nov _ hr.j h;omega
   have hstop:DM (.ok ((none,r.1),r.2)) (j1 S J cnt C n V L Z s) :=
    DM.ok ⟨hr.j,hr.le,fun _=>by simp only;omega,fun e=>absurd (ho.symm.trans e) Ap,fun b v e=>by simp at e,fun b v e=>by simp at e,hr.ok,fun _=>by have:=hp.zs _ hm;simp only;omega,fun h _=>hlm h⟩
   cases hc:DE E r.1 with
   | none=>rw[Fp hc];exact hstop
   | some q =>
    obtain⟨d,j,f⟩:=q;cases hbr:Cp (Ed d j).name t.branches with
    | none=>rw[HV hc hbr];exact hstop
    | some t' =>
     rw[Hc hc hbr];obtain⟨h1,h2⟩:=X9 hbr ht;obtain⟨h3,h4⟩:=Jg hc hr.ok;have h5:=F9 hr.ok;refine DM.mono (Rn (L:=L) hV m t' (vars++f) r.1 r.2 (Z+(cnt r.2 - cnt s)*4500) Ao h1 hn (by have:=JI hE.g hc;rw[List.length_append];omega) (by rw[I3];omega) ⟨hr.j,fun v hv=>?_,hr.ok,fun h v hv=>?_,fun h v hv=>?_,hlm,fun v hv=>?_,by have:=hp.zs _ hm;omega⟩) fun q hq=>?_
     ·rcases List.mem_append.1 hv with hv | hv
      ·exact hp.ok v hv
      exact(h3 v hv).1
     ·have:=hS.nov _ hr.j h;rcases List.mem_append.1 hv with hv | hv
      ·have:=hp.pm ho v hv;omega
      have:=(h3 v hv).2;omega
     ·have:=hS.nov _ hr.j h;rcases List.mem_append.1 hv with hv | hv
      ·have:=hp.fu ho v hv;omega
      have:=(h3 v hv).2;omega
     ·have hzm:=hp.zs _ hm;rcases List.mem_append.1 hv with hv | hv
      ·have:=hp.zs v hv;omega
      have:=(h3 v hv).2;omega
     refine⟨hq.j,by have:=hq.le;omega,fun _=>?_,fun e=>absurd (ho.symm.trans e) Ap,hq.ok,hq.vl,hq.lok,fun e=>by have:=hq.lz e;have:=hq.le;omega,hq.lm⟩;cases hov:S.over r.2 with
     | true=>rw[hq.st hov];omega
     | false=>exact hq.ub hov
  rw[HM hk];refine DM.ok ⟨hp.j,Nat.le_refl _,fun h=>by have:=hS.nov s hp.j h;simp only;omega,fun _=>rfl,fun b v e=>?_,fun b v e=>?_,HR,fun e=>by simp at e,fun h e=>by simp at e⟩
  ·simp only[Option.some.injEq,Prod.mk.injEq] at e;obtain⟨rfl,rfl⟩:=e;refine⟨?_,hp.ok⟩;obtain⟨k,b,v,l⟩:=t;simp only[Fg] at ht;exact ht.1
  simp only[Option.some.injEq,Prod.mk.injEq] at e;obtain⟨rfl,rfl⟩:=e;omega
end
section
variable {σ:Type}{S:Sys σ}{J:σ→Prop}{cnt:σ→Nat}{C:Nat}{E:List CK}{n:Nat}{W:σ→Tm→Out (Tm×σ)}
structure YZ (S:Sys σ) (J:σ→Prop) (cnt:σ→Nat) (C:Nat) (s:σ) (z:Nat) (r:Option Tm×σ):Prop where
 j:J r.2
 le:cnt s≤cnt r.2
 ub:cnt r.2≤C+1+z+(C - cnt s)*4500
 ok:∀x,r.1=some x→okB x=true∧cnt s+1≤cnt r.2∧size x≤z+(cnt r.2 - cnt s)*4500
variable (hS:Xn S J cnt C)
include hS
theorem aW {d:CK}{h:Tm}{a:List Tm}{s:σ}(hj:J s) (hc:cnt s≤C) (hv:okB d.value=true) (hs:size d.value≤400) (ha:∀x∈a,okB x=true) (hz:size h+Bb a+a.length≤90100000):DM (E1 S d h a s) (YZ S J cnt C s (size h+Bb a+a.length)):=by
 have hC:=hS.hC;by_cases he:(Bp d.value h.levels).2=0
 ·rw[KB he];have h1:=Ls h.levels hv;have h2:=PD h.levels hv;refine DM.put h2 fun s' hs'=>?_;obtain⟨h3,h4⟩:=hS.res _ _ _ _ hj Ao h2 hs';have h5:=DL a (Bp d.value h.levels).1;refine DM.ok ⟨h3,by simp only;omega,by simp only;omega,fun x hx=>?_⟩;simp only[Option.some.injEq] at hx;subst hx;exact⟨Kb h2 ha Ao,by simp only;omega,by simp only;omega⟩
 rw[Kc he];exact DM.ok ⟨hj,Nat.le_refl _,by simp only;omega,fun x hx=>by cases hx⟩
theorem dz {b h:Tm}{vars rest:List Tm}{s:σ}{z:Nat}(hj:J s) (hc:cnt s≤C) (hb:okB b=true) (hv:∀v∈vars,okB v=true) (hl:vars.length<549755813888) (hsv:Bb vars<1125899906842624) (hr:∀x∈rest,okB x=true) (hz:Bb rest+rest.length≤z) (hz2:z≤90100000):DM (HL S h b vars rest s) (fun r=>J r.2∧cnt s≤cnt r.2∧cnt r.2≤cnt s+1∧∀x,r.1=some x→okB x=true∧cnt r.2=cnt s+1∧size x≤z+4096):=by
 have hC:=hS.hC;by_cases he:(Bp b h.levels).2=0
 ·have h1:=PD h.levels hb;have hvr:∀v∈vars.reverse,okB v=true:=fun v hm=>hv v (List.mem_reverse.1 hm);have h2:=O0 h1 hvr (by rw[List.length_reverse];exact hl);have h3:=Ks h1 hvr;rw[HL,if_neg Ao,if_neg (by simp only[not_or,Bool.not_eq_false];exact⟨h1,List.all_eq_true.2 hv,by omega⟩)];refine DM.put h2 fun s' hs'=>?_;obtain⟨h4,h5⟩:=hS.res _ _ _ _ hj Ao h2 hs';have h6:=DL rest (CT (Bp b h.levels).1 vars.reverse 0).1;refine DM.ok ⟨h4,by simp only;omega,by simp only;omega,fun x hx=>?_⟩;simp only[Option.some.injEq] at hx;subst hx;exact⟨Kb h2 hr Ao,by simp only;omega,by omega⟩
 rw[KO he];exact DM.ok ⟨hj,Nat.le_refl _,by simp only;omega,fun x hx=>by cases hx⟩
variable (hE:HQ E)
include hE
theorem bj {d:CK}{h m:Tm}{a:List Tm}{s:σ}(hd:d∈E) (hj:J s) (hc:cnt s≤90200000) (hm:okB m=true) (ha:∀x∈a,okB x=true) {z:Nat}{y:Tm}(hy:a[(CR d).toNat]?=some y) (hz:Bb a+a.length+size m≤z+size y) (hz2:z≤500000000000) :
  DM (E4 E S d h a m s) (fun r=>J r.2∧cnt s≤cnt r.2∧cnt r.2≤cnt s+1∧∀x,r.1=some x→okB x=true∧cnt r.2=cnt s+1∧size x≤z+4500):=by
 have hg:=hE.g.all d hd;have hnone:DM (.ok (none,s)) (fun r:Option Tm×σ=>J r.2∧cnt s≤cnt r.2∧cnt r.2≤cnt s+1∧∀x,r.1=some x→okB x=true∧cnt r.2=cnt s+1∧size x≤z+4500) :=
  DM.ok ⟨hj,Nat.le_refl _,by simp only;omega,fun x hx=>by cases hx⟩
 cases hcw:DE E m with
 | none=>rw[Mf hcw];exact hnone
 | some q =>
  obtain⟨e,j,f⟩:=q;by_cases hn:e.name≠d.name∨j≥(d.recs.rules.length:Int)
  ·rw[QK hcw hn];exact hnone
  have hcf:=Fs hcw;have hlo:=hcf.lo;have hlt:j.toNat<d.recs.rules.length:=by omega
  have hr:=List.getElem?_eq_getElem hlt;have hrm:=List.getElem_mem hlt;by_cases he:(Bp d.recs.rules[j.toNat] h.levels).2=0
  ·rw[Me hcw hn hr he];have h1:=hg.ru _ hrm;have h2:=PD h.levels h1;have h3:=Ls h.levels h1;have h4:=hE.ru d hd _ hrm;obtain⟨h5,h6⟩:=Jg hcw hm;have hni:=(Fj hg.din hg.fx).1;have hf0:=hg.fx.1;have hk:(d.fixed+1+d.ctors.length).toNat≤(CR d).toNat:=by unfold CR;omega
   have hnn:(CR d+1).toNat=(CR d).toNat+1:=by unfold CR;omega
   have t1:=Db a (CR d).toNat;have t2:=Db (a.take (CR d).toNat) (d.fixed+1+d.ctors.length).toNat;rw[List.take_take,Nat.min_eq_left hk] at t2;rw[Ch hy] at t1;simp only[Bb] at t1;have hlen:=(List.getElem?_eq_some_iff.1 hy).1;have u1:=DL (a.take (d.fixed+1+d.ctors.length).toNat) (Bp d.recs.rules[j.toNat] h.levels).1;have u2:=DL f (apply (Bp d.recs.rules[j.toNat] h.levels).1 (a.take (d.fixed+1+d.ctors.length).toNat));have hl1:(a.take (d.fixed+1+d.ctors.length).toNat).length≤(CR d).toNat:=by rw[List.length_take];omega
   have hl2:(a.drop ((CR d).toNat+1)).length+(CR d).toNat+1=a.length:=by rw[List.length_drop];omega
   have h7:okB (apply (apply (Bp d.recs.rules[j.toNat] h.levels).1 (a.take (d.fixed+1+d.ctors.length).toNat)) f)=true :=
    PA (KD (KD (LH h2) fun x hx=>LH (ha x (List.mem_of_mem_take hx))) fun x hx=>LH (h5 x hx).1) (by rw[u2,u1];omega)
   refine DM.put h7 fun s' hs'=>?_;obtain⟨h8,h9⟩:=hS.res _ _ _ _ hj Ao h7 hs';have u3:=DL (a.drop (CR d+1).toNat) (apply (apply (Bp d.recs.rules[j.toNat] h.levels).1 (a.take (d.fixed+1+d.ctors.length).toNat)) f);rw[hnn] at u3;refine DM.ok ⟨h8,by simp only;omega,by simp only;omega,fun x hx=>?_⟩;simp only[Option.some.injEq] at hx;subst hx;rw[hnn];exact⟨PA (KD (LH h7) fun x hx=>LH (ha x (List.mem_of_mem_drop hx))) Ao,h9,by omega⟩
  rw[Lv hcw hn hr he];exact hnone
variable (hW:kN S J cnt C n W)
include hW
theorem Zk {h:Tm}{a:List Tm}{s:σ}(hn:100≤n) (hj:J s) (ho:S.over s=false) (ha:∀x∈a,okB x=true) (hz:size h+Bb a+a.length+(C - cnt s)*4500≤90100000) (hf:size h+Bb a+a.length+(C - cnt s)*4501+100≤n+1) :
  DM (EY E S W n h a s) (YZ S J cnt C s (size h+Bb a+a.length)):=by
 have hC:=hS.hC;have hc:=hS.nov s hj ho;have hh:=size_pos h;have hnone:DM (.ok (none,s)) (YZ S J cnt C s (size h+Bb a+a.length)):=DM.ok ⟨hj,Nat.le_refl _,by simp only;omega,fun x hx=>by cases hx⟩;cases hu:QG E h with
 | false=>rw[JF hu];exact hnone
 | true =>
  obtain⟨i,d,h1,h2,hd,h3⟩:=Hh hu;have hg:=hE.g.all d hd;by_cases k1:(Bh E h.name).1.kind=1
  ·rw[I6 hu h3 k1];exact aW hS hj hc hg.vl (hE.vl d hd) ha Ao
  by_cases k5:(Bh E h.name).1.kind=5
  ·rw[IC hu h3 k5];by_cases hl:(a.length:Int)≤CR d
   ·rw[ON hl];exact hnone
   have hni:=(Fj hg.din hg.fx).1;have hf0:=hg.fx.1;have hlt:(CR d).toNat<a.length:=by unfold CR at *;omega
   have hy:=List.getElem?_eq_getElem hlt;have hym:=List.getElem_mem hlt;have hys:=En hym;rw[Qs hl hy];refine DM.chk (hW s _ ⟨hj,ha _ hym,fun _=>by omega,fun _=>by omega,by omega⟩) fun r hr=>⟨hr.ok,?_⟩;have hub:=hr.ub ho;have hsz:=hr.sz;have hle:=hr.le;refine DM.mono (bj hS hE hd hr.j Ao hr.ok ha (z:=Bb a+a.length+(cnt r.2 - cnt s)*4500) hy Ao Ao) fun q hq=>?_;obtain⟨q1,q2,q3,q4⟩:=hq;exact⟨q1,by omega,by omega,fun x hx=>by obtain⟨q5,q6,q7⟩:=q4 x hx;exact⟨q5,by omega,by omega⟩⟩
  by_cases k6:(Bh E h.name).1.kind=6
  ·obtain⟨k,f,h4,h5⟩:=h2.func k6;have hf3:d.funs[(Bh E h.name).1.item.toNat]?=some f:=by rw[h5];simpa using h4
   have hfm:=List.mem_of_getElem? h4;obtain⟨f1,f2,f3⟩:=hg.fu f hfm;rw[HK hu h3 k6 hf3];by_cases hl:(a.length:Int)<f.arity
   ·rw[J6 hl];exact hnone
   rw[KP hl];have hts:=Db a f.arity.toNat;refine DM.bind (Rn hS hE hW (V:=size h+Bb a+a.length - 1+(C - cnt s)*4500) (L:=60000000) Ao n f.tree (a.take f.arity.toNat) Bi s (size h+Bb a+a.length) (by have:=hE.fu d hd f hfm;omega) f3 Ao (by have:=hE.fu d hd f hfm;rw[List.length_take];omega) (by have:=hE.fu d hd f hfm;omega)
    ⟨hj,fun v hv=>ha v (List.mem_of_mem_take hv),HR,fun _ v hv=>by have:=En (List.mem_of_mem_take hv);omega,fun _ v hv=>by have:=En (List.mem_of_mem_take hv);omega,fun _=>?_,fun v hv=>by have:=En (List.mem_of_mem_take hv);omega,by have:size Bi=1:=rfl;omega⟩) fun q hq=>?_
   ·have:size Bi=1:=rfl;have:1≤a.length:=by omega
    omega
   have hub:=hq.ub ho;have hle:=hq.le;have hstop:DM (.ok (none,q.2)) (YZ S J cnt C s (size h+Bb a+a.length)):=DM.ok ⟨hq.j,hq.le,by simp only;omega,fun x hx=>by cases hx⟩;unfold Pf;cases hq1:q.1.1 with
   | none=>exact hstop
   | some bv =>
    obtain⟨b,vars⟩:=bv;obtain⟨o1,o2⟩:=hq.ok b vars hq1;simp only;cases hov:S.over q.2 with
    | true=>rw[if_pos rfl];exact hstop
    | false =>
     rw[if_neg Ap];have hc2:=hS.nov _ hq.j hov;refine DM.mono (dz hS (z:=Bb a+a.length) hq.j hc2 o1 o2 (by have:=(hq.vl b vars hq1).1;omega) (hq.vl b vars hq1).2 (fun x hx=>ha x (List.mem_of_mem_drop hx)) (by rw[List.length_drop];omega) Ao) fun r hr=>?_;obtain⟨q1,q2,q3,q4⟩:=hr;exact⟨q1,by omega,by omega,fun x hx=>by obtain⟨q5,q6,q7⟩:=q4 x hx;exact⟨q5,by omega,by omega⟩⟩
  rw[IS hu k1 k5 k6];exact hnone
end
theorem Fo {h:Tm}(ho:okB h=true) {i:Nat}(hi:(i:Int)<arity h.kind):∃x,h.kids[i]?=some x∧okB x=true∧size x<size h:=by
 obtain⟨k,j,n,l,ks⟩:=h;have hw:=(CP.1 ho).wt;simp only[Wt] at hw;simp only[Tm.kind] at hi;have hlt:i<ks.length:=by have:=hw.1;omega
 have hx:(Tm.mk k j n l ks).kids[i]?=some ks[i]:=List.getElem?_eq_getElem hlt;exact⟨ks[i],hx,GA ho hx,by have:=Ce (List.getElem?_eq_getElem hlt);simp only[size];omega⟩
section
variable {σ:Type}{S:Sys σ}{J:σ→Prop}{cnt:σ→Nat}{C:Nat}{E:List CK}
variable (hS:Xn S J cnt C) (hE:HQ E)
include hS
theorem km {β:Type}{s:σ}{x:Tm×Int}{k:Tm→σ→Out β}{q:β→Prop}(hj:J s) (hc:cnt s<1152921504606846976) (ho:okB x.1=true) (hk:∀s',J s'→cnt s'=cnt s+1→DM (k x.1 s') q):DM (S.put s x k) q :=
 DM.put ho fun s' hs'=>by obtain⟨h1,h2⟩:=hS.res _ _ _ _ hj hc ho hs';exact hk s' h1 h2
theorem ox {β:Type}{h:Tm}{a:List Tm}{s:σ}{k:Tm→σ→Out β}{q:β→Prop}(hj:J s) (hc:cnt s<1152921504606846976) (hh:okB h=true) (ha:∀x∈a,okB x=true) (hk:h.kind=5) (hl:a.length≠0) (hz:Bb a+a.length<500000000000)
  (hq:∀x s',J s'→cnt s'=cnt s+1→okB x=true→size x≤4096+Bb a+a.length→DM (k x s') q):DM (Nw S h a s k) q:=by
 obtain⟨b,hb,ho,hs⟩:=Fo hh (i:=1) (by rw[hk];decide);rw[Nw,hb];simp only;have hv:∀v∈a.take 1,okB v=true:=fun v hv=>ha v (List.mem_of_mem_take hv);have h1:=O0 ho hv (by rw[List.length_take];omega);have h2:=Ks ho hv;refine km hS hj hc h1 fun s' g1 g2=>?_;have h3:=Db a 1;have h4:=DL (a.drop 1) (CT b (a.take 1) 0).1;have h5:(a.drop 1).length≤a.length:=by rw[List.length_drop];omega
 exact hq _ s' g1 g2 (Kb h1 (fun x hx=>ha x (List.mem_of_mem_drop hx)) Ao) Ao
theorem ri {β:Type}{h:Tm}{a:List Tm}{s:σ}{k:Tm→σ→Out β}{q:β→Prop}(hj:J s) (hc:cnt s<1152921504606846976) (hh:okB h=true) (ha:∀x∈a,okB x=true) (hk:h.kind=11) (hz:Bb a+a.length<500000000000)
  (hq:∀x s',J s'→cnt s'=cnt s+1→okB x=true→size x≤4096+Bb a+a.length→DM (k x s') q):DM (Ua S h a s k) q:=by
 obtain⟨v,hv,ho,hs⟩:=Fo hh (i:=1) (by rw[hk];decide);obtain⟨b,hb,ho2,hs2⟩:=Fo hh (i:=2) (by rw[hk];decide);rw[Ua,hv,hb];simp only;have hvs:∀x∈[v],okB x=true:=fun x hx=>by rw[List.mem_singleton.1 hx];exact ho
 have h1:=O0 ho2 hvs Ap;have h2:=Ks ho2 hvs;refine km hS hj hc h1 fun s' g1 g2=>?_;have h4:=DL a (CT b [v] 0).1;exact hq _ s' g1 g2 (Kb h1 ha Ao) Ao
theorem oo {β:Type}{h p:Tm}{a:List Tm}{s:σ}{k:Tm→σ→Out β}{q:β→Prop}(hj:J s) (hc:cnt s<1152921504606846976) (hp:okB p=true) (ha:∀x∈a,okB x=true) (hk:h.kind=9∨h.kind=10) (h8:p.kind=8) (hz:size p+Bb a+a.length<540000000000)
  (hq:∀x s',J s'→cnt s'=cnt s+1→okB x=true→size x<size p+Bb a+a.length→DM (k x s') q):DM (Ms S h p a s k) q:=by
 have har:arity 8=3:=rfl;obtain⟨y,hy,ho,hs⟩:=Fo hp (i:=(1+h.kind - 9).toNat) (by rw[h8,har];omega);rw[Ms,hy];simp only;refine km hS hj hc ho fun s' g1 g2=>?_;have h4:=DL a y;exact hq (apply y a) s' g1 g2 (Kb ho ha Ao) Ao
include hE
theorem YH:∀n,kN S J cnt C n (EF E S n)
 | 0=>fun s t hp=>absurd hp.n1 Ao
 | n+1=>fun s t hp=>by
  have ih:=YH n;have hC:=hS.hC;cases ho:S.over s with
  | true=>rw[Y5 hp.ok ho];exact DM.ok ⟨hp.j,hp.ok,Nat.le_refl _,by simp,fun h=>absurd (ho.symm.trans h) Ap,fun _=>rfl⟩
  | false =>
   have hc:=hS.nov s hp.j ho;have hpm:=hp.pm ho;have hfu:=hp.fu ho;have hst:=size_pos t;have hss:=Fm t;obtain⟨oh,oa⟩:=Ga hp.ok;have hsame:∀s',J s'→cnt s≤cnt s'→cnt s'≤C+1+size t+(C - cnt s)*4500→DM (.ok (t,s')) (Vo S J cnt C s t):=fun s' g1 g2 g3 =>
    DM.ok ⟨g1,hp.ok,g2,by simp only;omega,fun _=>g3,fun e=>absurd (ho.symm.trans e) Ap⟩
   have cont:∀(x:Tm) (s':σ),J s'→okB x=true→cnt s+1≤cnt s'→size x≤size t+(cnt s' - cnt s)*4500→cnt s'≤C+1+size t+(C - cnt s)*4500→DM (EF E S n s' x) (Vo S J cnt C s t):=by
    intro x s' g1 g2 g3 g4 g5;refine DM.mono (ih s' x ⟨g1,g2,fun h=>by have:=hS.nov _ g1 h;omega,fun h=>by have:=hS.nov _ g1 h;omega,by omega⟩) fun r hr=>?_;have hle:=hr.le;have hsz:=hr.sz;refine⟨hr.j,hr.ok,by omega,by omega,fun _=>?_,fun e=>absurd (ho.symm.trans e) Ap⟩;cases hov:S.over s' with
    | true=>rw[hr.st hov];exact g5
    | false=>have:=hr.ub hov;have:=hS.nov _ g1 hov;omega
   cases hm:S.many (A9 t).2.length with
   | true=>rw[YY hp.ok ho hm];trivial
   | false =>
    by_cases k5:(A9 t).1.kind=5
    ·by_cases hl:(A9 t).2.length=0
     ·rw[Ol hp.ok ho hm k5 hl];exact hsame s hp.j (Nat.le_refl _) Ao
     obtain⟨b,hb,_⟩:=Fo oh (i:=1) (by rw[k5];decide);have e:=Q4 (E:=E) (n:=n) hp.ok ho hm k5 hl hb;rw[e];have hbt:=ox hS (k:=fun x s'=>EF E S n s' x) (q:=Vo S J cnt C s t) hp.j Ao oh oa k5 hl Ao fun x s' g1 g2 g3 g4=>cont x s' g1 g3 Ao Ao Ao;rw[Nw,hb] at hbt;exact hbt
    by_cases k11:(A9 t).1.kind=11
    ·obtain⟨v,hv,_⟩:=Fo oh (i:=1) (by rw[k11];decide);obtain⟨b,hb,_⟩:=Fo oh (i:=2) (by rw[k11];decide);rw[R0 (E:=E) (n:=n) hp.ok ho hm k11 hv hb];have hbt:=ri hS (k:=fun x s'=>EF E S n s' x) (q:=Vo S J cnt C s t) hp.j Ao oh oa k11 Ao fun x s' g1 g2 g3 g4=>cont x s' g1 g3 Ao Ao Ao;rw[Ua,hv,hb] at hbt;exact hbt
    by_cases k9:(A9 t).1.kind=9∨(A9 t).1.kind=10
    ·obtain⟨p,hpk,op,sp⟩:=Fo oh (i:=0) (by rcases k9 with h | h<;>rw[h]<;>decide);rw[OR (E:=E) (n:=n) hp.ok ho hm k9 hpk];refine DM.chk (ih s p ⟨hp.j,op,fun _=>by omega,fun _=>by omega,by omega⟩) fun r hr=>⟨hr.ok,?_⟩;have hub:=hr.ub ho;have hsz:=hr.sz;have hle:=hr.le;by_cases k8:r.1.kind=8
     ·have e:Px E S n (A9 t).1 (A9 t).2 r=Ms S (A9 t).1 r.1 (A9 t).2 r.2 fun x s'=>EF E S n s' x:=by rw[Px,if_neg Ao]
      rw[e];exact oo hS hr.j Ao hr.ok oa k9 k8 Ao fun x s' g1 g2 g3 g4=>cont x s' g1 g3 Ao Ao Ao
     rw[Lm k8];have h4:=DL (A9 t).2 (Ip (A9 t).1.kind r.1);have h5:size (Ip (A9 t).1.kind r.1)=1+size r.1:=by simp only[Ip,size,Bb];omega
     have h6:1+size p≤size (A9 t).1:=by omega
     exact DM.ok ⟨hr.j,Kb (jI k9 hr.ok Ao) oa Ao,hle,by simp only;omega,fun _=>by simp only;omega,fun e=>absurd (ho.symm.trans e) Ap⟩
    by_cases k3:(A9 t).1.kind=3
    ·rw[Ka (E:=E) (n:=n) hp.ok ho hm k3];refine DM.bind (Zk hS hE ih Ao hp.j ho oa Ao Ao) fun r hr=>?_;have hub:=hr.ub;unfold Yr;cases hr1:r.1 with
     | none=>exact hsame r.2 hr.j hr.le Ao
     | some x =>
      obtain⟨g1,g2,g3⟩:=hr.ok x hr1;exact cont x r.2 hr.j g1 g2 Ao Ao
    rw[V3 (E:=E) (n:=n) hp.ok ho hm k5 k11 (fun h=>k9 (.inl h)) (fun h=>k9 (.inr h)) k3];exact hsame s hp.j (Nat.le_refl _) Ao
end
def U1:Tm→List Int→Tm→Prop
 | t,[],v=>t=v
 | t,p::ps,v=>∃y,(A9 t).2[p.toNat]?=some y∧U1 y ps v
theorem S1 {k:Int}{w:Tm}:∀{ps:List Int}{t v:Tm},U1 t ps v→(A9 v).2[k.toNat]?=some w→U1 t (ps++[k]) w
 | [],t,v,h,hw=>by cases h;exact⟨w,hw,rfl⟩
 | p::ps,t,v,⟨y,h1,h2⟩,hw=>⟨y,h1,S1 h2 hw⟩
structure eL (a vars:List Tm) (pl:List (Int×List Int)):Prop where
 len:pl.length=vars.length
 at_:∀(i:Nat) v,vars[i]?=some v→∃j path y,pl[i]?=some (j,path)∧a[j.toNat]?=some y∧U1 y path v
theorem Kq (p:Int×List Int) (fx:Int) (n:Nat):(Ee p fx n).length=n:=by simp[Ee]
theorem eL.more {a vars:List Tm}{pl:List (Int×List Int)}(h:eL a vars pl) {i:Nat}{v:Tm}{p:Int×List Int}(hv:vars[i]?=some v) (hp:pl[i]?=some p) {fx:Int}(hfx:0≤fx):eL a (vars++(A9 v).2.drop fx.toNat) (pl++Ee p fx ((A9 v).2.drop fx.toNat).length):=by
 refine⟨by rw[List.length_append,List.length_append,h.len,Kq],fun q w hw=>?_⟩;by_cases hq:q<vars.length
 ·rw[List.getElem?_append_left hq] at hw;rw[List.getElem?_append_left (by rw[h.len];exact hq)];exact h.at_ q w hw
 rw[List.getElem?_append_right Ao] at hw;rw[List.getElem?_append_right (by rw[h.len];omega),h.len];obtain⟨j,path,y,h1,h2,h3⟩:=h.at_ i v hv;rw[hp] at h1;cases h1;have hlt:=(List.getElem?_eq_some_iff.1 hw).1;rw[List.getElem?_drop] at hw;refine⟨j,path++[fx+((q - vars.length:Nat):Int)],y,?_,h2,S1 h3 (by rw[show (fx+((q - vars.length:Nat):Int)).toNat=fx.toNat+(q - vars.length) by omega];exact hw)⟩;rw[Ee,List.getElem?_map,List.getElem?_range hlt];rfl
theorem a8 (a:List Tm) (n:Nat) (hn:n≤a.length):eL a (a.take n) ((List.range n).map fun i:Nat=>((i:Int),[])):=by
 refine⟨by simp;omega,fun i v hv=>?_⟩;have hlt:=(List.getElem?_eq_some_iff.1 hv).1;rw[List.length_take] at hlt;rw[List.getElem?_take_of_lt Ao] at hv;exact⟨(i:Int),[],v,by rw[List.getElem?_map,List.getElem?_range Ao];rfl,by simpa using hv,rfl⟩
section
variable {σ:Type}{S:Sys σ}{J:σ→Prop}{cnt:σ→Nat}{C:Nat}{E:List CK}
structure sg (S:Sys σ) (J:σ→Prop) (cnt:σ→Nat) (s:σ) (z:Nat) (r:Option Tm×σ):Prop where
 j:J r.2
 le:cnt s≤cnt r.2
 ub:cnt r.2≤cnt s+1
 ok:∀x,r.1=some x→okB x=true∧size x≤z+4500
variable (hS:Xn S J cnt C) (hE:HQ E)
omit hS hE in
include hS
include hE
end
section
variable {σ:Type}{S:Sys σ}{J:σ→Prop}{cnt:σ→Nat}{C:Nat}{E:List CK}
variable (hS:Xn S J cnt C) (hE:HQ E)
include hS hE
theorem Qi:∀(n:Nat) (s:σ) (t:Tm),J s→okB t=true→cnt s≤90200000→(S.over s=false→size t+(C - cnt s)*4500≤90100000)→size t+(90200000 - cnt s)*4501+200≤n→DM (EI E S n s t) (fun _=>True)
 | 0,s,t,_,_,_,_,h=>absurd h Ao
 | n+1,s,t,hj,ho,hc,hp,hn=>by
  have hC:=hS.hC;have hst:=size_pos t;rw[EI];refine DM.chk (YH hS hE n s t ⟨hj,ho,hp,fun h=>by have:=hp h;omega,by omega⟩) fun r hr=>⟨hr.ok,?_⟩;have hle:=hr.le;have hsz:=hr.sz;have hcr:cnt r.2≤90200000:=by
   cases h:S.over s with
   | true=>rw[hr.st h];exact hc
   | false=>have:=hr.ub h;have:=hp h;omega
  have hnv:S.over r.2=false→S.over s=false∧cnt r.2≤C∧size r.1+(C - cnt r.2)*4500≤90100000:=fun h=>by
   have h1:S.over s=false:=by
    cases h2:S.over s with
    | true=>rw[hr.st h2,h2] at h;exact h
    | false=>rfl
   have h3:=hS.nov _ hr.j h;have:=hp h1;exact⟨h1,h3,by omega⟩
  have hss:=Fm r.1;obtain⟨oh,oa⟩:=Ga hr.ok;have go:∀p,okB p=true→size p<size r.1→DM (EI E S n r.2 p) (fun _=>True):=fun p g1 g2 =>
   Qi n r.2 p hr.j g1 hcr (fun h=>by have:=(hnv h).2.2;omega) Ao
  have hok:∀(x:Option Int) (s':σ),DM (.ok (x,s')) (fun _:Option Int×σ=>True):=fun _ _=>trivial;have hhp:=size_pos (A9 r.1).1;split
  ·exact hok _ _
  split
  ·rename_i k9;obtain⟨p,hpk,op,sp⟩:=Fo oh (i:=0) (by rcases k9 with h | h<;>rw[h]<;>decide);rw[hpk];exact go p op Ao
  split
  ·cases hu:QG E (A9 r.1).1 with
   | false=>rw[Cm,hu];exact hok _ _
   | true =>
    obtain⟨i,d,h1,h2,hd,h3⟩:=Hh hu;have hg:=hE.g.all d hd;have hda:Cb E (Bh E (A9 r.1).1.name).1.decl=d:=CJ h3;rw[Cm,hu,if_pos rfl];simp only[hda];split
    ·exact hok _ _
    rename_i hov;have hov:S.over r.2=false:=by simpa using hov
    obtain⟨hs0,hcC,hP⟩:=hnv hov;split
    ·rename_i hr5;have hni:=(Fj hg.din hg.fx).1;have hf0:=hg.fx.1;have hlt:(CR d).toNat<(A9 r.1).2.length:=by have:=hr5.2;unfold CR at *;omega
     have hy:=List.getElem?_eq_getElem hlt;have hym:=List.getElem_mem hlt;have hys:=En hym;rw[CJ hy];exact go _ (oa _ hym) Ao
    split
    ·rename_i hr6;obtain⟨k,f,h4,h5⟩:=h2.func hr6.1;have hfa:E2 d (Bh E (A9 r.1).1.name).1.item=f:=CJ (by rw[h5];simpa using h4);have hfm:=List.mem_of_getElem? h4;obtain⟨f1,f2,f3⟩:=hg.fu f hfm;have hdep:=hE.fu d hd f hfm;rw[hfa] at hr6 ⊢;have hmem:∀v∈(A9 r.1).2.take f.arity.toNat,size v<size r.1:=fun v hv=>by have:=En (List.mem_of_mem_take hv);omega
     have hz1:size Bi=1:=rfl;refine DM.bind (Rn hS hE (YH hS hE n) (V:=size r.1 - 1+(C - cnt r.2)*4500) (L:=60000000) Ao n f.tree _ Bi r.2 (size r.1 - 1) Ao f3 Ao (by rw[List.length_take];omega) (by have:=Db (A9 r.1).2 f.arity.toNat;omega)
      ⟨hr.j,fun v hv=>oa v (List.mem_of_mem_take hv),HR,fun _ v hv=>by have:=hmem v hv;omega,fun _ v hv=>by have:=hmem v hv;omega,fun _=>⟨by omega,by omega⟩,fun v hv=>by have:=hmem v hv;omega,by omega⟩) fun q hq=>?_
     cases hq1:q.1.1 with
     | some b=>exact hok _ _
     | none =>
      simp only;split
      ·rename_i hq2;have hlz:=hq.lz hq1;have hlm:=hq.lm hq2.1 hq1;have hle2:=hq.le;have hub2:=hq.ub hov;have:=hS.nov _ hq.j hq2.1;exact Qi n q.2 q.1.2 hq.j hq.lok Ao (fun _=>by omega) Ao
      exact hok _ _
    exact hok _ _
  exact hok _ _
end
def kW (c:EL):Prop:=c.limit=1000∧0≤c.steps∧(c.over=false→c.steps≤1000)
theorem jc:Xn DD kW (fun c=>c.steps.toNat) 1000:=by
 refine⟨fun c h ho=>?_,fun c t e c' h hc ho hr=>?_,by omega⟩
 ·have h1:=h.2.1;have h2:=h.2.2 ho;omega
 simp only[DD,Option.some.injEq] at hr;subst hr;obtain⟨h1,h2,h3⟩:=h;have hw:wr (c.steps+1)=c.steps+1:=Eb (by unfold I2;omega);simp only[EL.result,EL.form,kW,hw,h1];refine⟨⟨Aq,by omega,fun ho=>?_⟩,by omega⟩;simp only[Bool.or_eq_false_iff,decide_eq_false_iff_not] at ho;omega
def HE (n:Int):Prop:=0≤n∧n≤20000
theorem gb:Xn B5 HE (fun n=>(20000 - n).toNat) 20000:=by
 refine⟨fun n h _=>?_,fun n t e n' h hc ho hr=>?_,by omega⟩
 ·have:=h.1;omega
 simp only[B5] at hr;split at hr
 ·cases hr
 cases hr;unfold HE at *;omega
theorem N4 {E:List CK}{nm:ByteArray}(h:(Cg E nm).2.2=true):HU E nm=some ((Cg E nm).1,(Cg E nm).2.1):=by
 unfold Cg at h ⊢;split at h
 ·rename_i d j e;rw[e]
 cases h
theorem iA {E:List CK}{nm:ByteArray}(h:(Cg E nm).2.2=false):HU E nm=none:=by
 unfold Cg at h;split at h
 ·cases h
 rename_i e;exact e
theorem XO {E:List CK}{nm:ByteArray}(hE:Ja E) (h:(Cg E nm).2.2=true) (hj:¬(Cg E nm).2.1<0):Nn (Cg E nm).1∧(0≤(Cg E nm).1.fixed∧(Cg E nm).1.fixed≤1000000)∧0≤(Cg E nm).2.1∧(Cg E nm).2.1<(Cg E nm).1.ctors.length:=by
 obtain⟨h1,h2⟩:=Ti (N4 h);exact⟨(hE.all _ h1).din,(hE.all _ h1).fx,by omega,h2 Ao⟩
section
variable {E:List CK}{t:Tm}{k i:Int}{n:ByteArray}{ls:List CZ}{ks:List Tm}
theorem Yg (hz:(A9 t).1= .mk k i n ls ks) (h:k≠3):DE E t=none:=by
 have hk:(A9 t).1.kind=k:=by rw[hz];rfl
 unfold DE;rw[if_pos Ao]
theorem Yt (hz:(A9 t).1= .mk k i n ls ks) (h3:k=3) (h:(Cg E n).2.2=false∨(Cg E n).2.1<0):DE E t=none:=by
 have hk:(A9 t).1.kind=k:=by rw[hz];rfl
 have hnm:(A9 t).1.name=n:=by rw[hz];rfl
 unfold DE;rw[if_neg Ao,hnm];cases hf:(Cg E n).2.2 with
 | false=>rw[iA hf]
 | true =>
  rw[N4 hf];rcases h with h | h
  ·rw[hf] at h;cases h
  simp only[if_pos h]
theorem ZE (hz:(A9 t).1= .mk k i n ls ks) (h3:k=3) (hf:(Cg E n).2.2=true) (hj:¬(Cg E n).2.1<0) (h:((A9 t).2.length:Int)≠(Cg E n).1.fixed+FQ (Cg E n).1 (Cg E n).2.1):DE E t=none:=by
 have hk:(A9 t).1.kind=k:=by rw[hz];rfl
 have hnm:(A9 t).1.name=n:=by rw[hz];rfl
 unfold DE;rw[if_neg Ao,hnm,N4 hf];simp only[if_neg hj,if_pos h]
theorem cN (hz:(A9 t).1= .mk k i n ls ks) (h3:k=3) (hf:(Cg E n).2.2=true) (hj:¬(Cg E n).2.1<0) (h:((A9 t).2.length:Int)=(Cg E n).1.fixed+FQ (Cg E n).1 (Cg E n).2.1):DE E t=some ((Cg E n).1,(Cg E n).2.1,(A9 t).2.drop (Cg E n).1.fixed.toNat):=by
 have hk:(A9 t).1.kind=k:=by rw[hz];rfl
 have hnm:(A9 t).1.name=n:=by rw[hz];rfl
 unfold DE;rw[if_neg Ao,hnm,N4 hf];simp only[if_neg hj,if_neg (show ¬((A9 t).2.length:Int)≠(Cg E n).1.fixed+FQ (Cg E n).1 (Cg E n).2.1 by omega)]
end
theorem NZ {d:CK}{j:Int}(h:Nn d) (h0:0≤j) (h1:j<d.ctors.length) (hf:0≤d.fixed):0≤FQ d j∧FQ d j≤1000000:=by
 have hlt:j.toNat<d.ctors.length:=by omega
 have hx:=List.getElem?_eq_getElem hlt;have hs:=(h.cs _ (List.getElem_mem hlt)).ty.sz;have hl:=IQ d.ctors[j.toNat].type;unfold FQ XI Ed;rw[CJ hx];omega
section
variable {E:List CK}{t:Tm}{k i:Int}{n:ByteArray}{ls:List CZ}{ks:List Tm}
theorem gw (hz:(A9 t).1= .mk k i n ls ks) (h3:k=3) (h:(Cg E n).2.2=false∨(Cg E n).2.1<0∨((A9 t).2.length:Int)≠(Cg E n).1.fixed+FQ (Cg E n).1 (Cg E n).2.1):DE E t=none:=by
 by_cases h1:(Cg E n).2.2=false∨(Cg E n).2.1<0
 ·exact Yt hz h3 h1
 rcases h with h | h | h
 ·exact absurd (.inl h) h1
 ·exact absurd (.inr h) h1
 exact ZE hz h3 (by simpa using fun e=>h1 (.inl e)) (fun e=>h1 (.inr e)) h
end
theorem Ro {d:CK}{j:Int}{x:Ib}(hx:d.ctors[j.toNat]?=some x) (hf:0≤d.fixed):d.fixed+FQ d j=max d.fixed (((HA x.type).1.length:Nat):Int):=by
 unfold FQ XI Ed;rw[CJ hx];omega
def CL (E:List CK) (t:Tm):CK×Int×List Tm×Bool:=match DE E t with
 | some (d,j,l)=>(d,j,l,true)
 | none=>(Wu,0,[],false)
theorem MW {E:List CK}{t:Tm}(h:DE E t=none):CL E t=(Wu,0,[],false):=by unfold CL;rw[h]
theorem QO {E:List CK}{t:Tm}{d:CK}{j:Int}{l:List Tm}(h:DE E t=some (d,j,l)):CL E t=(d,j,l,true):=by unfold CL;rw[h]
theorem MK {E:List CK}{t:Tm}(h:(CL E t).2.2.2=true):DE E t=some ((CL E t).1,(CL E t).2.1,(CL E t).2.2.1):=by
 cases e:DE E t with
 | none=>rw[MW e] at h;cases h
 | some q=>obtain⟨d,j,l⟩:=q;rw[QO e]
theorem OB {E:List CK}{t:Tm}(h:(CL E t).2.2.2=false):DE E t=none:=by
 cases e:DE E t with
 | none=>rfl
 | some q=>obtain⟨d,j,l⟩:=q;rw[QO e] at h;cases h
end Go.Eu
namespace Go.Eu
def Mp (nm:ByteArray):List GD→Int→Int
 | [],_=> -1
 | b::l,i=>if b.ctor=nm then i else Mp nm l (i+1)
theorem iv {nm:ByteArray}{l:List GD}{i:Nat}{x:GD}{k:Int}(h:l[i]?=some x) (e:x.ctor.toList=nm.toList):Mp nm (l.drop i) k=k:=by
 rw[Ch h,Mp,if_pos (Gq e)]
theorem lE {nm:ByteArray}{l:List GD}{i:Nat}{x:GD}{k:Int}(h:l[i]?=some x) (e:¬x.ctor.toList=nm.toList):Mp nm (l.drop i) k=Mp nm (l.drop (i+1)) (k+1):=by
 rw[Ch h,Mp,if_neg (fun q=>e (by rw[q]))]
theorem Xr {nm:ByteArray}:∀(l:List GD) (k:Int),0≤k→Mp nm l k<0∧Cp nm l=none∨∃(j:Nat) (x:GD),Mp nm l k=k+j∧l[j]?=some x∧Cp nm l=if x.absurd=true then none else some x.tree
 | [],k,h=> .inl ⟨by simp[Mp],rfl⟩
 | b::l,k,h=>by
  rw[Mp,Cp];split
  ·exact .inr ⟨0,b,by simp,rfl,rfl⟩
  rcases Xr l (k+1) Ao with h1 | ⟨j,x,h1,h2,h3⟩
  ·exact .inl h1
  exact .inr ⟨j+1,x,by rw[h1];push_cast;omega,by simpa using h2,h3⟩
theorem eD {nm:ByteArray}{l:List GD}(h:Mp nm l 0<0):Cp nm l=none:=by
 rcases Xr (nm:=nm) l 0 Ao with h1 | ⟨j,x,h1,h2,h3⟩
 ·exact h1.2
 omega
theorem lC {nm:ByteArray}{l:List GD}(h:¬Mp nm l 0<0):∃x,l[(Mp nm l 0).toNat]?=some x∧Cp nm l=if x.absurd=true then none else some x.tree:=by
 rcases Xr (nm:=nm) l 0 Ao with h1 | ⟨j,x,h1,h2,h3⟩
 ·exact absurd h1.1 h
 exact⟨x,by rw[h1];simpa using h2,h3⟩
end Go.Eu
namespace Go.Eu
open Go.Abs
theorem dS {nm:ByteArray}:∀{l:List GD}{t:FJ},Cp nm l=some t→M8 l→Hq t
 | .mk c a q::l,t,h,ho=>by
  simp only[M8,R6] at ho;rw[Cp] at h;split at h
  ·split at h
   ·cases h
   cases h;exact ho.1.2
  exact dS h ho.2
theorem pT {nm:ByteArray}{t t':FJ}(h:Cp nm t.branches=some t') (ho:Hq t):Hq t':=dS h ho.bs
def I9 (q:Option (Tm×List Tm)×Tm):Tm:=match q.1 with
 | some (b,_)=>b
 | none=>Bi
def ML (q:Option (Tm×List Tm)×Tm):List Tm:=match q.1 with
 | some (_,v)=>v
 | none=>[]
structure SO (y:FJ) (us:List Tm):Prop where
 tin:Hq y
 tok:Fg y
 len:us.length+Dz y*1000000≤100000000
 ok:∀v∈us,okB v=true
theorem SO.next {E:List CK}{y q:FJ}{us f:List Tm}{x:Tm}{nm:ByteArray}{d:CK}{j:Int}(h:SO y us) (hE:Ja E) (hx:okB x=true) (hc:DE E x=some (d,j,f)) (hb:Cp nm y.branches=some q):SO q (us++f):=by
 obtain⟨h1,h2⟩:=X9 hb h.tok;have h3:=JI hE hc;have h4:=h.len;refine⟨pT hb h.tin,h1,by rw[List.length_append];omega,fun v hv=>?_⟩;rcases List.mem_append.1 hv with hv | hv
 ·exact h.ok v hv
 exact((Jg hc hx).1 v hv).1
def Xw:FJ:= .mk 0 Bi 0 []
def YL (nm:ByteArray):List GD→FJ×Bool
 | []=>(Xw,false)
 | b::l=>if b.ctor=nm then (b.tree,!b.absurd) else YL nm l
theorem ek {nm:ByteArray}{l:List GD}{i:Nat}{x:GD}(h:l[i]?=some x):YL nm (l.drop i)=if x.ctor=nm then (x.tree,!x.absurd) else YL nm (l.drop (i+1)):=by rw[Ch h,YL]
theorem dJ (nm:ByteArray):∀(l:List GD),Cp nm l=if (YL nm l).2=true then some (YL nm l).1 else none
 | []=>rfl
 | b::l=>by
  rw[Cp,YL];split
  ·cases b.absurd<;>rfl
  exact dJ nm l
theorem cJ {nm:ByteArray}{l:List GD}(h:(YL nm l).2=true):Cp nm l=some (YL nm l).1:=by rw[dJ,if_pos h]
theorem cA {nm:ByteArray}{l:List GD}(h:(YL nm l).2=false):Cp nm l=none:=by rw[dJ,if_neg (by simp[h])]
def bM (nm:ByteArray) (l:List GD):FJ×Bool:=match Cp nm l with
 | some q=>(q,true)
 | none=>(Xw,false)
theorem cr {nm:ByteArray}{l:List GD}(h:Cp nm l=none):bM nm l=(Xw,false):=by unfold bM;rw[h]
theorem e6 {nm:ByteArray}{l:List GD}{q:FJ}(h:Cp nm l=some q):bM nm l=(q,true):=by unfold bM;rw[h]
theorem Wj {nm:ByteArray}{l:List GD}(h:(bM nm l).2=true):Cp nm l=some (bM nm l).1:=by
 cases e:Cp nm l with
 | none=>rw[cr e] at h;cases h
 | some q=>rw[e6 e]
theorem V9 {nm:ByteArray}{l:List GD}(h:(bM nm l).2=false):Cp nm l=none:=by
 cases e:Cp nm l with
 | none=>rfl
 | some q=>rw[e6 e] at h;cases h
end Go.Eu
namespace Go.Proofs.YtboammbpdaoojaaGreat
open Go.Abs Go.Eu
theorem _root_.Go.AR {α:Prop}(h:α:=by simp only[BS,List.length_map];omega):α:=h
theorem Vt:∀(ds:List CK) (t:Tm),(Ja ds)→(okB t=true)→Ec Tryz.prog 49 [.p (.lst (List.map Bk ds)),.agg ((BO t).map .p)] (.tup [.agg ((Bk ((CL ds t).1)).map .p),.p (I ((CL ds t).2.1)),.p (.lst (BE ((CL ds t).2.2.1))),.p (.bool ((CL ds t).2.2.2))]):=by
 intro ds t h1 h2;have ho:=CP.1 h2;have hosz:=ho.sz;have hoss:=Fm t;have hosl:=PM t;have hosp:=Ga h2;refine A6 Tryz.func49 O rk (n:=54) O O (Az (BG O (BP O) fun b3=>BG O (A8 JK O) fun b4=>As Ay 3 [] O (Az (Ar O (BU (i:=1) Ba O O Ah) (Ar O (BF O O (SI _ t (Nat.le_refl _) Aa) O) (Ax Ay 3 [] O (BG O (A8 Bz O) fun b8=>As Ay 2 [0,1] O (Au (Az (Ar O (A0 G8 O O) ?_))))))))));generalize hz:(A9 t).1=z;obtain⟨zk,zi,zn,zl,zs⟩:=z;refine As Ay 2 [0] O (Aw O (fun c=>?_) (fun c=>?_))
 ·(try simp only[sd,se] at c);refine Av Ay 5 [1,0] O (BI (BT (i:=1) O) (BI (EB 6) (A1 (⟨O,_,_,⟨_,_,O,(BB (i:=1) FM O O O),⟨_,_,O,O,⟨_,_,O,O,⟨_,_,O,O,O⟩⟩⟩⟩,(List.nil_sublist _),?_⟩))))
  all_goals exact⟨by show (.tup [.agg [.p (I 0),.p (.str ⟨#[]⟩),.p (I 0),.p (I 0),.p (I 0),.p (.str ⟨#[]⟩),.p (.lst []),.p (.lst []),.p (I 0),.p (I 0),.p (.str ⟨#[]⟩),.p (.lst []),.p (.lst []),.p (I 0),.p (.lst []),.p (I 0),.p (I 0),.p (I 0),.p (.str ⟨#[]⟩),.p (.lst []),.p (.lst []),.p (.lst []),.p (.lst [])],.p (I 0),.p (.lst (BE [])),.p (.bool false)]:AV)=_;rw[MW (Yg hz c)];rfl,rfl⟩
 (try simp only[sd,se] at c);refine A2 (Az (Ax Ay 3 [0] O (Ar O (BF O O (Qy ds zn h1.env) O) (Ax Ay 4 [] O (BG O (A8 JK O) fun b10=>As Ay 3 [0,1] O (Au (Au (BR [4,9,10,11] 46 (fun y=>y= .p (.bool (((!((Cg ds zn).2.2))||(decide (((Cg ds zn).2.1:Int)<(0:Int))))||(((((A9 t).2).length:Nat):Int) !=((((Cg ds zn).1).fixed:Int)+(FQ (Cg ds zn).1 (Cg ds zn).2.1:Int):Int))))) ?_ ?_))))))))
 ·refine Bu (fun k=>false) Dt (BQ Ay 3 [] O (Dx 32 O (fun g=>?_) (fun g=>?_)))
  ·(try simp only[sd,se] at g);exact Bn Ay 14 [] O (⟨O,O,AK,AI,⟨O,O,O,O,Aq⟩⟩)
  (try simp only[sd,se] at g);have hf1:(Cg ds zn).2.2=true:=by simpa using g
  refine BQ Ay 4 [] O (Dx 36 O (fun g1=>?_) (fun g1=>?_))
  ·(try simp only[sd,se] at g1);exact Bn Ay 10 [] O (⟨O,O,AK,AI,⟨O,O,O,O,Aq⟩⟩)
  (try simp only[sd,se] at g1);have hf2:¬(Cg ds zn).2.1<0:=by simpa using g1
  have hfd:=XO h1 hf1 hf2;have hfr:=NZ hfd.1 hfd.2.2.1 hfd.2.2.2 hfd.2.1.1;have hfx:=hfd.2.1;exact Cc O (fun _=>BZ O) Aq (Cc O (fun _=>BM Bf O (BS _)) Aq (Cc O (fun _=>A0 Cy O O) Aq (Lo (i:=0) O O O O O (fun H i hi=>A3 (i:=i) DH O hi (Co _)) AB Aq (BQ Ay 2 [0] O (Cc O (fun _=>BF O O (bA ((Cg ds zn).1) ((Cg ds zn).2.1) hfd.1 hfd.2.1 hfd.2.2.1 hfd.2.2.2) O) Aq (Bn Ay 3 [] O (⟨O,O,AK,AI,⟨O,O,O,O,Aq⟩⟩)))))))
 rintro _ rfl;refine Aw O (fun c1=>?_) (fun c1=>?_)
 ·(try simp only[sd,se] at c1);have hcc:=or_assoc.1 c1;refine Av Ay 5 [2,0] O (BI (BT (i:=2) O) (BI (EB 6) (A1 (⟨O,_,_,⟨_,_,O,(BB (i:=2) FM O O O),⟨_,_,O,O,⟨_,_,O,O,⟨_,_,O,O,O⟩⟩⟩⟩,(List.nil_sublist _),?_⟩))))
  all_goals exact⟨by show (.tup [.agg [.p (I 0),.p (.str ⟨#[]⟩),.p (I 0),.p (I 0),.p (I 0),.p (.str ⟨#[]⟩),.p (.lst []),.p (.lst []),.p (I 0),.p (I 0),.p (.str ⟨#[]⟩),.p (.lst []),.p (.lst []),.p (I 0),.p (.lst []),.p (I 0),.p (I 0),.p (I 0),.p (.str ⟨#[]⟩),.p (.lst []),.p (.lst []),.p (.lst []),.p (.lst [])],.p (I 0),.p (.lst (BE [])),.p (.bool false)]:AV)=_;rw[MW (gw hz (by simpa using c) hcc)];rfl,rfl⟩
 (try simp only[sd,se] at c1);have hcc:(Cg ds zn).2.2=true∧¬(Cg ds zn).2.1<0∧((A9 t).2.length:Int)=(Cg ds zn).1.fixed+FQ (Cg ds zn).1 (Cg ds zn).2.1:=⟨c1.1.1,by omega,c1.2⟩;have hfd:=XO h1 hcc.1 hcc.2.1;have hfr:=NZ hfd.1 hfd.2.2.1 hfd.2.2.2 hfd.2.1.1;have hfx:=hfd.2.1;have hl3:=hcc.2.2;refine A2 (Au (Bu (fun k=>false) Dt (BQ Ay 4 [0] O (CX (j:=0) O O O (fun H i hi=>A3 (i:=i) DH O hi (Co _)) AB Aq (BH O (fun _=>Ca (lo:=(((Cg ds zn).1).fixed:Int).toNat) Bf O (CF (Bw _)) ⟨_,pI Ao⟩ O AR (Nat.le_refl _) (Ju ((A9 t).2) ((((Cg ds zn).1).fixed:Int).toNat))) Aq (Bn Ay 4 [2,1] O (A1 (⟨O,_,_,⟨_,_,O,(BB (i:=2) FM O O Ae),⟨_,_,O,O,⟨_,_,O,O,⟨_,_,O,O,O⟩⟩⟩⟩,(List.nil_sublist _),?_⟩))))))))
 all_goals exact⟨by show (.tup [.agg ((Bk ((Cg ds zn).1)).map .p),.p (I ((Cg ds zn).2.1)),.p (.lst (BE (((A9 t).2).drop ((((Cg ds zn).1).fixed:Int).toNat)))),.p (.bool true)]:AV)=_;rw[QO (cN hz (by simpa using c) hcc.1 hcc.2.1 hcc.2.2)],rfl⟩
theorem ll:∀(l b1 b2:Nat) (d:CK) (at_:Int) (nm:ByteArray) (TA:GV→List BJ) (T0:List BJ),(d.kind=0∨Nn d)→(∀s e,(s,e)∈FX d at_→MD Tryz.prog l [.p (.str s),.agg ((DN e).map .p)] T0 (VM (.p (.bool (!decide (s=nm)))) (fun T=>T=if s=nm then TA e else T0)))→Bq Tryz.prog 170 [.fn (.yield l) [] [],.ptr b2 0,.ptr b1 0] (.box b1 ((Bk d).map .p):: .box b2 [.p (I at_)]::T0) (VM (.tup []) (fun H=>∃T,T=Iu TA T0 nm (FX d at_)∧H= .box b1 ((Bk d).map .p):: .box b2 [.p (I at_)]::T)):=by
 intro l b1 b2 d at_ nm TA T0 h1 h2;refine A6 Tryz.func170 O nN (n:=98) O O (Az (Ax Ay 2 [1] O (Ar O (A3 (i:=0) DH O O (Cq _)) (Ar O (A0 Cy O O) (Ar O (By (i:=0) Ba O O (E6 _) (BD _)) (Ar O (CO Fe Hk (dv O O O)) (BG O (A8 Hk O) fun b4=>As Ay 1 [0,1] O (Az (Ar O (A0 Cy O O) (Ar O (A3 (i:=1) DH O O (D3 _)) (Bj O (BA (Au (Av Ay 2 [] O (BR [0,1,2,4,16] 17 (fun y=>y= .p (.bool (decide (d.kind=0∨d.kind=1∨d.kind=2)))) ?_ ?_)))))))))))))))
 ·refine Aw O (fun c=>?_) (fun c=>?_)
  ·(try simp only[sd,se] at c);exact A2 (⟨O,O,(List.Sublist.refl _),(by refine pB (Bool.eq_iff_iff.2 ?_);simp only[beq_iff_eq,decide_eq_true_eq];omega),⟨O,O,O,O,O,Aq⟩⟩)
  (try simp only[sd,se] at c);refine Av Ay 2 [] O (Aw O (fun c1=>?_) (fun c1=>?_))
  ·(try simp only[sd,se] at c1);exact A2 (⟨O,O,(List.Sublist.refl _),(by refine pB (Bool.eq_iff_iff.2 ?_);simp only[beq_iff_eq,decide_eq_true_eq];omega),⟨O,O,O,O,O,Aq⟩⟩)
  (try simp only[sd,se] at c1);exact A4 (As Ay 2 [] O (⟨O,O,(List.Sublist.refl _),(by refine pB (Bool.eq_iff_iff.2 ?_);simp only[beq_iff_eq,decide_eq_true_eq];omega),⟨O,O,O,O,O,Aq⟩⟩))
 rintro _ rfl;refine Aw O (fun c=>?_) (fun c=>?_)
 ·(try simp only[sd,se] at c);have hx0:([0,1,2]:List Int)[d.kind.toNat]?=some d.kind:=by
   have:d.kind=0∨d.kind=1∨d.kind=2:=by simpa using c
   rcases this with e | e | e<;>rw[e]<;>rfl
  have hk0:0≤d.kind∧d.kind<3:=by
   have:d.kind=0∨d.kind=1∨d.kind=2:=by simpa using c
   omega
  refine Az (Ar O (Bo Hp hG O O O O O) (Ar O (A0 Cy O O) (Ar O (A3 (i:=1) DH O O (D3 _)) (Ar O (A5 Hp O O Ao (L9 hx0) (O)) (Ax Ay 2 [] O (Ar O (D2 (i:=0) (ds:=(DN (GV.mk d.kind at_ 0 d.params d.type)).map .p) DH O O O O O O O) (Bj O (A4 (Ax Ay 2 [] O (Ar O (A3 (i:=1) Lu O O (DP _)) (Ar O (BU (i:=0) LS O O Af) (JA [_,_,_] O O O O (h2 _ _ (dW (by simpa using c))) O ?_ (fun _ _ h=>h.elim)))))))))))));rintro _ T ⟨rfl,hT⟩;refine Bj O ⟨O,_,_,O,(Gx [1,2] [_,_,_] O),?_⟩;exact⟨O,_,(hT.trans (YP (by simpa using c)).symm),O⟩
 (try simp only[sd,se] at c);have hD:Nn d:=by
  rcases h1 with h | h
  ·exact absurd (show d.kind=0∨d.kind=1∨d.kind=2 from .inl h) (by simpa using c)
  exact h
 have hcl:=hD.cl;have hfl:=hD.fl;refine Av Ay 2 [] O (Aw O (fun c1=>?_) (fun c1=>?_))
 ·(try simp only[sd,se] at c1);refine Az (Ar O (A0 Fe O O) (Ar O (D2 (i:=0) (ds:=(DN (GV.mk 3 at_ 0 d.params d.type)).map .p) DH O O O O O O O) (Bj O (Au (Az (Ax Ay 2 [] O (Ar O (A3 (i:=1) Lu O O (DP _)) (Ar O (BU (i:=0) LS O O Af) (JA [_,_,_] O O O O (h2 _ _ (iM (by simpa using c1))) O ?_ (fun _ _ h=>h.elim))))))))));rintro _ T ⟨rfl,hT⟩;refine As Ay 1 [] O (Aw O (fun c2=>?_) (fun c2=>?_))
  ·(try simp only[sd,se] at c2);refine A1 ⟨O,_,_,O,(Gx [1,2] [_,_,_] O),?_⟩;exact⟨O,_,(hT.trans ((if_pos (by simpa using c2)).trans (Zl (by simpa using c1) (by simpa using c2)).symm)),O⟩
  (try simp only[sd,se] at c2);have qc2:¬(d.name=nm):=by simpa using c2
  rw[if_neg qc2] at hT;have hT:=hT.symm;subst hT;refine A2 (Au (Az (Ar O (A0 Cy O O) (Ar O (A3 (i:=1) Hl O O (CB _)) (Ar O (BM HN O (List.length_map _)) (As Ay 1 [] O (BA ?_)))))));refine Be (α:=Nat) (fun i=>⟨98,mk [(0,.fn (.yield l) [] []),(1,.ptr b2 0),(2,.ptr b1 0),(42,.p (.lst (List.map G1 d.ctors))),(43,.p (I (d.ctors.length:Nat))),(44,.p (I (i:Int)))],(.box b1 ((Bk d).map .p):: .box b2 [.p (I at_)]::T0),[]⟩) (fun i=>d.ctors.length - i) (fun i=>i≤d.ctors.length∧(∀j,j<i→∀y,d.ctors[j]?=some y→y.name≠nm)) 0 (⟨by omega,fun j h=>by omega⟩) ?_ ?_
  ·exact BY ⟨we O,we O,we O,we O,we O,we O,Aq⟩ (YS [1,2] [_,_,_] (l':=[_,_]) O (wl (oe O) (wl (oe O) (C7))))
  rintro i hC
  try simp only at hC
  obtain⟨hi,hC⟩:=hC;refine Av Ay 1 [] O (Au (Aw O (fun c3=>?_) (fun c3=>?_)))
  ·(try simp only[sd,se] at c3);refine A2 (Au (BA (Az (Bt O ?_))));obtain⟨x,hx⟩:=A7 (l:=d.ctors) (i:=i) Ao;refine Ar O (A5 HN O O Ao (EX hx) (D8 _)) (Ar O (BN pH O (D8 _)) (BG O (A8 Yy O) fun b6=>As Ay 2 [0,1] O (Az (Ax Ay 2 [] O (Ar O (A3 (i:=0) Lu O O (Fl _)) (Ax Ay 3 [2] O (Ar O (A3 (i:=1) DH O O (Cq _)) (Ar O (A0 Ir O O) (Ar O (By (i:=0) Ba O O (FA _) (BD _)) (Ar O (CO Fe Hk (OK O O O O O)) (JA [_,_,_] O O O O (h2 _ _ (cU (by simpa using c1) hx)) O ?_ (fun _ _ h=>h.elim))))))))))));rintro _ T1 ⟨rfl,hT1⟩;refine As Ay 1 [] O (Aw O (fun c4=>?_) (fun c4=>?_))
   ·(try simp only[sd,se] at c4);refine A1 ⟨O,_,_,O,(Gx [1,2] [_,_,_] O),?_⟩;exact⟨O,_,(hT1.trans ((if_pos (by simpa using c4)).trans (XG (by simpa using c1) qc2 hx (by simpa using c4) hC).symm)),O⟩
   (try simp only[sd,se] at c4);have qc4:¬(x.name=nm):=by simpa using c4
   rw[if_neg qc4] at hT1;have hT1:=hT1.symm;subst hT1;refine A2 (A4 (As Ay 2 [] O (⟨(i+1),AU,⟨by omega,Cw (p:=fun _ (y:Ib)=>y.name≠nm) hC hx qc4⟩,BY ⟨we rfl,we rfl,we rfl,we rfl,we rfl,we rfl,trivial⟩ (YS [1,2] [_,_,_] (l':=[_,_]) rfl (wl (oe rfl) (wl (oe rfl) (C7))))⟩)))
  (try simp only[sd,se] at c3);refine Bg (A4 (Ax Ay 2 [] O (Ar O (A3 (i:=0) Lu O O (DP _)) (Ar O (RP O O (by have:(⟨#[46,114,101,99]⟩:ByteArray).size=4:=rfl;have:=hD.nm;omega)) (Ax Ay 3 [1] O (Ar O (A3 (i:=0) DH O O (De _)) (Ax Ay 2 [] O (Ar O (By (i:=0) Ba O O (FC _) (BD _)) (Ar O (CO Fe Hk (ZH O O O O)) (JA [_,_] O O O O (h2 _ _ (gN (by simpa using c1))) O ?_ (fun _ _ h=>h.elim)))))))))));rintro _ T1 ⟨rfl,hT1⟩;refine Bj O ⟨O,_,_,O,(Gx [0,1] [_,_] O),?_⟩;exact⟨O,_,(hT1.trans (aT (by simpa using c1) qc2 fun j hj=>hC j Ao).symm),O⟩
 (try simp only[sd,se] at c1);refine Av Ay 2 [] O (Aw O (fun c2=>?_) (fun c2=>?_))
 ·(try simp only[sd,se] at c2);refine Az (Ar O (A0 Cy O O) (Ar O (A3 (i:=1) Gj O O (B6 _)) (Ar O (BM Gn O (List.length_map _)) (As Ay 1 [] O (BA ?_)))));refine Be (α:=Nat) (fun i=>⟨98,mk [(0,.fn (.yield l) [] []),(1,.ptr b2 0),(2,.ptr b1 0),(78,.p (.lst (List.map Em d.funs))),(79,.p (I (d.funs.length:Nat))),(80,.p (I (i:Int)))],(.box b1 ((Bk d).map .p):: .box b2 [.p (I at_)]::T0),[]⟩) (fun i=>d.funs.length - i) (fun i=>i≤d.funs.length∧(∀j,j<i→∀y,d.funs[j]?=some y→y.name≠nm)) 0 (⟨by omega,fun j h=>by omega⟩) ?_ ?_
  ·exact BY ⟨we O,we O,we O,we O,we O,we O,Aq⟩ (YS [1,2] [_,_,_] (l':=[_,_]) O (wl (oe O) (wl (oe O) (C7))))
  rintro i hC
  try simp only at hC
  obtain⟨hi,hC⟩:=hC;refine Av Ay 1 [] O (Au (Aw O (fun c3=>?_) (fun c3=>?_)))
  ·(try simp only[sd,se] at c3);refine A2 (Au (BA (Az (Bt O ?_))));obtain⟨x,hx⟩:=A7 (l:=d.funs) (i:=i) Ao;refine Ar O (A5 Gn O O Ao (D7 hx) (DF _)) (Ar O (BN fW O (DF _)) (BG O (A8 aq O) fun b8=>As Ay 2 [0,1] O (Az (Ax Ay 2 [] O (Ar O (A3 (i:=0) Lu O O (Iy _)) (Ax Ay 3 [2] O (Ar O (A3 (i:=1) DH O O (Cq _)) (Ar O (A0 GX O O) (Ar O (By (i:=0) Ba O O (I1 _) (BD _)) (Ar O (CO Fe Hk (OK O O O O O)) (JA [_,_,_] rfl rfl rfl rfl (h2 _ _ (jY (by simpa using c2) hx)) rfl ?_ (fun _ _ h=>h.elim))))))))))));rintro _ T ⟨rfl,hT⟩;refine As Ay 1 [] O (Aw O (fun c4=>?_) (fun c4=>?_))
   ·(try simp only[sd,se] at c4);refine A1 ⟨O,_,_,O,(Gx [1,2] [_,_,_] O),?_⟩;exact⟨O,_,(hT.trans ((if_pos (by simpa using c4)).trans (Zb (by simpa using c2) hx (by simpa using c4) hC).symm)),O⟩
   (try simp only[sd,se] at c4);have qc4:¬(x.name=nm):=by simpa using c4
   rw[if_neg qc4] at hT;have hT:=hT.symm;subst hT;refine A2 (A4 (As Ay 2 [] O (⟨(i+1),AU,⟨by omega,Cw (p:=fun _ (y:Hi)=>y.name≠nm) hC hx qc4⟩,BY ⟨we rfl,we rfl,we rfl,we rfl,we rfl,we rfl,trivial⟩ (YS [1,2] [_,_,_] (l':=[_,_]) rfl (wl (oe rfl) (wl (oe rfl) (C7))))⟩)))
  (try simp only[sd,se] at c3);refine Bg ⟨O,_,_,O,(Gx [0,1] [_,_] O),?_⟩;exact⟨O,_,(Xy (by simpa using c2) fun j hj=>hC j Ao).symm,O⟩
 (try simp only[sd,se] at c2);refine A2 ⟨O,_,_,O,(Gx [1,2] [_,_,_] O),?_⟩;exact⟨O,_,(Xe (by simpa using c) (by simpa using c1) (by simpa using c2)).symm,O⟩
theorem kJ:∀(d:CK) (at_:Int),Bq Tryz.prog 144 [.agg ((Bk d).map .p),.p (I at_)] [] (fun r H'=>∃b1 b2,r= .val (.fn (.func 170) [] [.ptr b2 0,.ptr b1 0])∧H'=[.box b2 [.p (I at_)],.box b1 ((Bk d).map .p)]):=by
 intro d at_;refine A6 Tryz.func144 O pO (n:=6) O O (Az (BG O (BP O) fun b2=>BG O (BP O) fun b3=>As Ay 1 [] O (Av Ay 2 [] O (A1 (⟨O,_,_,⟨_,_,O,O,O⟩,(B4 (is:=[0,1]) O),?_⟩)))));exact⟨_,_,O,O⟩
theorem YW:∀(ds:List CK) (nm:ByteArray),(ds.length<Dd)→(qc ds)→Ec Tryz.prog 116 [.p (.lst (List.map Bk ds)),.p (.str nm)] (.tup [.agg ((DN ((Bh ds nm).1)).map .p),.p (I ((Bh ds nm).2))]):=by
 intro ds nm h1 h2;simp only[Dd] at h1;refine FT Tryz.func116 O ow (n:=28) O O (Az (BG O (BP O) fun b3=>BG O (A8 Hk O) fun b4=>BG O (A8 dM O) fun b5=>Bj O (Au (Az (Bt O (Ar O (BM Hj O (List.length_map _)) (As Ay 1 [] O (BA ?_))))))));refine Be (α:=Nat×List Nat) (fun(i,U)=>⟨28,mk [(3,.ptr b3 0),(4,.ptr b4 0),(5,.ptr b5 0),(10,.p (.lst (List.map Bk ds))),(11,.p (I (ds.length:Nat))),(12,.p (I (i:Int)))],(.box b5 [.p (I 0)]:: .box b4 [.p (I 0),.p (I 0),.p (I 0),.p (I 0),.p (I 0),.p (I 0),.p (.str ⟨#[]⟩),.p (.nils),.p (.nils)]:: .box b3 [.p (.str nm)]::(U.map BJ.dfr)),(U.map ES.mark)⟩) (fun(i,U)=>ds.length - i) (fun(i,U)=>i≤ds.length∧(∀j,j<i→∀y,ds[j]?=some y→Cs nm (FX y j)=none)) ⟨0,[]⟩ (⟨by omega,fun j h=>by omega⟩) ?_ ?_
 ·exact BY ⟨we O,we O,we O,we O,we O,we O,Aq⟩ (YS [0,1,2] [_,_,_] (l':=[_,_,_]) O (wl (oe O) (wl (oe O) (wl (oe O) (C7)))))
 rintro⟨i,U⟩ hC
 try simp only at hC
 obtain⟨hi,hC⟩:=hC;refine Av Ay 1 [] O (Au (Aw O (fun c=>?_) (fun c=>?_)))
 ·(try simp only[sd,se] at c);refine A2 (Au (BA (Az (Bt O ?_))));obtain⟨x,hx⟩:=A7 (l:=ds) (i:=i) Ao;have hx0:=h2 _ (List.mem_of_getElem? hx);refine Ar O (A5 Hj O O Ao (D4 hx) (Cl _)) (Ar O (BN FM O (Cl _)) (BG O (A8 JK O) fun b7=>As Ay 2 [0,1] O (Az (Ax Ay 2 [0] O ?_))));refine Iz (Hs:=[]) O O O (.inl ⟨O,O,O⟩) (List.Perm.refl _) ((kJ x ((i:Int))).args (aw (we O) (aw (we O) Et))) (.inl O) ?_ (fun _ _ ⟨_,_,h,_⟩=>by cases h);rintro _ _ ⟨bd,ba,h,rfl⟩;cases h;refine Bj O (BA (Q9 (.inr O) fun dd l L hL=>⟨_,_,SL (is:=[3,2,0,4,5,6,7]) (base:=[_,_,_,_,_,_,_,_]) (rest:=[.dfr dd]) An ⟨_,_,O,O,⟨_,_,O,O,⟨_,_,O,O,⟨_,_,O,O,⟨_,_,O,O,⟨_,_,O,O,⟨_,_,O,O,O⟩⟩⟩⟩⟩⟩⟩ O,?_⟩));have hy:∀(sn:ByteArray) (en:GV),(sn,en)∈FX x ((i:Int))→MD Tryz.prog l [.p (.str sn),.agg ((DN en).map .p)] [.loop l L,.box b7 ((Bk x).map .p),.box b5 [.p (I 0)],.box b4 [.p (I 0),.p (I 0),.p (I 0),.p (I 0),.p (I 0),.p (I 0),.p (.str ⟨#[]⟩),.p (.nils),.p (.nils)],.box b3 [.p (.str nm)]] (VM (.p (.bool (!decide (sn=nm)))) (fun T:List BJ=>T=if sn=nm then [.loop l { L with state:= .done,pending:=some .ret },.box b7 ((Bk x).map .p),.box b5 [.p (I 0)],.box b4 ((DN en).map .p),.box b3 [.p (.str nm)]] else [.loop l L,.box b7 ((Bk x).map .p),.box b5 [.p (I 0)],.box b4 [.p (I 0),.p (I 0),.p (I 0),.p (I 0),.p (I 0),.p (I 0),.p (.str ⟨#[]⟩),.p (.nils),.p (.nils)],.box b3 [.p (.str nm)]])):=by
   intro sn en hm;obtain⟨LB,hLB⟩:∃x,x=BJ.loop l { L with state:= .busy }:=⟨_,rfl⟩;subst hL;refine Tb (i:=0) O O O O (Av Ay 1 [] O (A4 (BG O (A8 Hk O) fun b9=>As Ay 1 [0,1] O ⟨O,1,O,?_⟩)));rw[←hLB];refine BA (Az (Ax Ay 2 [5] O (Ar O (F7 O O) (Bj O (Aw O (fun c1=>?_) (fun c1=>?_))))))
   ·(try simp only[sd,se] at c1);refine Av Ay 3 [0,4,1,3,0] O (A1 ?_);subst hLB;refine⟨1,_,O,B4 (is:=[1,2,3,4,5]) O,?_⟩;have hcc:sn=nm:=Gq (by simpa using c1);exact⟨by simp[hcc],(if_pos hcc).symm⟩
   (try simp only[sd,se] at c1);refine A2 ?_;subst hLB;refine⟨1,_,O,B4 (is:=[1,2,3,4,5]) O,?_⟩;have hcc:¬(sn=nm):=fun h=>by simp[h] at c1
   exact⟨by simp[hcc],(if_neg hcc).symm⟩
  refine(ll l bd ba x ((i:Int)) nm (fun en=>[.loop l { L with state:= .done,pending:=some .ret },.box b7 ((Bk x).map .p),.box b5 [.p (I 0)],.box b4 ((DN en).map .p),.box b3 [.p (.str nm)]]) _ (hx0) hy).mono ?_;rintro(v | v) H' hR
  rotate_left
  ·exact hR.elim
  obtain⟨rfl,_,hT,rfl⟩:=hR;subst hL;unfold Iu at hT;cases hF:Cs nm (FX x ((i:Int))) with
  | some en =>
   rw[hF] at hT;simp only at hT;subst hT;refine XV (i:=2) (.box bd ((Bk x).map .p):: .box ba [.p (I (i:Int))]:: .box b7 ((Bk x).map .p):: .box b5 [.p (I 0)]:: .box b4 ((DN en).map .p):: .box b3 [.p (.str nm)]::(.dfr dd::U.map BJ.dfr)) O Ap O O (A1 (P5 (dd::U) (Hs:=[_,_,_,_,_,_]) (⟨_,_,⟨_,_,O,(BB (i:=4) LS O O Af),⟨_,_,O,(Gp (i:=3) SN O O),O⟩⟩,(List.nil_sublist _),?_⟩)))
   all_goals exact⟨by show (.tup [.agg ((DN en).map .p),.p (I 0)]:AV)=_;rw[fe hx hC hF],rfl⟩
  | none =>
   rw[hF] at hT;simp only at hT;subst hT;refine VG (i:=2) (.box bd ((Bk x).map .p):: .box ba [.p (I (i:Int))]:: .box b7 ((Bk x).map .p):: .box b5 [.p (I 0)]:: .box b4 [.p (I 0),.p (I 0),.p (I 0),.p (I 0),.p (I 0),.p (I 0),.p (.str ⟨#[]⟩),.p (.nils),.p (.nils)]:: .box b3 [.p (.str nm)]::(.dfr dd::U.map BJ.dfr)) O Ap O O (A4 (As Ay 2 [] O (⟨⟨i+1,dd::U⟩,AU,⟨by omega,Cw (p:=fun j (y:CK)=>Cs nm (FX y j)=none) hC hx hF⟩,BY ⟨we rfl,we rfl,we rfl,we rfl,we rfl,we rfl,trivial⟩ (YS [3,4,5] [_,_,_,_,_,_] (l':=[_,_,_]) rfl (wl (oe rfl) (wl (oe rfl) (wl (oe rfl) (C7)))))⟩)))
 (try simp only[sd,se] at c);refine Bg (Av Ay 3 [1,0,0,0] O (BI (BT (i:=1) O) (A1 (P5 U (Hs:=[_,_,_]) (⟨_,_,⟨_,_,O,(BB (i:=1) LS O O O),⟨_,_,O,(Gp (i:=0) SN O O),O⟩⟩,(List.nil_sublist _),?_⟩)))))
 all_goals exact⟨by show (.tup [.agg [.p (I 0),.p (I 0),.p (I 0),.p (I 0),.p (I 0),.p (I 0),.p (.str ⟨#[]⟩),.p (.lst []),.p (.lst [])],.p (I 9)]:AV)=_;rw[dI fun j hj=>hC j Ao];rfl,rfl⟩
theorem ad:∀(ds:List CK) (nm:ByteArray),(HT ds)→Ec Tryz.prog 127 [.p (.lst (List.map Bk ds)),.p (.str nm)] (.tup [.agg ((Bk ((Cg ds nm).1)).map .p),.p (I ((Cg ds nm).2.1)),.p (.bool ((Cg ds nm).2.2))]):=by
 intro ds nm h1;have hl:=h1.len;refine A6 Tryz.func127 O m9 (n:=44) O O (Az (BG O (A8 JK O) fun b4=>As Ay 2 [] O (Az (Ax Ay 2 [] O (Ar rfl (BF rfl rfl (YW ds nm Aa (fun d hd=> .inr (h1.all d hd))) rfl) (Ax Ay 3 [] O (BG O (A8 Hk O) fun b7=>As Ay 2 [0,1] O (Au (Av Ay 2 [] O (Aw O (fun c=>?_) (fun c=>?_)))))))))))
 ·(try simp only[sd,se] at c);refine Av Ay 4 [1,0] O (BI (BT (i:=1) O) (A1 (⟨O,_,_,⟨_,_,O,(BB (i:=1) FM O O O),⟨_,_,O,O,⟨_,_,O,O,O⟩⟩⟩,(List.nil_sublist _),?_⟩)))
  all_goals exact⟨by show (.tup [.agg [.p (I 0),.p (.str ⟨#[]⟩),.p (I 0),.p (I 0),.p (I 0),.p (.str ⟨#[]⟩),.p (.lst []),.p (.lst []),.p (I 0),.p (I 0),.p (.str ⟨#[]⟩),.p (.lst []),.p (.lst []),.p (I 0),.p (.lst []),.p (I 0),.p (I 0),.p (I 0),.p (.str ⟨#[]⟩),.p (.lst []),.p (.lst []),.p (.lst []),.p (.lst [])],.p (I 0),.p (.bool false)]:AV)=_;rw[Yj Ao];rfl,rfl⟩
 (try simp only[sd,se] at c);obtain⟨fi,fd,hfi,hfo⟩:=Np (ds:=ds) (nm:=nm) Ao;have hdl:=hfo.decl;have hfl:=(List.getElem?_eq_some_iff.1 hfi).1;refine A2 (Au (Az (Ar O (A0 Fe O O) (Ar O (A3 (i:=0) DH O O (DB _)) (Bj O (BA (Av Ay 2 [] O (Aw O (fun c1=>?_) (fun c1=>?_)))))))))
 ·(try simp only[sd,se] at c1);refine Az (Ax Ay 2 [] O (Ar O (A3 (i:=0) DH O O (DR _)) ?_));obtain⟨x,hx⟩:=A7 (l:=ds) (i:=(((Bh ds nm).1).decl:Int).toNat) Ao;refine Ar O (A5 Hj O O Ao (D4 hx) (Cl _)) (As Ay 4 [1,1] O (A1 (⟨O,_,_,⟨_,_,O,(BB (i:=1) FM O O Ae),⟨_,_,O,O,⟨_,_,O,O,O⟩⟩⟩,(List.nil_sublist _),?_⟩)))
  all_goals exact⟨by show (.tup [.agg ((Bk x).map .p),.p (I (-1)),.p (.bool true)]:AV)=_;rw[jn Ao Ao hx],rfl⟩
 (try simp only[sd,se] at c1);refine Av Ay 2 [] O (Aw O (fun c2=>?_) (fun c2=>?_))
 ·(try simp only[sd,se] at c2);refine Au (Bu (fun k=>false) Dt (BQ Ay 2 [] O (CX (j:=0) O O O (fun H i hi=>A3 (i:=i) DH O hi (DR _)) AB Aq ?_)));obtain⟨x,hx⟩:=A7 (l:=ds) (i:=(((Bh ds nm).1).decl:Int).toNat) Ao;refine BH O (fun _=>A5 Hj O O Ao (D4 hx) (Cl _)) Aq (BQ Ay 2 [] O (CX (j:=0) O O O (fun H i hi=>A3 (i:=i) DH O hi (Dq _)) AB Aq (Bn Ay 3 [1,1] O (A1 (⟨O,_,_,⟨_,_,O,(BB (i:=1) FM O O Ae),⟨_,_,O,O,⟨_,_,O,O,O⟩⟩⟩,(List.nil_sublist _),?_⟩)))))
  all_goals exact⟨by show (.tup [.agg ((Bk x).map .p),.p (I (((Bh ds nm).1).item)),.p (.bool true)]:AV)=_;rw[kA Ao Ao hx],rfl⟩
 (try simp only[sd,se] at c2);refine Av Ay 2 [] O (Aw O (fun c3=>?_) (fun c3=>?_))
 ·(try simp only[sd,se] at c3);refine Az (Ax Ay 2 [] O (Ar O (A3 (i:=0) DH O O (DR _)) ?_));obtain⟨x,hx⟩:=A7 (l:=ds) (i:=(((Bh ds nm).1).decl:Int).toNat) Ao;refine Ar O (A5 Hj O O Ao (D4 hx) (Cl _)) (As Ay 4 [1,1] O (A1 (⟨O,_,_,⟨_,_,O,(BB (i:=1) FM O O Ae),⟨_,_,O,O,⟨_,_,O,O,O⟩⟩⟩,(List.nil_sublist _),?_⟩)))
  all_goals exact⟨by show (.tup [.agg ((Bk x).map .p),.p (I (-2)),.p (.bool true)]:AV)=_;rw[fI Ao Ao hx],rfl⟩
 (try simp only[sd,se] at c3);refine A2 (Av Ay 4 [1,0] O (BI (BT (i:=1) O) (A1 (⟨O,_,_,⟨_,_,O,(BB (i:=1) FM O O O),⟨_,_,O,O,⟨_,_,O,O,O⟩⟩⟩,(List.nil_sublist _),?_⟩))))
 all_goals exact⟨by show (.tup [.agg [.p (I 0),.p (.str ⟨#[]⟩),.p (I 0),.p (I 0),.p (I 0),.p (.str ⟨#[]⟩),.p (.lst []),.p (.lst []),.p (I 0),.p (I 0),.p (.str ⟨#[]⟩),.p (.lst []),.p (.lst []),.p (I 0),.p (.lst []),.p (I 0),.p (I 0),.p (I 0),.p (.str ⟨#[]⟩),.p (.lst []),.p (.lst []),.p (.lst []),.p (.lst [])],.p (I 0),.p (.bool false)]:AV)=_;rw[eX Ao Ao Ao];rfl,rfl⟩
theorem O6:∀(m:Nat) (ds:List CK) (n:Int) (h:Tm),(HT ds)→Bq Tryz.prog 89 [.ptr m 0,.agg ((BO h).map .p)] [.box m [.p (.lst (List.map Bk ds)),.p (I n)]] (GW (.tup [.agg ((DN ((Bh ds h.name).1)).map .p),.p (.bool (QG ds h))]) [.box m [.p (.lst (List.map Bk ds)),.p (I n)]]):=by
 intro m ds n h h1;have hel:=h1.len;obtain⟨hk,hi,hn,hl,hs⟩:=h;refine A6 Tryz.func89 O rH (n:=29) O O (Az (BG O (BP O) fun b3=>BG O (A8 Hk O) fun b4=>As Ay 1 [] O (Au (Bu (fun k=>Nat.beq k 10) Dt (BQ Ay 6 [2,1] O (BH rfl (fun _=>BF rfl rfl (YW ds hn Aa (fun d hd=> .inr (h1.all d hd))) rfl) trivial (BQ Ay 3 [] O (G9 [] O O (A8 Hk O) Ak fun b6=>⟨AB,Aq,?_⟩))))))));refine Bn Ay 2 [0,1] O (Au (Bu (fun k=>false) Dt (BQ Ay 4 [0] O (Dx 21 O (fun g=>?_) (fun g=>?_)))))
 ·(try simp only[sd,se] at g);refine BQ Ay 2 [2] O (Cc O (fun _=>BM EZ O (List.length_map _)) Aq (Cc O (fun _=>A0 Fe O O) Aq (Lo (i:=0) O O O O O (fun H i hi=>A3 (i:=i) DH O hi (Hd _)) AB Aq (Bn Ay 4 [1,1] O (A1 (⟨O,_,_,⟨_,_,O,(BB (i:=1) LS O O Af),⟨_,_,O,O,O⟩⟩,(B4 (is:=[3]) O),?_⟩))))))
  all_goals exact⟨by show (.tup [.agg ((DN ((Bh ds hn).1)).map .p),.p (.bool (((hl.length:Nat):Int)==(((Bh ds hn).1).params:Int)))]:AV)=_;rw[fQ (k:=hk) (i:=hi) (ks:=hs) (by first | exact g | omega)];rfl,rfl⟩
 (try simp only[sd,se] at g);refine Bn Ay 9 [1,1] O (A1 (⟨O,_,_,⟨_,_,O,(BB (i:=1) LS O O Af),⟨_,_,O,O,O⟩⟩,(B4 (is:=[3]) O),?_⟩))
 all_goals exact⟨by show (.tup [.agg ((DN ((Bh ds hn).1)).map .p),.p (.bool false)]:AV)=_;rw[j8 (k:=hk) (i:=hi) (ls:=hl) (ks:=hs) (by first | exact g | omega)];rfl,rfl⟩
theorem QM:∀(m:Nat) (ds:List CK) (n:Int) (t:Tm),(Ja ds)→(okB t=true)→Bq Tryz.prog 96 [.ptr m 0,.agg ((BO t).map .p)] [.box m [.p (.lst (List.map Bk ds)),.p (I n)]] (GW (.tup [.agg ((Bk ((CL ds t).1)).map .p),.p (I ((CL ds t).2.1)),.p (.lst (BE ((CL ds t).2.2.1))),.p (.bool ((CL ds t).2.2.2))]) [.box m [.p (.lst (List.map Bk ds)),.p (I n)]]):=by
 intro m ds n t h1 h2;have ho:=CP.1 h2;have hosz:=ho.sz;have hoss:=Fm t;have hosl:=PM t;have hosp:=Ga h2;refine A6 Tryz.func96 O qb (n:=67) O O (Az (BG O (BP O) fun b3=>BG O (A8 JK O) fun b4=>As Ay 3 [] O (Az (Ar O (BU (i:=1) Ba O O Ah) (Ar O (BF O O (MF t ho.nd Aa) O) (Ax Ay 3 [] O (BG O (A8 Bz O) fun b8=>As Ay 2 [0,1] O (Au (Az (Ar O (A0 G8 O O) ?_))))))))));generalize hz:(A9 t).1=z;obtain⟨zk,zi,zn,zl,zs⟩:=z;refine As Ay 2 [0] O (Aw O (fun c=>?_) (fun c=>?_))
 ·(try simp only[sd,se] at c);refine Av Ay 5 [1,0] O (BI (BT (i:=1) O) (BI (EB 6) (A1 (⟨O,_,_,⟨_,_,O,(BB (i:=1) FM O O O),⟨_,_,O,O,⟨_,_,O,O,⟨_,_,O,O,O⟩⟩⟩⟩,(B4 (is:=[3]) O),?_⟩))))
  all_goals exact⟨by show (.tup [.agg [.p (I 0),.p (.str ⟨#[]⟩),.p (I 0),.p (I 0),.p (I 0),.p (.str ⟨#[]⟩),.p (.lst []),.p (.lst []),.p (I 0),.p (I 0),.p (.str ⟨#[]⟩),.p (.lst []),.p (.lst []),.p (I 0),.p (.lst []),.p (I 0),.p (I 0),.p (I 0),.p (.str ⟨#[]⟩),.p (.lst []),.p (.lst []),.p (.lst []),.p (.lst [])],.p (I 0),.p (.lst (BE [])),.p (.bool false)]:AV)=_;rw[MW (Yg hz c)];rfl,rfl⟩
 (try simp only[sd,se] at c);refine A2 (Au (Bu (fun k=>Nat.beq k 11) Dt (BQ Ay 6 [3,0] O (BH O (fun _=>BF O O (ad ds zn h1.env) O) Aq (BQ Ay 4 [] O (G9 [] O O (A8 JK O) Ak fun b10=>⟨AB,Aq,?_⟩))))));refine Bn Ay 3 [0,1] O (Au (Au (BR [4,9,10,11] 40 (fun y=>y= .p (.bool ((!((Cg ds zn).2.2))||(decide (((Cg ds zn).2.1:Int)<(0:Int)))))) ?_ ?_)))
 ·refine A4 (Ax Ay 3 [] O (BL 37 O (fun g=>?_) (fun g=>?_)))
  ·(try simp only[sd,se] at g);exact As Ay 3 [] O (⟨O,O,AK,AI,⟨O,O,O,O,Aq⟩⟩)
  (try simp only[sd,se] at g);exact As Ay 3 [] O (⟨O,O,AK,AI,⟨O,O,O,O,Aq⟩⟩)
 rintro _ rfl;refine Aw O (fun c1=>?_) (fun c1=>?_)
 ·(try simp only[sd,se] at c1);have hcc:=c1;refine Av Ay 5 [2,0] O (BI (BT (i:=2) O) (BI (EB 6) (A1 (⟨O,_,_,⟨_,_,O,(BB (i:=2) FM O O O),⟨_,_,O,O,⟨_,_,O,O,⟨_,_,O,O,O⟩⟩⟩⟩,(B4 (is:=[4]) O),?_⟩))))
  all_goals exact⟨by show (.tup [.agg [.p (I 0),.p (.str ⟨#[]⟩),.p (I 0),.p (I 0),.p (I 0),.p (.str ⟨#[]⟩),.p (.lst []),.p (.lst []),.p (I 0),.p (I 0),.p (.str ⟨#[]⟩),.p (.lst []),.p (.lst []),.p (I 0),.p (.lst []),.p (I 0),.p (I 0),.p (I 0),.p (.str ⟨#[]⟩),.p (.lst []),.p (.lst []),.p (.lst []),.p (.lst [])],.p (I 0),.p (.lst (BE [])),.p (.bool false)]:AV)=_;rw[MW (Yt hz (by simpa using c) hcc)];rfl,rfl⟩
 (try simp only[sd,se] at c1);have hcc:(Cg ds zn).2.2=true∧¬(Cg ds zn).2.1<0:=⟨c1.1,by omega⟩;have hfd:=XO h1 hcc.1 hcc.2;have hfr:=NZ hfd.1 hfd.2.2.1 hfd.2.2.2 hfd.2.1.1;have hfx:=hfd.2.1;refine A2 (Az (Ar O (A0 Cy O O) (Ar O (A3 (i:=0) Hl O O (CB _)) (Bt O ?_))));obtain⟨x,hx⟩:=A7 (l:=((Cg ds zn).1).ctors) (i:=((Cg ds zn).2.1:Int).toNat) Ao;have hal:=IQ x.type;have hxs:=(hfd.1.cs _ (List.mem_of_getElem? hx)).ty;refine Ar O (A5 HN O O Ao (EX hx) (D8 _)) (Ar O (Bv Ir O O) (Ar O (DA Ba O (FA _) (BD _)) (Ar O (BF O O (Y9 x.type hxs.nd hxs.sz) O) (Ax Ay 3 [] O (BG O (A8 Bz O) fun b14=>As Ay 2 [0,1] O (Au (Az (Bt O (Ar O (BM Bf O (BS _)) (Ar O (A0 Cy O O) (Ar O (A3 (i:=1) DH O O (Co _)) (Bt O (Ar O (BM Bf O (BS _)) (Ar O (FR O O) (As Ay 1 [] O (Aw O (fun c2=>?_) (fun c2=>?_)))))))))))))))))
 ·(try simp only[sd,se] at c2);refine Av Ay 5 [3,0] O (BI (BT (i:=3) O) (BI (EB 6) (A1 (⟨O,_,_,⟨_,_,O,(BB (i:=3) FM O O O),⟨_,_,O,O,⟨_,_,O,O,⟨_,_,O,O,O⟩⟩⟩⟩,(B4 (is:=[5]) O),?_⟩))))
  all_goals exact⟨by show (.tup [.agg [.p (I 0),.p (.str ⟨#[]⟩),.p (I 0),.p (I 0),.p (I 0),.p (.str ⟨#[]⟩),.p (.lst []),.p (.lst []),.p (I 0),.p (I 0),.p (.str ⟨#[]⟩),.p (.lst []),.p (.lst []),.p (I 0),.p (.lst []),.p (I 0),.p (I 0),.p (I 0),.p (.str ⟨#[]⟩),.p (.lst []),.p (.lst []),.p (.lst []),.p (.lst [])],.p (I 0),.p (.lst (BE [])),.p (.bool false)]:AV)=_;rw[MW (ZE hz (by simpa using c) hcc.1 hcc.2 (by rw[Ro hx hfx.1];exact c2))];rfl,rfl⟩
 (try simp only[sd,se] at c2);have hl3:=c2;refine A2 (Au (Bu (fun k=>false) Dt (BQ Ay 4 [1] O (CX (j:=1) O O O (fun H i hi=>A3 (i:=i) DH O hi (Co _)) AB Aq (BH O (fun _=>Ca (lo:=(((Cg ds zn).1).fixed:Int).toNat) Bf O (CF (Bw _)) ⟨_,pI Ao⟩ O AR (Nat.le_refl _) (Ju ((A9 t).2) ((((Cg ds zn).1).fixed:Int).toNat))) Aq (Bn Ay 4 [3,1] O (A1 (⟨O,_,_,⟨_,_,O,(BB (i:=3) FM O O Ae),⟨_,_,O,O,⟨_,_,O,O,⟨_,_,O,O,O⟩⟩⟩⟩,(B4 (is:=[5]) O),?_⟩))))))))
 all_goals exact⟨by show (.tup [.agg ((Bk ((Cg ds zn).1)).map .p),.p (I ((Cg ds zn).2.1)),.p (.lst (BE (((A9 t).2).drop ((((Cg ds zn).1).fixed:Int).toNat)))),.p (.bool true)]:AV)=_;rw[QO (cN hz (by simpa using c) hcc.1 hcc.2 (by rw[Ro hx hfx.1];exact c2))],rfl⟩
theorem iy:∀(b0:Nat) (x:GD) (nm:ByteArray),Bq Tryz.prog 129 [.agg ((Gw x).map .p),.ptr b0 0] [.box b0 [.p (.str nm)]] (GW (.p (.bool (x.ctor.toList==nm.toList))) [.box b0 [.p (.str nm)]]):=by
 intro b0 x nm;refine A6 Tryz.func129 O pA (n:=8) O O (Az (BG O (BP O) fun b2=>As Ay 1 [] O (Az (Ar O (A0 IU O O) (Ar O (A3 (i:=0) Lu O O (GZ _)) (Ar O (B7 (i:=1) Lu O O O) (Ar O (F7 O O) (As Ay 1 [] O (A1 (⟨O,_,_,⟨_,_,O,O,O⟩,(B4 (is:=[1]) O),?_⟩))))))))))
 all_goals exact⟨rfl,rfl⟩
theorem lf:∀(b0:Nat) (nm:ByteArray) (l:List GD),(l.length<2000000)→Bq Tryz.prog 128 [.p (.lst (LJ l)),.fn (.func 129) [] [.ptr b0 0]] [.box b0 [.p (.str nm)]] (GW (.p (I (Mp nm l 0))) [.box b0 [.p (.str nm)]]):=by
 intro b0 nm l h1;refine A6 Tryz.func128 O nr (n:=19) O O (Av Ay 1 [] O (Au (Az (Bt O (Ar O (BM Jb O (F6 _)) (As Ay 1 [] O (BA (Be (α:=Nat) (fun i=>⟨19,mk [(0,.p (.lst (LJ l))),(1,.fn (.func 129) [] [.ptr b0 0]),(7,.p (I (l.length:Nat))),(8,.p (I (i:Int)))],[.box b0 [.p (.str nm)]],[]⟩) (fun i=>l.length - i) (fun i=>i≤l.length∧(Mp nm (l.drop i) (i:Int)=Mp nm l 0)) 0 (⟨by omega,rfl⟩) ?_ ?_))))))))
 ·exact BY ⟨we O,we O,we O,we O,Aq⟩ (leH (is:=[0]) O (wl (oe O) (C7)))
 rintro i hC
 try simp only at hC
 obtain⟨hi,hC⟩:=hC;refine Av Ay 1 [] O (Au (Aw O (fun c=>?_) (fun c=>?_)))
 ·(try simp only[sd,se] at c);refine A2 (Au (BA (Av Ay 2 [] O (Az (Ax Ay 3 [] O ?_)))));obtain⟨x,hx⟩:=A7 (l:=l) (i:=i) Ao;refine Ar O (A5 Jb O O Ao (FZ hx) (DT _)) (Ar O (BN Sw O (DT _)) (Ar O (B8 [0] O (.inr O) (iy b0 x nm) ⟨_,_,O,O,O⟩ An O (.inl O)) (Bj O (Aw O (fun c1=>?_) (fun c1=>?_)))))
  ·(try simp only[sd,se] at c1);refine Av Ay 2 [] O (A1 (⟨O,_,_,⟨_,_,O,O,O⟩,(B4 (is:=[0]) O),?_⟩))
   all_goals exact⟨pI (by rw[←hC,iv hx (by simpa using c1)]),rfl⟩
  (try simp only[sd,se] at c1);refine A2 (A4 (As Ay 2 [] O ?_));refine⟨(i+1),AU,⟨by omega,by rw[←hC,lE hx (by simpa using c1)];rfl⟩,BY ⟨we rfl,we rfl,we rfl,we rfl,trivial⟩ (leH (is:=[0]) rfl (wl (oe rfl) (C7)))⟩
 (try simp only[sd,se] at c);refine Bg (Av Ay 1 [] O (A1 (⟨O,_,_,⟨_,_,O,O,O⟩,(B4 (is:=[0]) O),?_⟩)))
 all_goals exact⟨pI (by rw[←hC,List.drop_eq_nil_of_le Ao];rfl),rfl⟩
end Go.Proofs.YtboammbpdaoojaaGreat
