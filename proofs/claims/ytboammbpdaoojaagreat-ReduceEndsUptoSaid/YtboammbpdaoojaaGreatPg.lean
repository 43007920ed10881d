/- Part of the proofs: an abstract program logic, plain models and contracts of functions. -/
import Derived.Shelf.SlIterI.Nil
import Derived.Shelf.SortM.Plain
import Derived.Shelf.SortM.SortNone
import Derived.Ground.GgzProg
import Derived.Ground.SlgmProg
import Derived.Test.YtboammbpdaoojaaGreatProg
import Derived.Test.YtboammbpdaoojaaGreatPe
import Derived.Test.YtboammbpdaoojaaGreatPb
import Derived.Test.YtboammbpdaoojaaGreatPf
import Derived.Test.YtboammbpdaoojaaGreatPd
import Derived.Test.YtboammbpdaoojaaGreatPc
set_option linter.unusedVariables false
set_option linter.unusedSimpArgs false
set_option maxRecDepth 100000
namespace Go.Proofs
open Go.Shelf
def Tryz.keysA_ren:Go.Shelf.Ren:=⟨fun | 7=>193 | 10=>199 | n=>n,fun | 23=>229 | 26=>3 | 3=>3 | 28=>240 | 0=>0 | 27=>239 | 33=>245 | 4=>4 | n=>n,fun | n=>n⟩
theorem Tryz.keysA:Go.Proofs.SlLaysZI.n7 Tryz.prog Tryz.keysA_ren:={
 mixed:=by kernel_rfl
 f7:=⟨Tryz.f193.name,by decide,Tryz.func193.trans (congrArg some An)⟩
 f10:=⟨Tryz.f199.name,by decide,Tryz.func199.trans (congrArg some An)⟩
 t0:=Tryz.underlying0
 a0:=Tryz.isAgg0
 z0:=Tryz.sizeOf0
 v0:=Tryz.zeroValue0
 t4:=Tryz.underlying4
 a4:=Tryz.isAgg4
 z4:=Tryz.sizeOf4
 v4:=Tryz.zeroValue4
 t23:=Tryz.underlying229
 a23:=Tryz.isAgg229
 z23:=Tryz.sizeOf229
 v23:=Tryz.zeroValue229
 t26:=Tryz.underlying3
 a26:=Tryz.isAgg3
 z26:=Tryz.sizeOf3
 v26:=Tryz.zeroValue3
 t27:=Tryz.underlying239
 a27:=Tryz.isAgg239
 z27:=Tryz.sizeOf239
 v27:=Tryz.zeroValue239
 t28:=Tryz.underlying240
 a28:=Tryz.isAgg240
 z28:=Tryz.sizeOf240
 v28:=Tryz.zeroValue240
 t33:=Tryz.underlying245
 a33:=Tryz.isAgg245
 z33:=Tryz.sizeOf245
 v33:=Tryz.zeroValue245 }
def Tryz.sortedA_ren:Go.Shelf.Ren:=⟨fun | 6=>192 | 8=>197 | 9=>198 | 11=>201 | 13=>203 | 12=>202 | 23=>213 | 24=>214 | 14=>204 | 15=>205 | 16=>206 | 17=>207 | 18=>208 | 19=>209 | 20=>210 | 21=>211 | 22=>212 | 25=>215 | 26=>216 | 27=>217 | 28=>218 | 29=>219 | 30=>220 | 31=>221 | n=>n,fun | 26=>3 | 28=>240 | 24=>137 | 0=>0 | 3=>3 | 37=>250 | 48=>260 | 50=>262 | 4=>4 | 40=>253 | 39=>252 | 45=>45 | 5=>5 | 9=>9 | 51=>263 | 55=>267 | 57=>269 | 58=>110 | 33=>245 | n=>n,fun | n=>n⟩
theorem Tryz.sortedA:Go.Proofs.SlLaysZI.n6 Tryz.prog Tryz.sortedA_ren:={
 mixed:=by kernel_rfl
 f6:=⟨Tryz.f192.name,by decide,Tryz.func192.trans (congrArg some An)⟩
 f8:=⟨Tryz.f197.name,by decide,Tryz.func197.trans (congrArg some An)⟩
 f11:=⟨Tryz.f201.name,by decide,Tryz.func201.trans (congrArg some An)⟩
 t0:=Tryz.underlying0
 a0:=Tryz.isAgg0
 z0:=Tryz.sizeOf0
 v0:=Tryz.zeroValue0
 t24:=Tryz.underlying137
 a24:=Tryz.isAgg137
 z24:=Tryz.sizeOf137
 v24:=Tryz.zeroValue137
 t26:=Tryz.underlying3
 a26:=Tryz.isAgg3
 z26:=Tryz.sizeOf3
 v26:=Tryz.zeroValue3
 t28:=Tryz.underlying240
 a28:=Tryz.isAgg240
 z28:=Tryz.sizeOf240
 v28:=Tryz.zeroValue240
 i26:=by kernel_rfl }
def Tryz.sortA_ren:Go.Shelf.Ren:=⟨fun | 5=>198 | 8=>203 | 7=>202 | 19=>213 | 20=>214 | 10=>204 | 11=>205 | 12=>206 | 13=>207 | 14=>208 | 15=>209 | 16=>210 | 17=>211 | 18=>212 | 30=>215 | 31=>216 | 32=>217 | 33=>218 | 34=>219 | 35=>220 | 40=>221 | n=>n,fun | 23=>137 | 25=>3 | 3=>3 | 32=>250 | 22=>137 | 0=>0 | 44=>260 | 46=>262 | 4=>4 | 36=>253 | 35=>252 | 41=>45 | 5=>5 | 9=>9 | 53=>263 | 57=>267 | 63=>269 | 64=>110 | n=>n,fun | n=>n⟩
theorem Tryz.sortA:Go.Proofs.SlLaysM.n5 Tryz.prog Tryz.sortA_ren:={
 mixed:=by kernel_rfl
 f5:=⟨Tryz.f198.name,by decide,Tryz.func198.trans (congrArg some An)⟩
 f7:=⟨Tryz.f202.name,by decide,Tryz.func202.trans (congrArg some An)⟩
 f8:=Tryz.func203.trans (congrArg some An)
 f10:=⟨Tryz.f204.name,by decide,Tryz.func204.trans (congrArg some An)⟩
 f11:=⟨Tryz.f205.name,by decide,Tryz.func205.trans (congrArg some An)⟩
 f12:=⟨Tryz.f206.name,by decide,Tryz.func206.trans (congrArg some An)⟩
 f13:=⟨Tryz.f207.name,by decide,Tryz.func207.trans (congrArg some An)⟩
 f14:=⟨Tryz.f208.name,by decide,Tryz.func208.trans (congrArg some An)⟩
 f15:=⟨Tryz.f209.name,by decide,Tryz.func209.trans (congrArg some An)⟩
 f16:=⟨Tryz.f210.name,by decide,Tryz.func210.trans (congrArg some An)⟩
 f17:=⟨Tryz.f211.name,by decide,Tryz.func211.trans (congrArg some An)⟩
 f18:=⟨Tryz.f212.name,by decide,Tryz.func212.trans (congrArg some An)⟩
 f19:=Tryz.func213.trans (congrArg some An)
 f20:=Tryz.func214.trans (congrArg some An)
 f30:=⟨Tryz.f215.name,by decide,Tryz.func215.trans (congrArg some An)⟩
 f31:=Tryz.func216.trans (congrArg some An)
 f32:=Tryz.func217.trans (congrArg some An)
 f33:=⟨Tryz.f218.name,by decide,Tryz.func218.trans (congrArg some An)⟩
 f34:=⟨Tryz.f219.name,by decide,Tryz.func219.trans (congrArg some An)⟩
 f35:=⟨Tryz.f220.name,by decide,Tryz.func220.trans (congrArg some An)⟩
 f40:=⟨Tryz.f221.name,by decide,Tryz.func221.trans (congrArg some An)⟩
 t0:=Tryz.underlying0
 a0:=Tryz.isAgg0
 z0:=Tryz.sizeOf0
 v0:=Tryz.zeroValue0
 t3:=Tryz.underlying3
 a3:=Tryz.isAgg3
 z3:=Tryz.sizeOf3
 v3:=Tryz.zeroValue3
 t4:=Tryz.underlying4
 a4:=Tryz.isAgg4
 z4:=Tryz.sizeOf4
 v4:=Tryz.zeroValue4
 t5:=Tryz.underlying5
 a5:=Tryz.isAgg5
 z5:=Tryz.sizeOf5
 v5:=Tryz.zeroValue5
 t9:=Tryz.underlying9
 a9:=Tryz.isAgg9
 z9:=Tryz.sizeOf9
 v9:=Tryz.zeroValue9
 t22:=Tryz.underlying137
 a22:=Tryz.isAgg137
 z22:=Tryz.sizeOf137
 v22:=Tryz.zeroValue137
 t23:=Tryz.underlying137
 a23:=Tryz.isAgg137
 z23:=Tryz.sizeOf137
 v23:=Tryz.zeroValue137
 t25:=Tryz.underlying3
 a25:=Tryz.isAgg3
 z25:=Tryz.sizeOf3
 v25:=Tryz.zeroValue3
 t32:=Tryz.underlying250
 a32:=Tryz.isAgg250
 z32:=Tryz.sizeOf250
 v32:=Tryz.zeroValue250
 t35:=Tryz.underlying252
 a35:=Tryz.isAgg252
 z35:=Tryz.sizeOf252
 v35:=Tryz.zeroValue252
 t36:=Tryz.underlying253
 a36:=Tryz.isAgg253
 z36:=Tryz.sizeOf253
 v36:=Tryz.zeroValue253
 t41:=Tryz.underlying45
 a41:=Tryz.isAgg45
 z41:=Tryz.sizeOf45
 v41:=Tryz.zeroValue45
 t44:=Tryz.underlying260
 a44:=Tryz.isAgg260
 z44:=Tryz.sizeOf260
 v44:=Tryz.zeroValue260
 t46:=Tryz.underlying262
 a46:=Tryz.isAgg262
 z46:=Tryz.sizeOf262
 v46:=Tryz.zeroValue262
 t53:=Tryz.underlying263
 a53:=Tryz.isAgg263
 z53:=Tryz.sizeOf263
 v53:=Tryz.zeroValue263
 t57:=Tryz.underlying267
 a57:=Tryz.isAgg267
 z57:=Tryz.sizeOf267
 v57:=Tryz.zeroValue267
 t63:=Tryz.underlying269
 a63:=Tryz.isAgg269
 z63:=Tryz.sizeOf269
 v63:=Tryz.zeroValue269
 t64:=Tryz.underlying110
 a64:=Tryz.isAgg110
 z64:=Tryz.sizeOf110
 v64:=Tryz.zeroValue110 }
end Go.Proofs
namespace Go.Proofs
open Go.RowKit Go.Maps Go.Sort Go.Shelf
theorem Tryz.sortsA (m:Nat):AnyZI.SortsIn Tryz.prog Tryz.sortedA_ren Fence.wide m :=
 ⟨fun blk off cap ss W hH hblk hsz=>callsIn_wide.2 (AnyM.slices_Sort_int Tryz.sortA blk off cap ss W hH hblk hsz),
  fun p cap W=>callsIn_wide.2 (AnyM.slices_Sort_int_none Tryz.sortA p cap W)⟩
set_option maxHeartbeats 1000000 in
theorem Tryz.sortedKeys {H:Type}(Bm b nn:Nat) (D0:DataW H) (R:Value→Option (DataW H×List MemPlace)) (w:World) (hBm:Bm<w.heap.size) (hcell:w.cell? ⟨Bm,0,none⟩=some (.map (some b))) (hown:w.ownsMap Tryz.prog 3 R b nn D0) (hmax:Maps.size D0≤maxLen) (hbytes:Maps.size D0*8≤140737488355328) :
  Calls Tryz.prog 192 #[.func (.func 199) #[] #[.pointer (some ⟨Bm,0,none⟩)]] w fun e w'=>∃(v:Value) (ss:List Int),e= .returned v∧ss.Perm (intKeys D0) ∧
   w'.ownsRow w.heap.size 3 1 v ss.length ((ss.mergeSort (fun x y=>decide (x≤y))).map encZ)∧(v= .slice none 0 0↔ss=[])∧Below w.heap.size w w':=by
 refine(callsIn_wide (n:=5)).1 ?_;have hseq:SeqGives Fence.wide 2 Tryz.prog 199 #[.pointer (some ⟨Bm,0,none⟩)] encZ (fun ss=>ss.Perm (intKeys D0)) (Maps.size D0) w :=
  AnyZI.keys_gives (ρ:=Tryz.keysA_ren) { Tryz.keysA with } Fence.wide _ trivial rfl Ar Bm b nn D0 w hBm hcell hown
 exact AnyZI.sorted_in Tryz.sortedA Fence.wide 5 Au Au Au Au O Ar (Tryz.sortsA _) (enters_of Tryz.func198 An O) 199 #[.pointer (some ⟨Bm,0,none⟩)] Au (enters_of Tryz.func199 An O) _ _ hmax hbytes _ hseq
end Go.Proofs
namespace Go.Proofs.YtboammbpdaoojaaGreat
open Go.Abs Go.Eu
theorem eD:∀(m:Nat),Bu Tryz.prog 193 [.map m] [] (eK (fun b=> .fn (.func 199) [] [.ptr b 0]) [.map m]):=by
 intro m;refine A9 Tryz.func193 O l7 (n:=4) O O (A3 (BP O (BY O) fun b1=>Ax A8 1 [] O (Ay A8 2 [] O (A4 (⟨O,_,_,⟨_,_,O,O,O⟩,(CO (is:=[0]) O),?_⟩)))));exact⟨_,O,O⟩
theorem ZC:∀(b m:Nat) (M:List (Int×Int)),M.length<1000000→(∀k∈M.map Prod.fst,-65536≤k∧k<8)→Bu Tryz.prog 192 [.fn (.func 199) [] [.ptr b 0]] [.box b [.map m],.map m (D7 (GN M))] (HM (.p (.lst ((Et (M.map Prod.fst)).map GC))) [.box b [.map m],.map m (D7 (GN M))]):=fun b m M h1 h2=>PK (kT:=3) (eT:=3) An An (fun Bm b nn D0 R w g1 g2 g3 g4 g5=>Tryz.sortedKeys Bm b nn D0 R w g1 g2 g3 g4 g5) b m M h1 h2
theorem Y9:∀(s m:Nat) (M:List (Int×Int)) (C:Int),(Vz (M,C))→Bu Tryz.prog 186 [.ptr s 0] [.box s [.map m,.p (I C)],.map m (D7 (GN M))] (HM (.tup [.agg ((CD ((Ij ⟨C,GQ M⟩).1)).map .p),.p (I ((Ij ⟨C,GQ M⟩).2))]) [.box s [.map m,.p (I C)],.map m (D7 (GN M))]):=by
 intro s m M C h1;have hkl:(Et (M.map Prod.fst)).length=M.length:=by simp[Su]
 have hml:M.length≤65544:=h1.len;refine A9 Tryz.func186 O kW (n:=41) O O (A3 (BP O (BE He O) fun b2=>Ax A8 1 [] O (A3 (A2 A8 5 [1] O (BP O (BE He O) fun b4=>Ax A8 1 [0,0] O (Az (A3 (CN (Lu (i:=0) O (dt (aw (we O) (aw (N9) (FB))))) (CN (ML (sz:=2)) (A2 A8 4 [3] O (gP O O O (.inl ⟨O,O,O⟩) (eD m) (DS _) fun bk=>Av O (Co [0,5] O (.inl ⟨O,O,O⟩) (ZC bk m M Ar h1.r) ⟨_,_,O,O,⟨_,_,O,O,O⟩⟩ Aq O (.inl O)) (Av O (BS HE O (List.length_map _)) (Ax A8 1 [] O (BH ?_))))))))))))));refine Bn (α:=Nat×Option Nat×Nat) (fun(i,o,cp)=>⟨41,mk [(0,.ptr s 0),(2,.ptr b2 0),(4,.ptr b4 0),(17,.p (.lst (List.map GC (Et (M.map Prod.fst))))),(18,.p (I ((Et (M.map Prod.fst)).length:Nat))),(19,.p (I (i:Int)))],[.vec o 2 (List.map Gm (((Et (M.map Prod.fst)).take i).map (PJ M))) cp,.box b4 [.p (I C),.vs o (List.map Gm (((Et (M.map Prod.fst)).take i).map (PJ M))).length cp],.box b2 [.p (I 0),.p (.nils)],.box s [.map m,.p (I C)],.map m (D7 (GN M))],[]⟩) (fun(i,o,cp)=>(Et (M.map Prod.fst)).length - i) (fun(i,o,cp)=>i≤(Et (M.map Prod.fst)).length) ⟨0,none,0⟩ AP ?_ ?_
 ·exact Bh ⟨we O,we O,we O,we O,we O,we O,Au⟩ (leH (is:=[1,2,3,4,5]) O (wl (oe O) (wl (oe O) (wl (oe O) (wl (oe O) (wl (oe O) (Dd)))))))
 rintro⟨i,o,cp⟩ hC
 try simp only at hC
 have hi:=hC;refine Ay A8 1 [] O (Az (A0 O (fun c=>?_) (fun c=>?_)))
 ·(try simp only[sd,se] at c);refine A5 (Az (BH (A3 ?_)));obtain⟨x,hx⟩:=BB (l:=Et (M.map Prod.fst)) (i:=i) Ar;refine Av O (BA HE O O Ar (K1 hx) (O)) (Ax A8 2 [] O (CG (fun k=>Nat.beq k 11) Eg (A1 O (fun _=>Aw JB O O) Au (BT (j:=1) O O O (fun H i hi=>BG (i:=i) PB O hi O) AB Au (A1 O (fun _=>BC O) Au (A1 O (fun _=>BC O) Au (A1 O (fun _=>DB O) Au (A1 O (fun _=>Aw Sj O O) Au (BT (j:=3) O O O (fun H i hi=>BG (i:=i) dE O hi O) AB Au (A1 O (fun _=>BC O) Au ?_))))))))));refine BT (j:=4) O O O (fun H i hi=>Vn (i:=i) Z0 fj (fun _ _=>by simp[CF,CK]) rfl rfl hi (Va _ _)) AB trivial ?_;refine A1 O (fun _=>CE Ia L4 O) Au (A1 O (fun _=>CC EA L4 O O O O O) Au (OI [] O O (C4 (i:=0) (rows':=List.map Gm [(CT.mk x ((mg x M).getD 0))]) EA EA L4 O O O O O O (Ml _) (by simp only[List.length_map,List.length_append,List.length_take,List.length_cons,List.length_nil];omega) (JS (f:=Gm) (((Et (M.map Prod.fst)).take i).map (PJ M)) [(CT.mk x ((mg x M).getD 0))])) An fun o1 cp1=>⟨AB,Au,?_⟩));refine A1 O (fun _=>Aw JB O O) Au (Cd O O (Cl (i:=1) PB O O O O O O) AB Au (B6 O An (A7 (Ax A8 2 [] O ?_))));refine⟨⟨i+1,o1,cp1⟩,AT,by omega,Bh ⟨we rfl,we rfl,we rfl,we rfl,we rfl,we rfl,trivial⟩ (leH (is:=[0,1,2,3,4]) rfl (wl (F6 (f:=Gm) (((Et (M.map Prod.fst)).take i).map (PJ M)++[(CT.mk x ((mg x M).getD 0))]) (by rw[List.take_add_one,hx];simp[PJ])) (wl (dt (aw (we rfl) (aw (we (Gq (f:=Gm) (((Et (M.map Prod.fst)).take i).map (PJ M)++[(CT.mk x ((mg x M).getD 0))]) (by rw[List.take_add_one,hx];simp[PJ]))) (FB)))) (wl (oe rfl) (wl (oe rfl) (wl (oe rfl) (Dd)))))))⟩
 (try simp only[sd,se] at c);refine Bp (A3 (CN (Ei (i:=0) (j:=1) (q:=1) [] O O O (FQ Au)) (Av O (BI (i:=0) FK O O O) (Av O (BM O O (W2 (Cf.mk C (((Et (M.map Prod.fst)).take i).map (PJ M))) (by simp only[List.length_map,List.length_take,Dv];omega)) O) (Ax A8 4 [1,1] O (A4 (⟨O,_,_,⟨_,_,O,(BN (i:=1) FK O O Aj),⟨_,_,O,O,O⟩⟩,(CO (is:=[2,3]) O),?_⟩)))))))
 all_goals exact⟨by show (.tup [.agg ((CD ((Ij (Cf.mk C (((Et (M.map Prod.fst)).take i).map (PJ M)))).1)).map .p),.p (I ((Ij (Cf.mk C (((Et (M.map Prod.fst)).take i).map (PJ M)))).2))]:AV)=_;rw[show ((Et (M.map Prod.fst)).take i).map (PJ M)=GQ M from V4 Ar],rfl⟩
theorem ZQ:∀(l:Cf) (ps:List Cf),(RQ l)→(ps.length<Dv)→(∀p∈ps,RQ p)→FF Tryz.prog 166 [.agg ((CD l).map .p),.p (.lst (List.map CD ps))] (.tup [.agg ((CD ((H4 l ps).1)).map .p),.p (I ((H4 l ps).2))]):=by
 intro l ps h1 h2 h3;have hl:=h1.vars;have hl2:=h2;simp only[Dv] at hl hl2;refine A9 Tryz.func166 O mV (n:=63) O O (A3 (BP O (BY O) fun b2=>BP O (BE He O) fun b4=>Ax A8 1 [] O (Az (Az (Bb [1,2,4] 16 (fun y=>y= .p (.bool ((!(Ca l))||(!(ps.all Ca))))) ?_ ?_)))))
 ·refine A7 (Av O (BI (i:=1) FK O O Aj) (Av O (BM O O (QU l h1) O) (A2 A8 2 [] O (BQ 12 O (fun g=>?_) (fun g=>?_)))))
  ·(try simp only[sd,se] at g);exact Ax A8 4 [] O (⟨O,O,AK,AI,⟨O,O,O,Au⟩⟩)
  (try simp only[sd,se] at g);exact BF O (BC O) (BF O (BM O O (UQ ps h2 h3) O) (Ax A8 2 [] O (⟨O,O,AK,AI,⟨O,O,O,Au⟩⟩)))
 rintro _ rfl;refine A0 O (fun c=>?_) (fun c=>?_)
 ·(try simp only[sd,se] at c);refine Ay A8 3 [0,0] O (BZ (Bl (i:=0) O) (A4 (⟨O,_,_,⟨_,_,O,(BN (i:=0) FK O O O),⟨_,_,O,O,O⟩⟩,(List.nil_sublist _),?_⟩)))
  all_goals exact⟨by show (.tup [.agg [.p (I 0),.p (.lst [])],.p (I 3)]:AV)=_;rw[show H4 l ps=(G7,3) by rw[H4,if_pos (by simpa using c)]];rfl,rfl⟩
 (try simp only[sd,se] at c);have hv:Ca l=true∧ps.all Ca=true:=by simpa using c
 refine A5 (Az (A3 (Av O (BI (i:=1) FK O O Aj) (Av O (BM O O (Zn l h1) O) (B0 O (Av O (BS Fb O (List.length_map _)) (Ax A8 1 [] O (A0 O (fun c1=>?_) (fun c1=>?_)))))))))
 ·(try simp only[sd,se] at c1);refine Ay A8 3 [0,0] O (BZ (Bl (i:=0) O) (A4 (⟨O,_,_,⟨_,_,O,(BN (i:=0) FK O O O),⟨_,_,O,O,O⟩⟩,(List.nil_sublist _),?_⟩)))
  all_goals exact⟨by show (.tup [.agg [.p (I 0),.p (.lst [])],.p (I 24)]:AV)=_;rw[show H4 l ps=(G7,24) by rw[H4,if_neg (by simp[hv]),if_pos c1]];rfl,rfl⟩
 (try simp only[sd,se] at c1);have hpl:¬(GY l > ps.length):=by omega
 refine A5 (A3 (YD O O O (.inl ⟨O,O,O⟩) bw (DS _) fun bs=>?_));obtain⟨bs,mm⟩:=bs;refine Ax A8 1 [] O (Ay A8 6 [3,0,0] O (Az (A3 (A2 A8 2 [3] O (Av O (BS EA O (List.length_map _)) (Ax A8 1 [] O (BH (Bn (α:=Nat) (fun i=>⟨63,mk [(1,.p (.lst (List.map CD ps))),(4,.ptr b4 0),(6,.ptr bs 0),(31,.p (.lst (List.map Gm l.vars))),(32,.p (I (l.vars.length:Nat))),(33,.p (I (i:Int)))],[.box bs [.map mm,.p (I (((l.vars.take i).foldl (D3 ps) ([],l.const)).2))],.map mm (D7 (GN ((l.vars.take i).foldl (D3 ps) ([],l.const)).1)),.box b4 [.p (I 0),.p (.nils)]],[]⟩) (fun i=>l.vars.length - i) (fun i=>i≤l.vars.length) 0 AP ?_ ?_))))))))
 ·exact Bh ⟨we O,we O,we O,we O,we O,we O,Au⟩ (leH (is:=[0,1,2]) O (wl (oe O) (wl (oe O) (wl (oe O) (Dd)))))
 rintro i hC
 try simp only at hC
 have hi:=hC;refine Ay A8 1 [] O (Az (A0 O (fun c2=>?_) (fun c2=>?_)))
 ·(try simp only[sd,se] at c2);refine A5 (Az (BH (A3 ?_)));obtain⟨x,hx⟩:=BB (l:=l.vars) (i:=i) Ar;have hw:=TQ hv.1 hx;have hpi:=aF hv.1 hpl hx;refine Av O (BA EA O O Ar (Ee hx) (O)) (Av O (BO O1 O (O)) (BP O (BE L4 O) fun b8=>Ax A8 1 [0,1] O (Ay A8 3 [0] O (A0 O (fun c3=>?_) (fun c3=>?_)))))
  ·(try simp only[sd,se] at c3);refine CG (fun k=>false) Eg (A1 O (fun _=>BC O) Au (A1 O (fun _=>DB O) Au (A1 O (fun _=>Aw Sj O O) Au (BT (j:=1) O O O (fun H i hi=>BG (i:=i) dE O hi O) AB Au (A1 O (fun _=>Aw Ia O O) Au (BT (j:=0) O O O (fun H i hi=>BG (i:=i) C7 O hi O) AB Au (A1 O (fun _=>Aw Ia O O) Au (BT (j:=0) O O O (fun H i hi=>BG (i:=i) C7 O hi O) AB Au (Cd O O (Co [2] O (.inl ⟨O,O,O⟩) (VX mm (((l.vars.take i).foldl (D3 ps) ([],l.const)).1) x.index x.plus) ⟨_,_,O,O,O⟩ Aq O (.inl O)) AB Au (B6 O An (A7 (Ax A8 2 [] O ?_))))))))))));refine⟨(i+1),AT,by omega,Bh ⟨we rfl,we rfl,we rfl,we rfl,we rfl,we rfl,trivial⟩ (leH (is:=[1,2,3]) rfl (wl (ob (by first | (simp only[step_take hx,UL c3];done) | (simp only[step_take hx,Td c3 hx1];done))) (wl (om (by first | (simp only[step_take hx,UL c3];done) | (simp only[step_take hx,Td c3 hx1];done))) (wl (oe rfl) (Dd)))))⟩
  (try simp only[sd,se] at c3);refine CG (fun k=>false) Eg (A1 O (fun _=>BC O) Au (A1 O (fun _=>BC O) Au (A1 O (fun _=>Aw Ia O O) Au (BT (j:=0) O O O (fun H i hi=>BG (i:=i) C7 O hi O) AB Au ?_))));obtain⟨x1,hx1⟩:=BB (l:=ps) (i:=(x.index:Int).toNat) Ar;refine A1 O (fun _=>BA Fb O O Ar (G0 hx1) (Dw _)) Au (A1 O (fun _=>BO FK O (Dw _)) Au (A1 O (fun _=>Aw Ia O O) Au (BT (j:=0) O O O (fun H i hi=>BG (i:=i) C7 O hi O) AB Au (Cd O O (Co [1,2] O (.inl ⟨O,O,O⟩) (gN bs mm (((l.vars.take i).foldl (D3 ps) ([],l.const)).1) (((l.vars.take i).foldl (D3 ps) ([],l.const)).2) x1 x.plus (Lx.of (List.all_eq_true.1 hv.2 _ (List.mem_of_getElem? hx1))) hw.1.1 hw.1.2) ⟨_,_,O,O,⟨_,_,O,O,O⟩⟩ Aq O (.inl O)) AB Au (B6 O An (A7 (Ax A8 2 [] O ?_)))))));refine⟨(i+1),AT,by omega,Bh ⟨we rfl,we rfl,we rfl,we rfl,we rfl,we rfl,trivial⟩ (leH (is:=[1,2,3]) rfl (wl (ob (by first | (simp only[step_take hx,UL c3];done) | (simp only[step_take hx,Td c3 hx1];done))) (wl (om (by first | (simp only[step_take hx,UL c3];done) | (simp only[step_take hx,Td c3 hx1];done))) (wl (oe rfl) (Dd)))))⟩
 (try simp only[sd,se] at c2);refine Bp (A3 ?_);have hfin:Vz ((l.vars.take i).foldl (D3 ps) ([],l.const)):=Vz.fold (List.all_eq_true.1 hv.2) _ _ (Vz.zero _) (fun x hx=>by
  obtain⟨j,hj⟩:=List.mem_iff_getElem?.1 (List.mem_of_mem_take hx);exact⟨TQ hv.1 hj,aF hv.1 hpl hj⟩)
 refine B0 O (Av O (Co [0,1] O (.inl ⟨O,O,O⟩) (Y9 bs mm (((l.vars.take i).foldl (D3 ps) ([],l.const)).1) (((l.vars.take i).foldl (D3 ps) ([],l.const)).2) hfin) ⟨_,_,O,O,⟨_,_,O,O,O⟩⟩ Aq O (.inl O)) (Ax A8 4 [2,1] O (A4 (⟨O,_,_,⟨_,_,O,(BN (i:=2) FK O O Aj),⟨_,_,O,O,O⟩⟩,(List.nil_sublist _),?_⟩))))
 all_goals exact⟨by show (.tup [.agg ((CD ((Ij ⟨(((l.vars.take i).foldl (D3 ps) ([],l.const)).2),GQ (((l.vars.take i).foldl (D3 ps) ([],l.const)).1)⟩).1)).map .p),.p (I ((Ij ⟨(((l.vars.take i).foldl (D3 ps) ([],l.const)).2),GQ (((l.vars.take i).foldl (D3 ps) ([],l.const)).1)⟩).2))]:AV)=_;rw[show H4 l ps=Ij ⟨(l.vars.foldl (D3 ps) ([],l.const)).2,GQ (l.vars.foldl (D3 ps) ([],l.const)).1⟩ by rw[H4,if_neg (by simp[hv]),if_neg hpl]];rw[show l.vars.take i=l.vars from List.take_of_length_le Ar],rfl⟩
theorem _root_.Go.Ak {α:Prop}(h:α:=by simp[BJ]):α:=h
theorem VD:∀(f:Tm) (xs:List Tm),(xs.length<Dv)→FF Tryz.prog 24 [.agg ((BU f).map .p),.p (.lst (BK xs))] (.agg ((BU (apply f xs)).map .p)):=by
 intro f xs h1;simp only[Dv] at h1;refine A9 Tryz.func24 O oV (n:=20) O O (A3 (BP O (BY O) fun b2=>BP O (BE B8 O) fun b4=>Bk O (Az (Ay A8 1 [] O (BH (Bn (α:=Nat) (fun i=>⟨20,mk [(1,.p (.lst (BK xs))),(2,.ptr b2 0),(4,.ptr b4 0),(5,.p (I (i:Int)))],[.box b4 [.p (I 0),.p (I 0),.p (.str ⟨#[]⟩),.p (.nils),.p (.nils)],.box b2 ((BU (apply f (xs.take i))).map .p)],[]⟩) (fun i=>xs.length - i) (fun i=>i≤xs.length) 0 AP ?_ ?_))))))
 ·exact Bh ⟨we O,we O,we O,we O,Au⟩ (leH (is:=[0,1]) O (wl (oe O) (wl (oe O) (Dd))))
 rintro i hC
 try simp only at hC
 have hi:=hC;refine Az (A3 (A2 A8 2 [] O (Av O (BS Br O (Bc _)) (Ax A8 1 [] O (A0 O (fun c=>?_) (fun c=>?_))))))
 ·(try simp only[sd,se] at c);refine A5 (Az (BH (CG (fun k=>false) Eg (BT (j:=1) O O O (fun H i hi=>BI (i:=i) Ba O hi Ak) AB Au (A1 O (fun _=>BC O) Au (A1 O (fun _=>BC O) Au ?_))))));obtain⟨x,hx⟩:=BB (l:=xs) (i:=i) Ar;refine A1 O (fun _=>BA Br O O Ar (Bj hx) (BJ _)) Au (A1 O (fun _=>BO Ba O (BJ _)) Au ?_);generalize hz:(apply f (xs.take i))=z;obtain⟨zk,zi,zn,zl,zs⟩:=z;obtain⟨xk,xi,xn,xl,xs1⟩:=x;refine A1 O (fun _=>CC Br B8 O O O O O) Au (A1 O (fun _=>CE Dq B8 O) Au (Cd O O (Cl (i:=1) Ba O O O O O O) AB Au (B6 O An (A7 (Ax A8 3 [] O ?_)))));refine⟨(i+1),AT,by omega,Bh ⟨we rfl,we rfl,we rfl,we rfl,trivial⟩ (leH (is:=[0,1]) rfl (wl (oe rfl) (wl (on (by rw[P4 hx,hz];rfl)) (Dd))))⟩
 (try simp only[sd,se] at c);refine Bp (Ay A8 2 [1,0,1] O (A4 (⟨O,_,_,⟨_,_,O,(BN (i:=0) Ba O O Ak),O⟩,(List.nil_sublist _),?_⟩)))
 all_goals exact⟨by show (.agg ((BU (apply f (xs.take i))).map .p):AV)=_;rw[show i=xs.length by omega,List.take_length],rfl⟩
theorem _root_.Go.AX {α:Prop}(h:α:=by first | rfl | simp[BJ]):α:=h
theorem _root_.Go.Ab {α:Prop}(h:α:=by simp only[Dv];omega):α:=h
theorem Zh:∀(n:Nat) (t:Tm),(size t≤n)→(n<Dv)→Bu Tryz.prog 21 [.agg ((BU t).map .p)] [] (Ya (fun v=> .tup [.agg ((BU ((BD t).1)).map .p),v]) 5 (BK ((BD t).2))):=by
 intro n
 induction n with
 | zero=>intro t h;cases t;simp[size] at h
 | succ n ih =>
  intro t h1 h2;simp only[Dv] at h2;refine A9 Tryz.func21 O nt (n:=32) O O (A3 (BP O (BY O) fun b1=>BP O (BE B8 O) fun b2=>Ax A8 1 [] O (Az (Az ?_))));obtain⟨tk,ti,tn,tl,ts⟩:=t;simp only[size] at h1;refine Bb [1,2] 14 (fun y=>y= .p (.bool (((tk:Int) !=(4:Int))||(((ts.length:Nat):Int) !=(2:Int))))) ?_ ?_
  ·refine A7 (A2 A8 4 [1] O (BQ 9 O (fun g=>?_) (fun g=>?_)))
   ·(try simp only[sd,se] at g);exact Ax A8 5 [] O (⟨O,O,AK,AI,⟨O,O,Au⟩⟩)
   (try simp only[sd,se] at g);exact A2 A8 2 [1] O (BF O (BS Br O (Bc _)) (Ax A8 2 [] O (⟨O,O,AK,AI,⟨O,O,Au⟩⟩)))
  rintro _ rfl;refine A0 O (fun c=>?_) (fun c=>?_)
  ·(try simp only[sd,se] at c);refine Ay A8 3 [1,0,0] O (BZ (F3 (t:=3) (sz:=5) O) (A4 (⟨O,_,_,⟨_,_,O,(BN (i:=1) Ba O O O),⟨_,_,O,O,O⟩⟩,(CO (is:=[0]) O),?_⟩)));rw[MJ c]
   all_goals exact⟨_,_,rfl,rfl⟩
  (try simp only[sd,se] at c);refine A5 (A3 (A2 A8 2 [1] O ?_));obtain⟨x,hx⟩:=BB (l:=ts) (i:=0) Ar;refine Av O (BA Br O O Ar (Bj hx) (BJ _)) (Av O (BO Ba O (BJ _)) (MU O O O (.inl ⟨O,O,O⟩) (ih x (by have:=Cj hx;omega) Ab) (.inl O) fun o cp=>A2 A8 3 [] O (BP O (BE B8 O) fun b4=>Ax A8 2 [0,1] O (Az (CG (fun k=>Nat.beq k 7) Eg (BT (j:=0) O O O (fun H i hi=>BI (i:=i) Ba O hi Ak) AB Au (A1 O (fun _=>BC O) Au (A1 O (fun _=>Aw Dq O O) Au (BT (j:=3) O O O (fun H i hi=>BG (i:=i) E3 O hi O) AB Au ?_)))))))));obtain⟨x1,hx1⟩:=BB (l:=ts) (i:=1) Ar;refine A1 O (fun _=>BA Br O O Ar (Bj hx1) (BJ _)) Au (A1 O (fun _=>BO Ba O (BJ _)) Au ?_);obtain⟨x1k,x1i,x1n,x1l,x1s⟩:=x1;refine A1 O (fun _=>CC Br B8 O O O O O) Au (OI [] O O (C4 (i:=1) (rows':=BK [(.mk x1k x1i x1n x1l x1s:Tm)]) Br Br B8 O O O O O O (B9 _) (by have:=SF x;have:=Cj hx;simp[Bc];omega) (O7 ((BD x).2) [(.mk x1k x1i x1n x1l x1s:Tm)])) An fun o1 cp1=>⟨AB,Au,?_⟩);refine Cd O O (Bd (i:=2) Ba O O O Ak AX (DR _)) AB Au (A1 O (fun _=>Bf O) Au (B6 O An (A4 (⟨O,_,_,⟨_,_,O,(BN (i:=2) Ba O O Ak),⟨_,_,O,O,O⟩⟩,(CO (is:=[1]) O),?_⟩))));rw[SK c hx hx1]
  all_goals exact⟨_,_,rfl,rfl⟩
theorem bg:∀(n:Nat) (t:Tm),size t≤n→n<Dv→FF Tryz.prog 21 [TV t] (.tup [TV (BD t).1,l4 (BD t).2]) :=
 fun n t h1 h2=>XC (pre:=[_]) (post:=[]) (Zh n t h1 h2) (fun x _=>Ui x)
theorem Tv:∀(n:Nat) (t:Tm),(size t≤n)→(Nd t)→FF Tryz.prog 77 [.agg ((BU t).map .p)] (.p (I (Fo t))):=by
 intro n
 induction n with
 | zero=>intro t h;cases t;simp[size] at h
 | succ n ih =>
  intro t h1 h2;obtain⟨tk,ti,tn,tl,ts⟩:=t;simp only[size] at h1;simp only[Nd,Dv] at h2;refine A9 Tryz.func77 O ph (n:=21) O O (A3 (BP O (BY O) fun b1=>Ax A8 1 [] O (Ay A8 1 [] O (Az (Ay A8 1 [] O (BH (Bn (α:=Nat×Int) (fun(i,m)=>⟨21,mk [(1,.ptr b1 0),(3,.p (I m)),(4,.p (I (i:Int)))],[.box b1 [.p (I tk),.p (I ti),.p (.str tn),.p (.lst (List.map CD tl)),.p (.lst (BK ts))]],[]⟩) (fun(i,m)=>ts.length - i) (fun(i,m)=>i≤ts.length∧(J6 m (ts.drop i)=J6 1 ts)) ⟨0,1⟩ As ?_ ?_)))))))
  ·exact Bh ⟨we O,we O,we O,Au⟩ (leH (is:=[0]) O (wl (oe O) (Dd)))
  rintro⟨i,m⟩ hC
  try simp only at hC
  obtain⟨hi,hC⟩:=hC;refine Az (A3 (A2 A8 3 [0] O (Av O (BS Br O (Bc _)) (Ax A8 1 [] O (A0 O (fun c=>?_) (fun c=>?_))))))
  ·(try simp only[sd,se] at c);refine A5 (Az (BH (A7 (A2 A8 4 [0] O ?_))));obtain⟨x,hx⟩:=BB (l:=ts) (i:=i) Ar;refine Av O (BA Br O O Ar (Bj hx) (BJ _)) (Av O (BO Ba O (BJ _)) (Av O (BM O O (ih x (by have:=Cj hx;omega) (Dy h2.2.2.2.2.1 hx)) O) (Av O (FC O O) (Ax A8 1 [] O (A7 (Ax A8 3 [] O ?_))))));refine⟨⟨i+1,wr (m+Fo x)⟩,AT,⟨by omega,by rw[←hC,C2 hx];rfl⟩,Bh ⟨we rfl,we rfl,we rfl,trivial⟩ (leH (is:=[0]) rfl (wl (oe rfl) (Dd)))⟩
  (try simp only[sd,se] at c);refine Bp (Ay A8 2 [] O (A4 (⟨O,_,_,⟨_,_,O,O,O⟩,(List.nil_sublist _),?_⟩)))
  all_goals exact⟨pI (by rw[show Fo (.mk tk ti tn tl ts)=J6 1 ts from rfl,←hC,show i=ts.length by omega,List.drop_length];rfl),rfl⟩
theorem Qd:∀(n:Nat) (t:Tm),(size t≤n)→(Nd t)→FF Tryz.prog 93 [.agg ((BU t).map .p)] (.p (I (Ep t))):=by
 intro n
 induction n with
 | zero=>intro t h;cases t;simp[size] at h
 | succ n ih =>
  intro t h1 h2;obtain⟨tk,ti,tn,tl,ts⟩:=t;simp only[size] at h1;simp only[Nd,Dv] at h2;refine A9 Tryz.func93 O pU (n:=22) O O (A3 (BP O (BY O) fun b1=>Ax A8 1 [] O (Ay A8 1 [] O (Az (Ay A8 1 [] O (BH (Bn (α:=Nat×Int) (fun(i,m)=>⟨22,mk [(1,.ptr b1 0),(3,.p (I m)),(4,.p (I (i:Int)))],[.box b1 [.p (I tk),.p (I ti),.p (.str tn),.p (.lst (List.map CD tl)),.p (.lst (BK ts))]],[]⟩) (fun(i,m)=>ts.length - i) (fun(i,m)=>i≤ts.length∧(JL m (ts.drop i)=JL 0 ts)) ⟨0,0⟩ As ?_ ?_)))))))
  ·exact Bh ⟨we O,we O,we O,Au⟩ (leH (is:=[0]) O (wl (oe O) (Dd)))
  rintro⟨i,m⟩ hC
  try simp only at hC
  obtain⟨hi,hC⟩:=hC;refine Az (A3 (A2 A8 3 [0] O (Av O (BS Br O (Bc _)) (Ax A8 1 [] O (A0 O (fun c=>?_) (fun c=>?_))))))
  ·(try simp only[sd,se] at c);refine A5 (Az (BH (A7 (A2 A8 4 [0] O ?_))));obtain⟨x,hx⟩:=BB (l:=ts) (i:=i) Ar;refine Av O (BA Br O O Ar (Bj hx) (BJ _)) (Av O (BO Ba O (BJ _)) (Av O (BM O O (ih x (by have:=Cj hx;omega) (Dy h2.2.2.2.2.1 hx)) O) (Av O (IN O O) (Ax A8 1 [] O (A7 (Ax A8 3 [] O ?_))))));refine⟨⟨i+1,max m (Ep x)⟩,AT,⟨by omega,by rw[←hC,C2 hx];rfl⟩,Bh ⟨we rfl,we rfl,we rfl,trivial⟩ (leH (is:=[0]) rfl (wl (oe rfl) (Dd)))⟩
  (try simp only[sd,se] at c);refine Bp (A3 (B0 O (Av O (FC O O) (Ax A8 1 [] O (A4 (⟨O,_,_,⟨_,_,O,O,O⟩,(List.nil_sublist _),?_⟩))))))
  all_goals exact⟨pI (by rw[show Ep (.mk tk ti tn tl ts)=wr (JL 0 ts+1) from rfl,←hC,show i=ts.length by omega,List.drop_length];rfl),rfl⟩
theorem di:∀(b:Nat) (er nd e:Int),Bu Tryz.prog 141 [.ptr b 0,.p (I e)] [.box b [.p (I er),.p (I nd)]] (HM (.tup []) [.box b [.p (I (GI er e)),.p (I nd)]]):=by
 intro b er nd e;refine A9 Tryz.func141 O m0 (n:=13) O O (Ay A8 5 [0] O (A0 O (fun c=>?_) (fun c=>?_)))
 ·(try simp only[sd,se] at c);refine A7 (Ax A8 5 [0,0] O ⟨O,_,_,O,(CO (is:=[0]) O),?_⟩);refine⟨O,?_⟩;show ([.box b [.p (I e),.p (I nd)]]:List BL)=_;simp[GI,c]
 (try simp only[sd,se] at c);refine A5 ⟨O,_,_,O,(CO (is:=[0]) O),?_⟩;refine⟨O,?_⟩;show ([.box b [.p (I er),.p (I nd)]]:List BL)=_;simp[GI,c]
theorem Wq:∀(b:Nat) (er nd i:Int),Bu Tryz.prog 126 [.ptr b 0,.p (I i)] [.box b [.p (I er),.p (I nd)]] (HM (.agg ((BU (PH i)).map .p)) [.box b [.p (I (NK er i)),.p (I nd)]]):=by
 intro b er nd i;refine A9 Tryz.func126 O km (n:=11) O O (A3 (BP O (BE B8 O) fun b4=>Bk O (Az (Ay A8 2 [] O (A0 O (fun c=>?_) (fun c=>?_))))))
 ·(try simp only[sd,se] at c);refine A7 (B0 O (Av O (Co [1] O (.inl ⟨O,O,O⟩) (di b er nd 24) ⟨_,_,O,O,O⟩ Aq O (.inl O)) (Bk O (Ay A8 3 [0,0] O (BZ (Bl (i:=0) O) (A4 (⟨O,_,_,⟨_,_,O,(BN (i:=0) Ba O O O),O⟩,(CO (is:=[1]) O),?_⟩)))))));refine⟨O,?_⟩;show ([.box b [.p (I (GI er 24)),.p (I nd)]]:List BL)=_;simp[NK,show i > 65535 by omega]
 (try simp only[sd,se] at c);refine A5 (Ay A8 3 [0,0] O (BZ (Bl (i:=0) O) (A4 (⟨O,_,_,⟨_,_,O,(BN (i:=0) Ba O O O),O⟩,(CO (is:=[1]) O),?_⟩))));refine⟨O,?_⟩;show ([.box b [.p (I er),.p (I nd)]]:List BL)=_;simp[NK,show ¬i > 65535 by omega]
theorem _root_.Go.AE {α:Prop}(h:α:=by simp only[Bc,List.length_map,List.length_cons,List.length_nil,List.nil_append,List.length_append];omega):α:=h
theorem fP:∀(n:Nat) (t:Tm) (b:Nat) (by' fr d er nd:Int),(size t≤n)→(Nd t)→(0≤d)→(d+n<2 ^ 62)→Bu Tryz.prog 125 [.ptr b 0,.agg ((BU t).map .p),.p (I by'),.p (I fr),.p (I d)] [.box b [.p (I er),.p (I nd)]] (HM (.agg ((BU ((Ce by' fr d er t).1)).map .p)) [.box b [.p (I ((Ce by' fr d er t).2)),.p (I nd)]]):=by
 intro n
 induction n with
 | zero=>intro t b by' fr d er nd h;cases t;simp[size] at h
 | succ n ih =>
  intro t b by' fr d er nd h1 h2 h3 h4
  obtain⟨tk,ti,tn,tl,ts⟩:=t;simp only[size] at h1;simp only[Nd,Dv] at h2;refine A9 Tryz.func125 O kQ (n:=68) O O (A3 (BP O (BY O) fun b6=>BP O (BE B8 O) fun b10=>Bk O (Az (Ay A8 3 [1] O (A0 O (fun c=>?_) (fun c=>?_))))))
  ·(try simp only[sd,se] at c);refine Az (A3 (A2 A8 4 [1] O (Av O (FC O O) (Ax A8 1 [] O (A0 O (fun c1=>?_) (fun c1=>?_))))))
   ·(try simp only[sd,se] at c1);refine Ay A8 2 [1,0,0] O (A4 (⟨O,_,_,⟨_,_,O,(BN (i:=0) Ba O O O),O⟩,(CO (is:=[2]) O),?_⟩));refine⟨by show (.agg [.p (I tk),.p (I ti),.p (.str tn),.p (.lst (List.map CD tl)),.p (.lst (BK ts))]:AV)=_;rw[Ce,if_pos c,if_pos c1];rfl,?_⟩;show ([.box b [.p (I er),.p (I nd)]]:List BL)=_;rw[Ce,if_pos c,if_pos c1]
   (try simp only[sd,se] at c1);refine A5 (Az (A3 (A2 A8 3 [1] O (Av O (FC O O) (A2 A8 2 [] O (Av O (FC O O) (Ax A8 1 [] O (A0 O (fun c2=>?_) (fun c2=>?_)))))))))
   ·(try simp only[sd,se] at c2);refine A3 (B0 O (Av O (Co [2] O (.inl ⟨O,O,O⟩) (di b er nd 24) ⟨_,_,O,O,O⟩ Aq O (.inl O)) (Bk O (Ay A8 2 [1,0,0] O (A4 (⟨O,_,_,⟨_,_,O,(BN (i:=0) Ba O O O),O⟩,(CO (is:=[2]) O),?_⟩))))));refine⟨by show (.agg [.p (I tk),.p (I ti),.p (.str tn),.p (.lst (List.map CD tl)),.p (.lst (BK ts))]:AV)=_;rw[Ce,if_pos c,if_neg Ar,if_pos c2];rfl,?_⟩;show ([.box b [.p (I (GI er 24)),.p (I nd)]]:List BL)=_;rw[Ce,if_pos c,if_neg Ar,if_pos c2]
   (try simp only[sd,se] at c2);refine A5 (A3 (A2 A8 4 [1] O (Av O (FC O O) (Av O (Co [2] O (.inl ⟨O,O,O⟩) (Wq b er nd (wr ((ti:Int)+(by':Int)))) ⟨_,_,rfl,rfl,rfl⟩ Aq rfl (.inl rfl)) (Ax A8 1 [0,1] O (A4 (⟨O,_,_,⟨_,_,O,(BN (i:=0) Ba O O Ak),O⟩,(CO (is:=[2]) O),?_⟩)))))));refine⟨by show (.agg ((BU (PH (wr ((ti:Int)+(by':Int))))).map .p):AV)=_;rw[Ce,if_pos c,if_neg Ar,if_neg Ar],?_⟩;show ([.box b [.p (I (NK er (wr ((ti:Int)+(by':Int))))),.p (I nd)]]:List BL)=_;rw[Ce,if_pos c,if_neg Ar,if_neg Ar]
  (try simp only[sd,se] at c);refine A5 (Ay A8 1 [] O (Az (Ay A8 1 [] O (BH (BZ (F3 (t:=11) (sz:=5) O) (Bn (α:=Nat×List Tm×Int×Option Nat×Nat) (fun(i,ys,e,o,cp)=>⟨68,mk [(0,.ptr b 0),(2,.p (I by')),(3,.p (I fr)),(4,.p (I d)),(6,.ptr b6 0),(10,.ptr b10 0),(11,.vs o (BK ys).length cp),(12,.p (I (i:Int)))],[.vec o 5 (BK ys) cp,.box b10 [.p (I 0),.p (I 0),.p (.str ⟨#[]⟩),.p (.nils),.p (.nils)],.box b6 [.p (I tk),.p (I ti),.p (.str tn),.p (.lst (List.map CD tl)),.p (.lst (BK ts))],.box b [.p (I e),.p (I nd)]],[]⟩) (fun(i,ys,e,o,cp)=>ts.length - i) (fun(i,ys,e,o,cp)=>i≤ts.length∧(ys.length=i∧(ys++(C9 by' fr tk d i e (ts.drop i)).1,(C9 by' fr tk d i e (ts.drop i)).2)=C9 by' fr tk d 0 er ts)) ⟨0,[],er,none,0⟩ As ?_ ?_))))))
  ·exact Bh ⟨we O,we O,we O,we O,we O,we O,we O,we O,Au⟩ (leH (is:=[0,1,2,3]) O (wl (oe O) (wl (oe O) (wl (oe O) (wl (oe O) (Dd))))))
  rintro⟨i,ys,e,o,cp⟩ hC
  try simp only at hC
  obtain⟨hi,hl,hC⟩:=hC;refine Az (A3 (A2 A8 3 [2] O (Av O (BS Br O (Bc _)) (Ax A8 1 [] O (A0 O (fun c1=>?_) (fun c1=>?_))))))
  ·(try simp only[sd,se] at c1);refine A5 (Az (BH (CG (fun k=>Nat.beq k 17) Eg (A1 O (fun _=>BC O) Au (A1 O (fun _=>BC O) Au (A1 O (fun _=>Aw Dq O O) Au (BT (j:=2) O O O (fun H i hi=>BG (i:=i) E3 O hi O) AB Au (A1 O (fun _=>BC O) Au ?_))))))));obtain⟨x,hx⟩:=BB (l:=ts) (i:=i) Ar;refine A1 O (fun _=>BA Br O O Ar (Bj hx) (BJ _)) Au (A1 O (fun _=>BO Ba O (BJ _)) Au (A1 O (fun _=>BC O) Au (A1 O (fun _=>BC O) Au (A1 O (fun _=>BC O) Au (A1 O (fun _=>Aw Dq O O) Au (BT (j:=2) O O O (fun H i hi=>BG (i:=i) C7 O hi O) AB Au (A1 O (fun _=>BC O) Au (A1 O (fun _=>BM O O (XP tk (i:Int)) O) Au (A1 O (fun _=>Ga O O (by have:=DD tk i;omega) (by have:=DD tk i;omega)) Au (Cd O O (Co [3] O (.inl ⟨O,O,O⟩) (ih x b by' fr ((d:Int)+(below tk (i:Int):Int)) e nd (by have:=Cj hx;omega) (Dy h2.2.2.2.2.1 hx) (by have:=DD tk i;omega) (by have:=DD tk i;omega)) ⟨_,_,rfl,rfl,rfl⟩ Aq rfl (.inl rfl)) AB trivial ?_))))))))));generalize hz:(Ce by' fr ((d:Int)+(below tk (i:Int):Int)) e x).1=z;obtain⟨zk,zi,zn,zl,zs⟩:=z;refine A1 O (fun _=>CC Br B8 O O O O O) Au (OI [] O O (C4 (i:=0) (rows':=BK [(.mk zk zi zn zl zs:Tm)]) Br Br B8 O O O O O O (B9 _) AE (O7 ys [(.mk zk zi zn zl zs:Tm)])) An fun o1 cp1=>⟨AB,Au,?_⟩);refine A1 O (fun _=>Bf O) Au (B6 O An (A7 (Ax A8 3 [] O ?_)));refine⟨⟨i+1,ys++[(Ce by' fr (d+below tk i) e x).1],(Ce by' fr (d+below tk i) e x).2,o1,cp1⟩,AT,⟨by omega,⟨by simp[hl],by rw[←hC,C2 hx];simp[C9]⟩⟩,Bh ⟨we rfl,we rfl,we rfl,we rfl,we rfl,we rfl,we (T4 (ys++[(.mk zk zi zn zl zs:Tm)]) (by rw[hz])),we rfl,trivial⟩ (leH (is:=[0,1,2,3]) rfl (wl (Oh (ys++[(.mk zk zi zn zl zs:Tm)]) (by rw[hz])) (wl (oe rfl) (wl (oe rfl) (wl (oe rfl) (Dd))))))⟩
  (try simp only[sd,se] at c1);refine Bp (A3 (A2 A8 2 [] O (CN (DE (i:=0) [11,65] O (FQ ⟨O,O,Au⟩)) (Ax A8 1 [1,0] O (Ay A8 2 [1,0,0] O (A4 (⟨O,_,_,⟨_,_,O,(BN (i:=0) Ba O O O),O⟩,(CO (is:=[2]) O),?_⟩)))))));refine⟨by show (.agg [.p (I tk),.p (I ti),.p (.str tn),.p (.lst (List.map CD tl)),.p (.lst (BK ys))]:AV)=_;rw[Ce,if_neg c];rw[show i=ts.length by omega,List.drop_length] at hC;rw[←hC];simp[C9];rfl,?_⟩;show ([.box b [.p (I e),.p (I nd)]]:List BL)=_;rw[Ce,if_neg c];rw[show i=ts.length by omega,List.drop_length] at hC;rw[←hC];simp[C9]
theorem ft:∀{σ:Type}(st:σ→Int→Tm→σ×Bool) (Inv:Nat→σ→Prop) (HP:Bool→σ→List BL→Prop) (l b2 b3 b4:Nat) (hI:∀m s d t,Inv (m+1) s→Inv m (st s d t).1) (hy:∀m s d t T,Nd t→Inv (m+1) s→HP true s T→Kw Tryz.prog l [.p (I d),TV t] T (Ut (.p (.bool (st s d t).2)) (HP (st s d t).2 (st s d t).1))) (n:Nat) (t:Tm) (d:Int) (s:σ) (T0:List BL) (m:Nat),size t≤n→Nd t→0≤d→d+n<4611686018427387904→Inv (m+size t) s→HP true s T0→Bu Tryz.prog 114 [TV t,.p (I d),.ptr b2 0,.ptr b3 0,.ptr b4 0] (.box b2 [.fn (.yield l) [] []]:: .box b3 OX:: .box b4 [.fn (.func 114) [] [.ptr b2 0,.ptr b3 0,.ptr b4 0]]::T0) (Ut (.p (.bool (EX st t d s).2)) (fun H=>∃T,HP (EX st t d s).2 (EX st t d s).1 T∧H= .box b2 [.fn (.yield l) [] []]:: .box b3 OX:: .box b4 [.fn (.func 114) [] [.ptr b2 0,.ptr b3 0,.ptr b4 0]]::T)):=by
 intro σ st Inv HP l b2 b3 b4 hI hy n
 induction n with
 | zero=>intro t d s T0 m h;cases t;simp[size] at h
 | succ n ih =>
  intro t d s T0 m h1 h2 h3 h4 h5 h6;obtain⟨tk,ti,tn,tl,ts⟩:=t;have h2':=h2;simp only[size] at h1 h5;simp only[Nd,JJ,Dv] at h2;refine A9 Tryz.func114 O nE (n:=50) O O (A3 (BP O (BY O) fun b5=>Ax A8 1 [] O (Az (A3 (A2 A8 3 [1,0] O (IU [_,_,_,_] O O O O (hy (m+Bg ts) _ _ _ _ h2' (by rw[Nat.add_assoc,Nat.add_comm (Bg ts)];exact h5) h6) O ?_ (fun _ _ h=>h.elim)))))));rintro _ T ⟨rfl,hT⟩;refine Ax A8 1 [] O (A0 O (fun c=>?_) (fun c=>?_))
  ·(try simp only[sd,se] at c);refine Ay A8 1 [] O (A4 (⟨O,_,_,⟨_,_,O,O,O⟩,(GM [1,2,3] [_,_,_,_] O),?_⟩));rw[VY c];rw[c] at hT;exact⟨O,_,hT,O⟩
  (try simp only[sd,se] at c);rw[c] at hT;refine A5 (Ay A8 1 [] O (Az (Az (Bb [1,3,4,5,8] 24 (fun y=>y= .p (.bool ((decide ((tk:Int)≥(0:Int)))&&(decide ((tk:Int)<(13:Int)))))) ?_ ?_))))
  ·refine A7 (A2 A8 4 [0] O (BQ 20 O (fun g=>?_) (fun g=>?_)))
   ·(try simp only[sd,se] at g);exact Ax A8 4 [0] O (⟨O,O,AK,AI,⟨O,O,O,O,O,Au⟩⟩)
   (try simp only[sd,se] at g);exact Ax A8 4 [] O (⟨O,O,AK,AI,⟨O,O,O,O,O,Au⟩⟩)
  rintro _ rfl;refine A0 O (fun c1=>?_) (fun c1=>?_)
  ·(try simp only[sd,se] at c1);refine A7 (A2 A8 2 [0] O (Av O (QG iB iR O O Ar Ar) (Av O (Aw lF O O) (Av O (BG (i:=2) C7 O O (cZ Ar)) (Ax A8 1 [] O (Az (A3 (A2 A8 2 [0] O (Av O (BS Br O (Bc _)) (Ax A8 1 [] O (BH ?_)))))))))));refine Bn (α:=Nat×σ×List BL) (fun(i,q,U)=>⟨50,mk [(1,.p (I d)),(4,.ptr b4 0),(8,.p (I (JA tk))),(31,.p (.lst (BK ts))),(32,.p (I (ts.length:Nat))),(33,.p (I (i:Int)))],(.box b2 [.fn (.yield l) [] []]:: .box b3 OX:: .box b4 [.fn (.func 114) [] [.ptr b2 0,.ptr b3 0,.ptr b4 0]]::U),[]⟩) (fun(i,q,U)=>ts.length - i) (fun(i,q,U)=>i≤ts.length∧(EO st tk d i q (ts.drop i)=EO st tk d 0 (st s d (.mk tk ti tn tl ts)).1 ts∧Inv (m+Bg (ts.drop i)) q∧HP true q U)) ⟨0,(st s d (.mk tk ti tn tl ts)).1,T⟩ (⟨by omega,by simp,by simpa using hI _ _ _ _ (by rw[Nat.add_assoc,Nat.add_comm (Bg ts)];exact h5),by assumption⟩) ?_ ?_
   ·exact Bh ⟨we O,we O,we O,we O,we O,we O,Au⟩ (Xh [1,2,3] [_,_,_,_] (l':=[_,_,_]) O (wl (oe O) (wl (oe O) (wl (oe O) (Dd)))))
   rintro⟨i,q,U⟩ hC
   try simp only at hC
   obtain⟨hi,hC,hJ,hK⟩:=hC;refine Ay A8 1 [] O (Az (A0 O (fun c2=>?_) (fun c2=>?_)))
   ·(try simp only[sd,se] at c2);refine A5 (Az (BH (A3 (B0 O ?_))));obtain⟨x,hx⟩:=BB (l:=ts) (i:=i) Ar;refine Av O (BA Br O O Ar (Bj hx) (BJ _)) (Av O (BO Ba O (BJ _)) (BP O (BE B8 O) fun b10=>Ax A8 2 [0,1] O (Ay A8 2 [] O (Az (Ay A8 3 [] O (A0 O (fun c3=>?_) (fun c3=>?_)))))))
    ·(try simp only[sd,se] at c3);refine A7 (Ax A8 3 [] O (BZ (C5 (t:=11) (x:= .p (I (d+below tk i))) (pI (by have:=Un (k:=tk) (i:=i) Ar Ar;omega))) (A3 (A2 A8 3 [3,0] O (Hg [_] O O O (.inr O) (ih x (d+below tk i) q _ (m+Bg (ts.drop (i+1))) (by have:=Cj hx;omega) (Dy h2.2.2.2.2.1 hx) (by have:=DD tk i;omega) (by have:=DD tk i;omega) (by rw[C2 hx,Bg] at hJ;rw[Nat.add_assoc,Nat.add_comm (Bg _)];exact hJ) hK) (aw (we O) (aw (we O) (aw (we O) (aw (we O) (aw (we O) (FB)))))) ?_ (fun _ _ h=>h.elim))))));rintro _ _ ⟨rfl,T1,hT1,rfl⟩;refine Ax A8 1 [] O (A0 O (fun c4=>?_) (fun c4=>?_))
     ·(try simp only[sd,se] at c4);refine Ay A8 1 [] O (A4 (⟨O,_,_,⟨_,_,O,O,O⟩,(GM [1,2,3] [_,_,_,_] O),?_⟩));rw[HI Ao,←hC,IG hx c4];rw[c4] at hT1;exact⟨O,_,hT1,O⟩
     (try simp only[sd,se] at c4);rw[c4] at hT1;refine A5 (A7 (Ax A8 2 [] O ?_));refine⟨⟨i+1,(EX st x (d+below tk i) q).1,T1⟩,AT,⟨by omega,⟨by rw[←hC];exact(KL hx Ao).symm,by rw[C2 hx,Bg] at hJ;exact Ix hI x _ _ _ (by rw[Nat.add_assoc,Nat.add_comm (Bg _)];exact hJ) Ao,by assumption⟩⟩,Bh ⟨we rfl,we rfl,we rfl,we rfl,we rfl,we rfl,trivial⟩ (Xh [1,2,3] [_,_,_,_] (l':=[_,_,_]) rfl (wl (oe rfl) (wl (oe rfl) (wl (oe rfl) (Dd)))))⟩
    (try simp only[sd,se] at c3);refine A5 (BZ (C5 (t:=11) (x:= .p (I (d+below tk i))) (pI (by have:=R1 (k:=tk) (i:=i) Ar;omega))) (A3 (A2 A8 3 [3,0] O (Hg [_] O O O (.inr O) (ih x (d+below tk i) q _ (m+Bg (ts.drop (i+1))) (by have:=Cj hx;omega) (Dy h2.2.2.2.2.1 hx) (by have:=DD tk i;omega) (by have:=DD tk i;omega) (by rw[C2 hx,Bg] at hJ;rw[Nat.add_assoc,Nat.add_comm (Bg _)];exact hJ) hK) (aw (we O) (aw (we O) (aw (we O) (aw (we O) (aw (we O) (FB)))))) ?_ (fun _ _ h=>h.elim)))));rintro _ _ ⟨rfl,T1,hT1,rfl⟩;refine Ax A8 1 [] O (A0 O (fun c4=>?_) (fun c4=>?_))
    ·(try simp only[sd,se] at c4);refine Ay A8 1 [] O (A4 (⟨O,_,_,⟨_,_,O,O,O⟩,(GM [1,2,3] [_,_,_,_] O),?_⟩));rw[HI Ao,←hC,IG hx c4];rw[c4] at hT1;exact⟨O,_,hT1,O⟩
    (try simp only[sd,se] at c4);rw[c4] at hT1;refine A5 (A7 (Ax A8 2 [] O ?_));refine⟨⟨i+1,(EX st x (d+below tk i) q).1,T1⟩,AT,⟨by omega,⟨by rw[←hC];exact(KL hx Ao).symm,by rw[C2 hx,Bg] at hJ;exact Ix hI x _ _ _ (by rw[Nat.add_assoc,Nat.add_comm (Bg _)];exact hJ) Ao,by assumption⟩⟩,Bh ⟨we rfl,we rfl,we rfl,we rfl,we rfl,we rfl,trivial⟩ (Xh [1,2,3] [_,_,_,_] (l':=[_,_,_]) rfl (wl (oe rfl) (wl (oe rfl) (wl (oe rfl) (Dd)))))⟩
   (try simp only[sd,se] at c2);refine Bp (Ay A8 1 [] O (A4 (⟨O,_,_,⟨_,_,O,O,O⟩,(GM [0,1,2] [_,_,_] O),?_⟩)));rw[HI Ao,←hC,show i=ts.length by omega,List.drop_length];exact⟨O,_,hK,O⟩
  (try simp only[sd,se] at c1);have hbx:=UM (k:=tk) Ar;refine A5 (Az (A3 (A2 A8 2 [0] O (Av O (BS Br O (Bc _)) (Ax A8 1 [] O (BH ?_))))));refine Bn (α:=Nat×σ×List BL) (fun(i,q,U)=>⟨50,mk [(1,.p (I d)),(4,.ptr b4 0),(8,.p (I (-1))),(31,.p (.lst (BK ts))),(32,.p (I (ts.length:Nat))),(33,.p (I (i:Int)))],(.box b2 [.fn (.yield l) [] []]:: .box b3 OX:: .box b4 [.fn (.func 114) [] [.ptr b2 0,.ptr b3 0,.ptr b4 0]]::U),[]⟩) (fun(i,q,U)=>ts.length - i) (fun(i,q,U)=>i≤ts.length∧(EO st tk d i q (ts.drop i)=EO st tk d 0 (st s d (.mk tk ti tn tl ts)).1 ts∧Inv (m+Bg (ts.drop i)) q∧HP true q U)) ⟨0,(st s d (.mk tk ti tn tl ts)).1,T⟩ (⟨by omega,by simp,by simpa using hI _ _ _ _ (by rw[Nat.add_assoc,Nat.add_comm (Bg ts)];exact h5),by assumption⟩) ?_ ?_
  ·exact Bh ⟨we O,we O,we O,we O,we O,we O,Au⟩ (Xh [1,2,3] [_,_,_,_] (l':=[_,_,_]) O (wl (oe O) (wl (oe O) (wl (oe O) (Dd)))))
  rintro⟨i,q,U⟩ hC
  try simp only at hC
  obtain⟨hi,hC,hJ,hK⟩:=hC;refine Ay A8 1 [] O (Az (A0 O (fun c2=>?_) (fun c2=>?_)))
  ·(try simp only[sd,se] at c2);refine A5 (Az (BH (A3 (B0 O ?_))));obtain⟨x,hx⟩:=BB (l:=ts) (i:=i) Ar;refine Av O (BA Br O O Ar (Bj hx) (BJ _)) (Av O (BO Ba O (BJ _)) (BP O (BE B8 O) fun b10=>Ax A8 2 [0,1] O (Ay A8 2 [] O (Az (Ay A8 3 [] O (A0 O (fun c3=>?_) (fun c3=>?_)))))))
   ·(try simp only[sd,se] at c3);refine A7 (Ax A8 3 [] O (BZ (C5 (t:=11) (x:= .p (I (d+below tk i))) (pI (by have:=Un (k:=tk) (i:=i) Ar Ar;omega))) (A3 (A2 A8 3 [3,0] O (Hg [_] O O O (.inr O) (ih x (d+below tk i) q _ (m+Bg (ts.drop (i+1))) (by have:=Cj hx;omega) (Dy h2.2.2.2.2.1 hx) (by have:=DD tk i;omega) (by have:=DD tk i;omega) (by rw[C2 hx,Bg] at hJ;rw[Nat.add_assoc,Nat.add_comm (Bg _)];exact hJ) hK) (aw (we O) (aw (we O) (aw (we O) (aw (we O) (aw (we O) (FB)))))) ?_ (fun _ _ h=>h.elim))))));rintro _ _ ⟨rfl,T1,hT1,rfl⟩;refine Ax A8 1 [] O (A0 O (fun c4=>?_) (fun c4=>?_))
    ·(try simp only[sd,se] at c4);refine Ay A8 1 [] O (A4 (⟨O,_,_,⟨_,_,O,O,O⟩,(GM [1,2,3] [_,_,_,_] O),?_⟩));rw[HI Ao,←hC,IG hx c4];rw[c4] at hT1;exact⟨O,_,hT1,O⟩
    (try simp only[sd,se] at c4);rw[c4] at hT1;refine A5 (A7 (Ax A8 2 [] O ?_));refine⟨⟨i+1,(EX st x (d+below tk i) q).1,T1⟩,AT,⟨by omega,⟨by rw[←hC];exact(KL hx Ao).symm,by rw[C2 hx,Bg] at hJ;exact Ix hI x _ _ _ (by rw[Nat.add_assoc,Nat.add_comm (Bg _)];exact hJ) Ao,by assumption⟩⟩,Bh ⟨we rfl,we rfl,we rfl,we rfl,we rfl,we rfl,trivial⟩ (Xh [1,2,3] [_,_,_,_] (l':=[_,_,_]) rfl (wl (oe rfl) (wl (oe rfl) (wl (oe rfl) (Dd)))))⟩
   (try simp only[sd,se] at c3);refine A5 (BZ (C5 (t:=11) (x:= .p (I (d+below tk i))) (pI (by have:=R1 (k:=tk) (i:=i) Ar;omega))) (A3 (A2 A8 3 [3,0] O (Hg [_] O O O (.inr O) (ih x (d+below tk i) q _ (m+Bg (ts.drop (i+1))) (by have:=Cj hx;omega) (Dy h2.2.2.2.2.1 hx) (by have:=DD tk i;omega) (by have:=DD tk i;omega) (by rw[C2 hx,Bg] at hJ;rw[Nat.add_assoc,Nat.add_comm (Bg _)];exact hJ) hK) (aw (we O) (aw (we O) (aw (we O) (aw (we O) (aw (we O) (FB)))))) ?_ (fun _ _ h=>h.elim)))));rintro _ _ ⟨rfl,T1,hT1,rfl⟩;refine Ax A8 1 [] O (A0 O (fun c4=>?_) (fun c4=>?_))
   ·(try simp only[sd,se] at c4);refine Ay A8 1 [] O (A4 (⟨O,_,_,⟨_,_,O,O,O⟩,(GM [1,2,3] [_,_,_,_] O),?_⟩));rw[HI Ao,←hC,IG hx c4];rw[c4] at hT1;exact⟨O,_,hT1,O⟩
   (try simp only[sd,se] at c4);rw[c4] at hT1;refine A5 (A7 (Ax A8 2 [] O ?_));refine⟨⟨i+1,(EX st x (d+below tk i) q).1,T1⟩,AT,⟨by omega,⟨by rw[←hC];exact(KL hx Ao).symm,by rw[C2 hx,Bg] at hJ;exact Ix hI x _ _ _ (by rw[Nat.add_assoc,Nat.add_comm (Bg _)];exact hJ) Ao,by assumption⟩⟩,Bh ⟨we rfl,we rfl,we rfl,we rfl,we rfl,we rfl,trivial⟩ (Xh [1,2,3] [_,_,_,_] (l':=[_,_,_]) rfl (wl (oe rfl) (wl (oe rfl) (wl (oe rfl) (Dd)))))⟩
  (try simp only[sd,se] at c2);refine Bp (Ay A8 1 [] O (A4 (⟨O,_,_,⟨_,_,O,O,O⟩,(GM [0,1,2] [_,_,_] O),?_⟩)));rw[HI Ao,←hC,show i=ts.length by omega,List.drop_length];exact⟨O,_,hK,O⟩
theorem jX:FF Tryz.prog 113 [] (.agg OX):=by
 refine A9 Tryz.func113 O lD (n:=15) O O (A3 (BP O (BE bY O) fun b0=>Bk O (A3 (A2 A8 13 [] O (Av O (EC iB iR bY O) (Ax A8 1 [0,0] O (A4 (⟨O,_,_,⟨_,_,O,(BN (i:=0) mX O O O),O⟩,(List.nil_sublist _),?_⟩))))))))
 all_goals exact⟨rfl,rfl⟩
theorem Zw:∀(t:Tm),Bu Tryz.prog 82 [.agg ((BU t).map .p)] [] (fun r H'=>∃b,r= .val (.fn (.func 112) [] [.ptr b 0])∧H'=[.box b ((BU t).map .p)]):=by
 intro t;refine A9 Tryz.func82 O pF (n:=4) O O (A3 (BP O (BY O) fun b1=>Ax A8 1 [] O (Ay A8 2 [] O (A4 (⟨O,_,_,⟨_,_,O,O,O⟩,(CO (is:=[0]) O),?_⟩)))));exact⟨_,O,O⟩
theorem bG:∀{σ:Type}(st:σ→Int→Tm→σ×Bool) (Inv:Nat→σ→Prop) (HP:Bool→σ→List BL→Prop) (l b1:Nat) (hI:∀m s d t,Inv (m+1) s→Inv m (st s d t).1) (hy:∀m s d t T,Nd t→Inv (m+1) s→HP true s T→Kw Tryz.prog l [.p (I d),TV t] T (Ut (.p (.bool (st s d t).2)) (HP (st s d t).2 (st s d t).1))) (t:Tm) (s:σ) (T0:List BL) (m:Nat),Nd t→size t<4611686018427387904→Inv (m+size t) s→HP true s T0→Bu Tryz.prog 112 [.fn (.yield l) [] [],.ptr b1 0] (.box b1 ((BU t).map .p)::T0) (Ut (.tup []) (fun H=>∃T,HP (EX st t 0 s).2 (EX st t 0 s).1 T∧H= .box b1 ((BU t).map .p)::T)):=by
 intro σ st Inv HP l b1 hI hy t s T0 m h1 h2 h3 h4;refine A9 Tryz.func112 O mM (n:=10) O O (A3 (BP O (BY O) fun b2=>Bk O (A3 (Av O (BM O O (jX ) O) (BP O (BE bY O) fun b3=>Ax A8 1 [0,0] O (A3 (BP O (BE mq O) fun b4=>Bk O (Ay A8 2 [0,0] O (A7 (A2 A8 2 [0,3] O (K4 ((List.reverse_perm [_,_,_,_]).symm.append_right _) (Hg [_] O O O (.inr O) (ft st Inv HP l b2 b3 b4 hI hy _ t 0 s T0 m (Nat.le_refl _) h1 Ar Ar h3 h4) (aw (we O) (aw (we O) (aw (we O) (aw (we O) (aw (we O) (FB)))))) ?_ (fun _ _ h=>h.elim)))))))))))));rintro _ _ ⟨rfl,T,hT,rfl⟩;refine Bk O ⟨O,_,_,O,(GM [0] [_,_,_,_] O),?_⟩;exact⟨O,_,hT,O⟩
theorem XQ:∀(t:Tm),(Nd t)→(size t<1152921504606846976)→FF Tryz.prog 45 [.agg ((BU t).map .p)] (.p (I (size t:Nat))):=by
 intro t h1 h2;refine E2 Tryz.func45 O nk (n:=11) O O (A3 (BP O (BY O) fun b1=>Ax A8 1 [] O (A3 (BP O (BE fj O) fun b3=>Ax A8 1 [0,0] O (Az (A3 (Av O (BI (i:=1) Ba O O Ak) ?_)))))));refine aQ [] O O O (.inl ⟨O,O,O⟩) (Zw t) O As (aw (we O) FB) ?_ (fun _ _ ⟨_,h,_⟩=>by cases h);rintro _ _ ⟨bn,h,rfl⟩;cases h;refine Bk O (BH (QP (.inr O) fun dd l L hL=>⟨_,_,DK (is:=[2,0,3]) Aq ⟨_,_,O,O,⟨_,_,O,O,⟨_,_,O,O,O⟩⟩⟩,?_⟩));have hy:∀(m:Nat) (s:Int) (d:Int) (t:Tm) (T:List BL),Nd t→(fun _ _=>True) (m+1) s→(fun(_:Bool) (s:Int) (T:List BL)=>T=[.loop l L,.box b3 [.p (I s)]]) true s T→Kw Tryz.prog l [.p (I d),TV t] T (Ut (.p (.bool (Wa s d t).2)) ((fun(_:Bool) (s:Int) (T:List BL)=>T=[.loop l L,.box b3 [.p (I s)]]) (Wa s d t).2 (Wa s d t).1)):=by
  rintro m s d tt T hnd hinv rfl;subst hL;refine R0 (i:=0) O O O O (A5 ⟨O,0,O,?_⟩);refine BH (A7 (Av O (BG (i:=1) C7 O O O) (Av O (FC O O) (Ax A8 1 [1,0] O ⟨0,_,O,CO (is:=[0,1]) O,?_⟩))));exact⟨O,O⟩
 refine(bG Wa (fun _ _=>True) (fun(_:Bool) (s:Int) (T:List BL)=>T=[.loop l L,.box b3 [.p (I s)]]) l bn (fun _ _ _ _ _=>Au) hy t 0 _ 0 (h1) Ar (Au) O).mono ?_;rintro(v | v) H' hR
 rotate_left
 ·exact hR.elim
 obtain⟨rfl,_,rfl,rfl⟩:=hR;subst hL;refine⟨1,_,O,As,?_⟩;refine Ay A8 2 [1] O (A4 (⟨2,O,_,_,⟨_,_,O,O,O⟩,(List.nil_sublist _),?_⟩))
 all_goals exact⟨pI (by rw[U4 4611686018427387904 (Int.le_refl _) t 0 0 Ar Ar];simp),rfl⟩
theorem Us:∀(n:Nat) (t:Tm),(size t≤n)→(Nd t)→FF Tryz.prog 46 [.agg ((BU t).map .p)] (.p (I (Ep t))):=by
 intro n
 induction n with
 | zero=>intro t h;cases t;simp[size] at h
 | succ n ih =>
  intro t h1 h2;obtain⟨tk,ti,tn,tl,ts⟩:=t;simp only[size] at h1;simp only[Nd,Dv] at h2;refine A9 Tryz.func46 O oE (n:=20) O O (A3 (BP O (BY O) fun b1=>Ax A8 1 [] O (Ay A8 1 [] O (Az (A3 (A2 A8 2 [0] O (Av O (BS Br O (Bc _)) (Ax A8 1 [] O (BH (Bn (α:=Nat×Int) (fun(i,m)=>⟨20,mk [(3,.p (I m)),(7,.p (.lst (BK ts))),(8,.p (I (ts.length:Nat))),(9,.p (I (i:Int)))],[],[]⟩) (fun(i,m)=>ts.length - i) (fun(i,m)=>i≤ts.length∧(JL m (ts.drop i)=JL 0 ts)) ⟨0,0⟩ As ?_ ?_))))))))))
  ·exact Bh ⟨we O,we O,we O,we O,Au⟩ (leH (is:=[]) O (Dd))
  rintro⟨i,m⟩ hC
  try simp only at hC
  obtain⟨hi,hC⟩:=hC;refine Ay A8 1 [] O (Az (A0 O (fun c=>?_) (fun c=>?_)))
  ·(try simp only[sd,se] at c);refine A5 (Az (BH (A3 ?_)));obtain⟨x,hx⟩:=BB (l:=ts) (i:=i) Ar;refine Av O (BA Br O O Ar (Bj hx) (BJ _)) (Av O (BO Ba O (BJ _)) (BP O (BE B8 O) fun b5=>Ax A8 1 [0,1] O (A7 (A2 A8 2 [0] O (Av O (BM O O (ih x (by have:=Cj hx;omega) (Dy h2.2.2.2.2.1 hx)) O) (Av O (IN O O) (Ax A8 1 [] O (A7 (Ax A8 2 [] O ?_)))))))));refine⟨⟨i+1,max m (Ep x)⟩,AT,⟨by omega,by rw[←hC,C2 hx];rfl⟩,Bh ⟨we rfl,we rfl,we rfl,we rfl,trivial⟩ (leH (is:=[]) rfl (Dd))⟩
  (try simp only[sd,se] at c);refine Bp (A3 (B0 O (Av O (FC O O) (Ax A8 1 [] O (A4 (⟨O,_,_,⟨_,_,O,O,O⟩,(List.nil_sublist _),?_⟩))))))
  all_goals exact⟨pI (by rw[show Ep (.mk tk ti tn tl ts)=wr (JL 0 ts+1) from rfl,←hC,show i=ts.length by omega,List.drop_length];rfl),rfl⟩
theorem ED:∀(f:Tm) (xs:List Tm),(xs.length<Dv)→FF Tryz.prog 73 [.agg ((BU f).map .p),.p (.lst (BK xs))] (.agg ((BU (apply f xs)).map .p)):=by
 intro f xs h1;simp only[Dv] at h1;refine A9 Tryz.func73 O pN (n:=19) O O (A3 (BP O (BY O) fun b2=>BP O (BE B8 O) fun b4=>Bk O (Az (A3 (B0 O (Av O (BS Br O (Bc _)) (Ax A8 1 [] O (BH (Bn (α:=Nat) (fun i=>⟨19,mk [(2,.ptr b2 0),(4,.ptr b4 0),(7,.p (.lst (BK xs))),(8,.p (I (xs.length:Nat))),(9,.p (I (i:Int)))],[.box b4 [.p (I 0),.p (I 0),.p (.str ⟨#[]⟩),.p (.nils),.p (.nils)],.box b2 ((BU (apply f (xs.take i))).map .p)],[]⟩) (fun i=>xs.length - i) (fun i=>i≤xs.length) 0 AP ?_ ?_)))))))))
 ·exact Bh ⟨we O,we O,we O,we O,we O,Au⟩ (leH (is:=[0,1]) O (wl (oe O) (wl (oe O) (Dd))))
 rintro i hC
 try simp only at hC
 have hi:=hC;refine Ay A8 1 [] O (Az (A0 O (fun c=>?_) (fun c=>?_)))
 ·(try simp only[sd,se] at c);refine A5 (Az (BH (A3 ?_)));obtain⟨x,hx⟩:=BB (l:=xs) (i:=i) Ar;refine Av O (BA Br O O Ar (Bj hx) (BJ _)) (Av O (BO Ba O (BJ _)) (BP O (BE B8 O) fun b6=>Ax A8 1 [0,1] O (A7 (A2 A8 2 [2,0] O ?_))));generalize hz:(apply f (xs.take i))=z;obtain⟨zk,zi,zn,zl,zs⟩:=z;obtain⟨xk,xi,xn,xl,xs1⟩:=x;refine Av O (CC Br B8 O O O O O) (Ax A8 2 [2,0] O (A7 (Ax A8 2 [] O ?_)));refine⟨(i+1),AT,by omega,Bh ⟨we rfl,we rfl,we rfl,we rfl,we rfl,trivial⟩ (leH (is:=[1,2]) rfl (wl (oe rfl) (wl (on (by rw[P4 hx,hz];rfl)) (Dd))))⟩
 (try simp only[sd,se] at c);refine Bp (Ay A8 2 [1,0,1] O (A4 (⟨O,_,_,⟨_,_,O,(BN (i:=0) Ba O O Ak),O⟩,(List.nil_sublist _),?_⟩)))
 all_goals exact⟨by show (.agg ((BU (apply f (xs.take i))).map .p):AV)=_;rw[show i=xs.length by omega,List.take_length],rfl⟩
theorem _root_.Go.AM {α:Prop}(h:α:=by simp only[Bc,List.length_map,List.length_set];omega):α:=h
theorem _root_.Go.AZ {α:Prop}(h:α:=by simp only[Bc];omega):α:=h
theorem _root_.Go.Aa {α:Prop}(h:α:=by simp[Bc];omega):α:=h
theorem ca:∀(xs:List Tm) (o0:Option Nat) (c0:Nat),(xs.length<Dv)→Bu Tryz.prog 98 [.vs o0 (BK xs).length c0] [.vec o0 5 (BK xs) c0] (HM (.tup []) [.vec o0 5 (BK xs.reverse) c0]):=by
 intro xs o0 c0 h1;simp only[Dv] at h1;refine A9 Tryz.func98 O pG (n:=28) O O (A3 (B0 O (Av O (Mo Br O (Bc _)) (Ax A8 3 [] O (BH (Bn (α:=Nat×List Tm×Option Nat×Nat) (fun(i,ys,o,cp)=>⟨28,mk [(0,.vs o (BK ys).length cp),(2,.p (I (i:Int))),(3,.p (I ((xs.length:Int) - 1 - (i:Int))))],[.vec o 5 (BK ys) cp],[]⟩) (fun(i,ys,o,cp)=>xs.length - i) (fun(i,ys,o,cp)=>i≤xs.length∧Um xs ys i∧o=o0∧cp=c0) ⟨0,xs,o0,c0⟩ (⟨by omega,V7 xs,rfl,rfl⟩) ?_ ?_))))))
 ·exact Bh ⟨we O,we O,we (pI Ar),Au⟩ (leH (is:=[0]) O (wl (oe O) (Dd)))
 rintro⟨i,ys,o,cp⟩ hC
 try simp only at hC
 obtain⟨hi,hR,ho,hcp⟩:=hC;have hyl:=hR.1;have hjn:((xs.length:Int) - 1 - (i:Int)).toNat=xs.length - 1 - i:=by omega
 refine Az (Ay A8 3 [] O (A0 O (fun c=>?_) (fun c=>?_)))
 ·(try simp only[sd,se] at c);refine A5 (Az (BH (Kn (i:=0) O Aa fun b hb=>?_)));subst hb;refine CG (fun k=>false) Eg (A1 O (fun _=>BC O) Au (A1 O (fun _=>BC O) Au (A1 O (fun _=>BC O) Au (A1 O (fun _=>BC O) Au (A1 O (fun _=>BC O) Au (A1 O (fun _=>BC O) Au (A1 O (fun _=>Cx Br O O Ar AZ) Au ?_)))))));obtain⟨y,hy⟩:=BB (l:=ys) (i:=((xs.length:Int) - 1 - (i:Int):Int).toNat) Ar;refine BT (j:=0) O O O (fun H i hi=>Ek (i:=i) Ba O hi (Bj hy)) AB Au (A1 O (fun _=>BC O) Au (A1 O (fun _=>BC O) Au (A1 O (fun _=>Cx Br O O Ar AZ) Au ?_)));obtain⟨y1,hy1⟩:=BB (l:=ys) (i:=i) Ar;refine BT (j:=0) O O O (fun H i hi=>Ek (i:=i) Ba O hi (Bj hy1)) AB Au (A1 O (fun _=>Cx Br O O Ar AZ) Au (Cd O O (EE (i:=0) (j:=i) Ba O O O AM O (JY _) (BJ _) (DR _) (Ru ys i y)) AB Au (A1 O (fun _=>Cx Br O O Ar AZ) Au (Cd O O (EE (i:=0) (j:=(((xs.length:Int) - 1 - (i:Int):Int).toNat)) Ba O O O AM O (JY _) (BJ _) (DR _) (Ru ((ys).set i y) (((xs.length:Int) - 1 - (i:Int):Int).toNat) y1)) AB Au (B6 O An (A7 (Ax A8 6 [] O ?_)))))));refine⟨⟨i+1,(ys.set i y).set (xs.length - 1 - i) y1,(some b),cp⟩,AT,⟨by omega,XA hR Ar hy1 (hjn▸hy),ho,hcp⟩,Bh ⟨we (DF ys As),we rfl,we (pI Ar),trivial⟩ (leH (is:=[0]) rfl (wl (Oh (((ys).set i y).set (((xs.length:Int) - 1 - (i:Int):Int).toNat) y1) (by rw[hjn])) (Dd)))⟩
 (try simp only[sd,se] at c);refine Bp ⟨O,_,_,O,(CO (is:=[0]) O),?_⟩;refine⟨O,?_⟩;show ([.vec o 5 (BK ys) cp]:List BL)=_;rw[WZ hR Ar,ho,hcp]
theorem LL:∀(t:Tm),(Nd t)→(size t<Dv)→FF Tryz.prog 72 [.agg ((BU t).map .p)] (.tup [.agg ((BU ((BD t).1)).map .p),.p (.lst (BK ((BD t).2)))]):=by
 intro t h1 h2;simp only[Dv] at h2;refine A9 Tryz.func72 O od (n:=29) O O (A3 (BP O (BY O) fun b1=>BP O (BE B8 O) fun b2=>Ax A8 1 [] O (Ay A8 1 [] O (Az (BH (BZ (F3 (t:=4) (sz:=5) O) ?_))))));refine Bn (α:=Tm×List Tm×Option Nat×Nat) (fun(tt,ys,o,cp)=>⟨29,mk [(1,.ptr b1 0),(2,.ptr b2 0),(4,.vs o (BK ys).length cp)],[.vec o 5 (BK ys) cp,.box b2 [.p (I 0),.p (I 0),.p (.str ⟨#[]⟩),.p (.nils),.p (.nils)],.box b1 ((BU tt).map .p)],[]⟩) (fun(tt,ys,o,cp)=>size tt) (fun(tt,ys,o,cp)=>BD t=((BD tt).1,(BD tt).2++ys.reverse)∧Nd tt∧size tt+ys.length≤size t) ⟨t,[],none,0⟩ (⟨by simp,h1,by simp⟩) ?_ ?_
 ·exact Bh ⟨we O,we O,we O,Au⟩ (leH (is:=[0,1,2]) O (wl (oe O) (wl (oe O) (wl (oe O) (Dd)))))
 rintro⟨tt,ys,o,cp⟩ hC
 try simp only at hC
 obtain⟨hS,hN,hL⟩:=hC;refine Az (Az ?_);obtain⟨ttk,tti,ttn,ttl,tts⟩:=tt;simp only[size] at hL;refine Bb [1,2,4] 13 (fun y=>y= .p (.bool (((ttk:Int)==(4:Int))&&(((tts.length:Nat):Int)==(2:Int))))) ?_ ?_
 ·refine A7 (A2 A8 4 [2] O (BQ 8 O (fun g=>?_) (fun g=>?_)))
  ·(try simp only[sd,se] at g);exact A2 A8 2 [2] O (BF O (BS Br O (Bc _)) (Ax A8 2 [] O (⟨O,O,AK,AI,⟨O,O,O,Au⟩⟩)))
  (try simp only[sd,se] at g);exact Ax A8 5 [] O (⟨O,O,AK,AI,⟨O,O,O,Au⟩⟩)
 rintro _ rfl;refine A0 O (fun c=>?_) (fun c=>?_)
 ·(try simp only[sd,se] at c);refine A5 (BH (A3 (A2 A8 3 [2] O ?_)));obtain⟨x,hx⟩:=BB (l:=tts) (i:=1) Ar;refine Av O (BA Br O O Ar (Bj hx) (BJ _)) (Av O (BO Ba O (BJ _)) ?_);obtain⟨xk,xi,xn,xl,xs⟩:=x;refine Av O (CC Br B8 O O O O O) (Il O O (C4 (i:=0) (rows':=BK [(.mk xk xi xn xl xs:Tm)]) Br Br B8 O O O O O O (B9 _) AE (O7 ys [(.mk xk xi xn xl xs:Tm)])) fun o1 cp1=>Ax A8 1 [] O (A7 (A2 A8 2 [2] O ?_)));obtain⟨x1,hx1⟩:=BB (l:=tts) (i:=0) Ar;refine Av O (BA Br O O Ar (Bj hx1) (BJ _)) (Ax A8 2 [2,1] O ?_);refine⟨⟨x1,ys++[.mk xk xi xn xl xs],o1,cp1⟩,(by have:=Cj hx1;simp only[size];omega),⟨by rw[hS,SK c hx1 hx];simp,Dy hN.2.2.2.2.1 hx1,by have:=Cj hx1;simp;omega⟩,Bh ⟨we rfl,we rfl,we rfl,trivial⟩ (leH (is:=[0,1,2]) rfl (wl (oe rfl) (wl (oe rfl) (wl (oe rfl) (Dd)))))⟩
 (try simp only[sd,se] at c);refine Bp (A3 (B0 O (Av O (Co [0] O (.inl ⟨O,O,O⟩) (ca ys o cp Ab) ⟨_,_,O,O,O⟩ Aq O (.inl O)) (Bk O (Ay A8 4 [2,1,0] O (BZ (C5 (t:=4) (x:= .vs o (BK ys.reverse).length cp) (DF ys (l':=ys.reverse) As)) (BZ (C5 (t:=25) (x:= .vs o (BK ys.reverse).length cp) (DF ys (l':=ys.reverse) As)) (BZ (C5 (t:=28) (x:= .vs o (BK ys.reverse).length cp) (DF ys (l':=ys.reverse) As)) (BZ (C5 (t:=3) (x:= .vs o (BK ys.reverse).length cp) (DF ys (l':=ys.reverse) As)) (BZ (DE (i:=0) [4,25,28,3] O (FQ ⟨O,O,O,O,Au⟩)) (A4 (⟨O,_,_,⟨_,_,O,(BN (i:=0) Ba O O O),⟨_,_,O,O,O⟩⟩,(List.nil_sublist _),?_⟩))))))))))));rw[hS,MJ (Classical.or_iff_not_imp_left.2 fun h=>by simp at h;exact fun e=>absurd (c h) (by simp[e]))]
 all_goals exact⟨rfl,rfl⟩
theorem Po:∀(e:Int),Bu Tryz.prog 174 [.p (I e)] [] (Tg (.p (.iface 223 (I e))) []):=by
 intro e;exact A9 Tryz.func174 O mf (n:=4) O O (A7 (B0 O (Av O (Rk iA (by intro ms h;cases h) O) (M7 O O (La O) (⟨O,_,List.nil_sublist _,⟨O,O⟩⟩)))))
theorem R8:∀(e:Int),FF Tryz.prog 154 [.p (.iface 223 (I e))] (.p (I e)):=by
 intro e;refine A9 Tryz.func154 O kj (n:=14) O O (Ay A8 1 [] O (A3 (B0 O (Av O (P3 iA O O) (Ax A8 5 [] O (Az (Ay A8 2 [] O ?_)))))));refine A0 O (fun c=>by cases c) (fun c=>?_);refine A5 (Ay A8 2 [] O (A4 (⟨O,_,_,⟨_,_,O,O,O⟩,(List.nil_sublist _),?_⟩)))
 all_goals exact⟨rfl,rfl⟩
theorem dB:∀(k i:Int),FF Tryz.prog 175 [.p (I k),.p (I i)] (.p (I (below k i))):=by
 intro k i;refine A9 Tryz.func175 O mI (n:=26) O O (Ay A8 1 [] O (Az (BH (Az (Az (Bb [0,1] 5 (fun y=>y= .p (.bool (((i:Int)==(1:Int))&&((((k:Int)==(5:Int))||((k:Int)==(6:Int)))||((k:Int)==(7:Int)))))) ?_ ?_))))))
 ·refine A7 (A2 A8 3 [] O (BQ 8 O (fun g=>?_) (fun g=>?_)))
  ·(try simp only[sd,se] at g);refine A2 A8 3 [] O (BQ 11 O (fun g1=>?_) (fun g1=>?_))
   ·(try simp only[sd,se] at g1);exact Ax A8 9 [] O (⟨O,O,AK,AI,⟨O,O,Au⟩⟩)
   (try simp only[sd,se] at g1);refine A2 A8 4 [] O (BQ 15 O (fun g2=>?_) (fun g2=>?_))
   ·(try simp only[sd,se] at g2);exact Ax A8 5 [] O (⟨O,O,AK,AI,⟨O,O,Au⟩⟩)
   (try simp only[sd,se] at g2);exact Ax A8 5 [] O (⟨O,O,AK,AI,⟨O,O,Au⟩⟩)
  (try simp only[sd,se] at g);exact Ax A8 12 [] O (⟨O,O,AK,AI,⟨O,O,Au⟩⟩)
 rintro _ rfl;refine A0 O (fun c=>?_) (fun c=>?_)
 ·(try simp only[sd,se] at c);refine A5 (A0 O (fun c1=>?_) (fun c1=>?_))
  ·(try simp only[sd,se] at c1);refine Ay A8 1 [] O (A4 (⟨O,_,_,⟨_,_,O,O,O⟩,(List.nil_sublist _),?_⟩))
   all_goals exact⟨pI (by unfold below;simp_all),rfl⟩
  (try simp only[sd,se] at c1);refine A5 (Ay A8 1 [] O (A4 (⟨O,_,_,⟨_,_,O,O,O⟩,(List.nil_sublist _),?_⟩)))
  all_goals exact⟨pI (by unfold below;simp_all),rfl⟩
 (try simp only[sd,se] at c);refine Bb [] 5 (fun y=>y= .p (.bool (((i:Int)==(2:Int))&&((k:Int)==(11:Int))))) ?_ ?_
 ·refine A7 (A2 A8 3 [] O (BQ 22 O (fun g=>?_) (fun g=>?_)))
  ·(try simp only[sd,se] at g);exact Ax A8 4 [] O ⟨O,O,AK,AI,Au⟩
  (try simp only[sd,se] at g);exact Ax A8 4 [] O ⟨O,O,AK,AI,Au⟩
 rintro _ rfl;refine A0 O (fun c1=>?_) (fun c1=>?_)
 ·(try simp only[sd,se] at c1);refine Ay A8 1 [] O (A4 (⟨O,_,_,⟨_,_,O,O,O⟩,(List.nil_sublist _),?_⟩))
  all_goals exact⟨pI (by unfold below;simp_all),rfl⟩
 (try simp only[sd,se] at c1);refine A5 (Ay A8 1 [] O (A4 (⟨O,_,_,⟨_,_,O,O,O⟩,(List.nil_sublist _),?_⟩)))
 all_goals exact⟨pI (by unfold below;simp_all),rfl⟩
theorem Vl:∀(i:Int),Bu Tryz.prog 163 [.p (I i)] [] (KQ (fun(r:Tm)=>TV r) (fun e=> .p (.iface 223 (I e))) (fun r H'=>H'=[]) (H6 i)):=by
 intro i;refine A9 Tryz.func163 O kL (n:=8) O O (A3 (BP O (BE B8 O) fun b2=>Bk O (Az (Ay A8 2 [] O (A0 O (fun c=>?_) (fun c=>?_))))))
 ·(try simp only[sd,se] at c);refine A7 (M5 O O O (.inl ⟨O,O,O⟩) (Po 24) (aw (we O) (FB)) ?_);exact⟨O,_,List.nil_sublist _,⟨_,by unfold H6;rw[if_pos Ar],rfl⟩⟩
 (try simp only[sd,se] at c);refine A5 (Ay A8 3 [0,0] O (BZ (Bl (i:=0) O) (A4 (⟨O,_,_,⟨_,_,O,(BN (i:=0) Ba O O O),O⟩,(List.nil_sublist _),?_⟩))));exact⟨(.mk 0 i ⟨#[]⟩ [] []:Tm),by unfold H6;rw[if_neg Ar];rfl,rfl,rfl⟩
theorem cj:∀(bc:Nat) (n m:Int),Bu Tryz.prog 157 [.ptr bc 0,.p (I m)] [.box bc [.p (I n)]] (KQ (fun(r:Int)=> .tup []) (fun e=> .p (.iface 223 (I e))) (fun r H'=>H'=[.box bc [.p (I r)]]) (Uf n m)):=by
 intro bc n m;refine A9 Tryz.func157 O mQ (n:=18) O O (A3 (A2 A8 5 [0] O (Av O (FC O O) (Ax A8 3 [0,0] O (Ay A8 5 [0] O (A0 O (fun c=>?_) (fun c=>?_)))))))
 ·(try simp only[sd,se] at c);refine A7 (M5 O O O (.inl ⟨O,O,O⟩) (Po 5) (aw (we O) (FB)) ?_);exact⟨O,_,List.nil_sublist _,⟨_,by unfold Uf;rw[if_pos Ar],rfl⟩⟩
 (try simp only[sd,se] at c);refine A5 ⟨O,_,_,O,(CO (is:=[0]) O),?_⟩;exact⟨(wr (n+m)),by unfold Uf;rw[if_neg Ar],rfl,rfl⟩
theorem _root_.Go.AJ {α:Prop}(h:α:=by simp only[List.length_map,List.length_take,List.length_cons,List.length_nil];omega):α:=h
theorem QA:∀(t:Tm),(Nd t)→FF Tryz.prog 162 [.agg ((BU t).map .p)] (.agg ((BU (Ny t)).map .p)):=by
 intro t h1;obtain⟨tk,ti,tn,tl,ts⟩:=t;simp only[Nd,Dv] at h1;refine A9 Tryz.func162 O iF (n:=33) O O (A3 (BP O (BY O) fun b1=>BP O (BE B8 O) fun b2=>Bk O (A3 (A2 A8 7 [1,1,1] O (BP O (BE B8 O) fun b3=>Ax A8 1 [0,0] O (Az (A3 (CN (Lu (i:=0) O (dt (aw (we O) (aw (we O) (aw (we O) (aw (N9) (aw (we O) (FB)))))))) (CN (ML (sz:=2)) (A2 A8 2 [3] O (Av O (BS Fb O (List.length_map _)) (Ax A8 1 [] O (BH ?_)))))))))))));refine Bn (α:=Nat×Option Nat×Nat) (fun(i,o,cp)=>⟨33,mk [(2,.ptr b2 0),(3,.ptr b3 0),(14,.p (.lst (List.map CD tl))),(15,.p (I (tl.length:Nat))),(16,.p (I (i:Int)))],[.vec o 2 (List.map CD (tl.take i)) cp,.box b3 [.p (I tk),.p (I ti),.p (.str tn),.vs o (List.map CD (tl.take i)).length cp,.p (.nils)],.box b2 [.p (I 0),.p (I 0),.p (.str ⟨#[]⟩),.p (.nils),.p (.nils)]],[]⟩) (fun(i,o,cp)=>tl.length - i) (fun(i,o,cp)=>i≤tl.length) ⟨0,none,0⟩ AP ?_ ?_
 ·exact Bh ⟨we O,we O,we O,we O,we O,Au⟩ (leH (is:=[0,1,2]) O (wl (oe O) (wl (oe O) (wl (oe O) (Dd)))))
 rintro⟨i,o,cp⟩ hC
 try simp only at hC
 have hi:=hC;refine Ay A8 1 [] O (Az (A0 O (fun c=>?_) (fun c=>?_)))
 ·(try simp only[sd,se] at c);refine A5 (Az (BH (A3 ?_)));obtain⟨x,hx⟩:=BB (l:=tl) (i:=i) Ar;refine Av O (BA Fb O O Ar (G0 hx) (Dw _)) (Av O (BO FK O (Dw _)) (BP O (BE He O) fun b5=>Ax A8 1 [0,0] O (CG (fun k=>Nat.beq k 9) Eg (A1 O (fun _=>Aw Dq O O) Au (BT (j:=2) O O O (fun H i hi=>BG (i:=i) WK O hi O) AB Au (A1 O (fun _=>Aw JB O O) Au (BT (j:=0) O O O (fun H i hi=>BG (i:=i) C7 O hi O) AB Au (A1 O (fun _=>Aw JB O O) Au (BT (j:=0) O O O (fun H i hi=>BG (i:=i) PB O hi O) AB Au (A1 O (fun _=>Kr (rows':=List.map Gm x.vars) EA EA L4 O O (fun _ _ _ h=>T3 h) O (Ml _) (by have:=h1.2.2.1 x (List.mem_of_getElem? hx);have:=this.1;simp only[Dv] at this;simp only[List.length_map];omega)) Au ?_))))))))));refine A1 O (fun _=>CE JB He O) Au (A1 O (fun _=>CC Fb He O O O O O) Au (OI [] O O (C4 (i:=1) (rows':=List.map CD [(Cf.mk x.const x.vars)]) Fb Fb He O O O O O O (Sg _) AJ (JS (f:=CD) (tl.take i) [(Cf.mk x.const x.vars)])) An fun o1 cp1=>⟨AB,Au,?_⟩));refine A1 O (fun _=>Aw Dq O O) Au (Cd O O (Cl (i:=2) WK O O O O O O) AB Au (B6 O An (A7 (Ax A8 2 [] O ?_))));refine⟨⟨i+1,o1,cp1⟩,AT,by omega,Bh ⟨we rfl,we rfl,we rfl,we rfl,we rfl,trivial⟩ (leH (is:=[1,2,3]) rfl (wl (F6 (f:=CD) (tl.take i++[(Cf.mk x.const x.vars)]) (by rw[List.take_add_one,hx];rfl)) (wl (dt (aw (we rfl) (aw (we rfl) (aw (we rfl) (aw (we (Gq (f:=CD) (tl.take i++[(Cf.mk x.const x.vars)]) (by rw[List.take_add_one,hx];rfl))) (aw (we rfl) (FB))))))) (wl (oe rfl) (Dd)))))⟩
 (try simp only[sd,se] at c);refine Bp (A3 (CN (Ei (i:=0) (j:=1) (q:=3) [] O O O (FQ Au)) (Ax A8 2 [0,1,0] O (BZ (Bl (i:=1) O) (A4 (⟨O,_,_,⟨_,_,O,(BN (i:=1) Ba O O O),O⟩,(List.nil_sublist _),?_⟩))))))
 all_goals exact⟨by show (.agg [.p (I tk),.p (I ti),.p (.str tn),.p (.lst (List.map CD (tl.take i))),.p (.lst [])]:AV)=_;rw[show i=tl.length by omega,List.take_length];rfl,rfl⟩
theorem NH:∀{σ:Type}(vis:σ→Tm→Int→Except Int ((Tm×Bool)×σ)) (HP:σ→List BL→Prop) (fid:Nat) (caps:List AV) (hv:∀(s:σ) (t:Tm) (d:Int) (T:List BL),Nd t→Vp t→0≤d→d<Dv→HP s T→Bu Tryz.prog fid ([TV t,.p (I d)]++caps) T (KQ (fun(r:(Tm×Bool)×σ)=> .tup [TV r.1.1,.p (.bool r.1.2)]) (fun e=> .p (.iface 223 (I e))) (fun r=>HP r.2) (vis s t d))) (n:Nat) (t:Tm) (d:Int) (s:σ) (T0:List BL),size t≤n→Nd t→Vp t→0≤d→d+size t<Dv→HP s T0→Bu Tryz.prog 158 [.agg [.fn (.func fid) [] caps],TV t,.p (I d)] T0 (KQ (fun(r:Tm×σ)=>TV r.1) (fun e=> .p (.iface 223 (I e))) (fun r=>HP r.2) (Dx vis t d s)):=by
 intro σ vis HP fid caps hv n
 induction n with
 | zero=>intro t d s T0 h1;exact absurd h1 (by have:=size_pos t;omega)
 | succ n ih =>
  intro t d s T0 h1 h2 h3 h4 h5 h6;simp only[Dv] at h5;refine A9 Tryz.func158 O ll (n:=54) O O (A3 (BP O (BY O) fun b3=>BP O (BY O) fun b4=>BP O (BE B8 O) fun b6=>Bk O (A3 (A2 A8 4 [2,1] O (gy [_,_,_] O O O (.inr O) (hv s t d T0 h2 h3 h4 (by simp only[Dv];have:=size_pos t;omega) h6) (DS _) ?_ ?_)))))
  rotate_left
  ·intro e _ he;exact⟨O,_,List.nil_sublist _,⟨_,HT he,O⟩⟩
  rintro⟨⟨z,dn⟩,q⟩ T hz hT;refine A2 A8 3 [] O (BP O (BE B8 O) fun b7=>Ax A8 2 [0,1] O (Az (Ay A8 1 [] O (A0 O (fun c=>?_) (fun c=>?_)))))
  ·(try simp only[sd,se] at c);refine Ay A8 2 [0,1,1] O (A4 (⟨O,_,_,⟨_,_,O,(BN (i:=1) Ba O O Ak),O⟩,(GM [] [_,_,_,_] O),?_⟩));exact⟨⟨z,q⟩,Ft (by rw[hz,c]),O,hT⟩
  (try simp only[sd,se] at c);refine A5 (A3 (Av O (Aw Dq O O) ?_));obtain⟨zk,zi,zn,zl,zs⟩:=z;refine Ax A8 1 [0,0] O (Az (A3 (Av O (Aw Dq O O) ?_)));obtain⟨tk,ti,tn,tl,ts⟩:=t;simp only[size] at h1 h5;have hn2:=h2;simp only[Nd,Dv] at hn2;refine Av O (BG (i:=2) E3 O O O) (Av O (BS Br O (Bc _)) (Ax A8 1 [] O (A0 O (fun c1=>?_) (fun c1=>?_))))
  ·(try simp only[sd,se] at c1);refine A3 (A2 A8 2 [2] O (Av O (BS Br O (Bc _)) (P1 O O (Ko Br B8 O O Aq O O O Ar Ar Ar (lL (((ts.length:Nat):Int).toNat) (.mk 0 0 ⟨#[]⟩ [] []:Tm))) fun b29 cp=>Ax A8 2 [1,0] O (A3 (A2 A8 2 [3] O (Av O (BS Br O (Bc _)) (Ax A8 1 [] O (BH ?_))))))));refine Bn (α:=Nat×List Tm×σ×List BL×Option Nat×Nat) (fun(i,ys,q1,U,o,cp1)=>⟨54,mk [(2,.p (I d)),(3,.ptr b3 0),(4,.ptr b4 0),(6,.ptr b6 0),(7,.ptr b7 0),(32,.p (.lst (BK ts))),(33,.p (I (ts.length:Nat))),(34,.p (I (i:Int)))],(.vec o 5 (BK (ys++List.replicate (ts.length - i) Be)) cp1:: .box b7 [.p (I zk),.p (I zi),.p (.str zn),.p (.lst (List.map CD zl)),.vs o (BK (ys++List.replicate (ts.length - i) Be)).length cp1]:: .box b6 [.p (I 0),.p (I 0),.p (.str ⟨#[]⟩),.p (.nils),.p (.nils)]:: .box b4 [.p (I tk),.p (I ti),.p (.str tn),.p (.lst (List.map CD tl)),.p (.lst (BK ts))]:: .box b3 [.fn (.func fid) [] caps]::U),[]⟩) (fun(i,ys,q1,U,o,cp1)=>ts.length - i) (fun(i,ys,q1,U,o,cp1)=>i≤ts.length∧(P7 vis tk ts d q i ys q1∧HP q1 U)) ⟨0,[],q,T,(some b29),cp⟩ (⟨by omega,P7.zero _ _ _ _,hT⟩) ?_ ?_
   ·exact Bh ⟨we O,we O,we O,we O,we O,we O,we O,we O,Au⟩ (Xh [0,1,2,3,4] [_,_,_,_,_] (l':=[_,_,_,_,_]) O (wl (oe O) (wl (oe O) (wl (oe O) (wl (oe O) (wl (oe O) (Dd)))))))
   rintro⟨i,ys,q1,U,o,cp1⟩ hC
   try simp only at hC
   obtain⟨hi,hB,hU⟩:=hC;have hbl:=DD tk i;refine Ay A8 1 [] O (Az (A0 O (fun c2=>?_) (fun c2=>?_)))
   ·(try simp only[sd,se] at c2);refine A5 (Az (BH (A3 (B0 O ?_))));obtain⟨x,hx⟩:=BB (l:=ts) (i:=i) Ar;refine Av O (BA Br O O Ar (Bj hx) (BJ _)) (Av O (BO Ba O (BJ _)) (BP O (BE B8 O) fun b10=>Ax A8 2 [0,1] O (Kn (i:=1) O Aa fun b hb=>?_)));subst hb;refine CG (fun k=>Nat.beq k 11) Eg (A1 O (fun _=>Aw Dq O O) Au (BT (j:=2) O O O (fun H i hi=>BG (i:=i) E3 O hi O) AB Au (A1 O (fun _=>BC O) Au (BT (j:=5) O O O (fun H i hi=>BI (i:=i) iQ O hi O) AB Au (BT (j:=0) O O O (fun H i hi=>BI (i:=i) Ba O hi Ak) AB Au (A1 O (fun _=>BC O) Au (A1 O (fun _=>Aw Dq O O) Au (BT (j:=4) O O O (fun H i hi=>BG (i:=i) C7 O hi O) AB Au (A1 O (fun _=>BC O) Au (A1 O (fun _=>BM O O (dB tk (i:Int)) O) Au (A1 O (fun _=>Ga O O Ar Ar) Au ?_)))))))))));refine nD [_,_,_,_,_,_] O O O (.inl ⟨O,O,O⟩) (ih x (d+below tk i) q1 U (by have:=Cj hx;omega) (Dy h2.2.2.2.2.1 hx) (Lq h3.2 hx) (by have:=(DD tk i).1;omega) (by have:=Cj hx;have:=DD tk i;simp only[Dv];omega) hU) (DS _) An An O AB ?_ ?_
    rotate_left
    ·intro e he _ _ hτ;exact⟨O,_,List.nil_sublist _,⟨_,I9 (by rw[hz,c]) (hB.err hx he),O⟩⟩
    rintro⟨y,q2⟩ T1 hz1 hT1;refine⟨AB,Au,?_⟩;refine A1 O (fun _=>Cx Br O O Ar (by simp only[Bc,List.length_append,List.length_replicate,hB.1];omega)) Au (Cd O O (EE (i:=1) (j:=i) Ba O O O (by simp only[Bc,List.length_append,List.length_replicate,hB.1];omega) O (JY _) (BJ _) (DR _) (Ru (ys++List.replicate (ts.length - i) Be) i y)) AB Au (B6 O An (A7 (Ax A8 2 [] O ?_))));refine⟨⟨i+1,ys++[y],q2,T1,(some b),cp1⟩,AT,⟨by omega,⟨hB.succ hx hz1,hT1⟩⟩,Bh ⟨we rfl,we rfl,we rfl,we rfl,we rfl,we rfl,we rfl,we rfl,trivial⟩ (Xh [1,2,3,4,5] [_,_,_,_,_,_] (l':=[_,_,_,_,_]) rfl (wl (Oh ((ys++List.replicate (ts.length - i) Be).set i y) (by rw[da hB.1 Ar];congr 2)) (wl (dt (aw (we rfl) (aw (we rfl) (aw (we rfl) (aw (we rfl) (aw (we (DF (ys++List.replicate (ts.length - i) Be) Am)) (FB))))))) (wl (oe rfl) (wl (oe rfl) (wl (oe rfl) (Dd)))))))⟩
   (try simp only[sd,se] at c2);refine Bp (A3 (CN (Ei (i:=0) (j:=1) (q:=4) [] O O O (FQ Au)) (Ax A8 2 [0,1,0] O (A4 (⟨O,_,_,⟨_,_,O,(BN (i:=1) Ba O O O),O⟩,(GM [] [_,_,_,_] O),?_⟩)))));rw[show ts.length - i=0 by omega,List.replicate_zero,List.append_nil];exact⟨⟨.mk zk zi zn zl ys,q1⟩,Hl (by rw[hz,c]) (hB.fin Ar),O,hU⟩
  (try simp only[sd,se] at c1);refine A5 (Ay A8 2 [0,1,0] O (BZ (Bl (i:=1) O) (A4 (⟨O,_,_,⟨_,_,O,(BN (i:=1) Ba O O O),O⟩,(GM [] [_,_,_,_] O),?_⟩))));exact⟨⟨.mk zk zi zn zl [],q⟩,Hl (o:= .mk zk zi zn zl zs) (q:=q) (ys:=[]) (by rw[hz,c]) (by rw[show ts=[] by (cases ts with | nil=>rfl | cons a b=>simp at c1;omega)];rfl),O,hT⟩
theorem aT:∀(t:Tm),(Nd t)→Bu Tryz.prog 162 [.agg ((BU t).map .p)] [] (fo (fun p:Option Nat×Nat=> .agg [.p (I t.kind),.p (I t.index),.p (.str t.name),.vs p.1 (List.map CD t.levels).length p.2,.p (.lst [])]) (fun p=>[.vec p.1 2 (List.map CD t.levels) p.2])):=by
 intro t h1;obtain⟨tk,ti,tn,tl,ts⟩:=t;simp only[Nd,Dv] at h1;refine A9 Tryz.func162 O iF (n:=33) O O (A3 (BP O (BY O) fun b1=>BP O (BE B8 O) fun b2=>Bk O (A3 (A2 A8 7 [1,1,1] O (BP O (BE B8 O) fun b3=>Ax A8 1 [0,0] O (Az (A3 (CN (Lu (i:=0) O (dt (aw (we O) (aw (we O) (aw (we O) (aw (N9) (aw (we O) (FB)))))))) (CN (ML (sz:=2)) (A2 A8 2 [3] O (Av O (BS Fb O (List.length_map _)) (Ax A8 1 [] O (BH ?_)))))))))))));refine Bn (α:=Nat×Option Nat×Nat) (fun(i,o,cp)=>⟨33,mk [(2,.ptr b2 0),(3,.ptr b3 0),(14,.p (.lst (List.map CD tl))),(15,.p (I (tl.length:Nat))),(16,.p (I (i:Int)))],[.vec o 2 (List.map CD (tl.take i)) cp,.box b3 [.p (I tk),.p (I ti),.p (.str tn),.vs o (List.map CD (tl.take i)).length cp,.p (.nils)],.box b2 [.p (I 0),.p (I 0),.p (.str ⟨#[]⟩),.p (.nils),.p (.nils)]],[]⟩) (fun(i,o,cp)=>tl.length - i) (fun(i,o,cp)=>i≤tl.length) ⟨0,none,0⟩ AP ?_ ?_
 ·exact Bh ⟨we O,we O,we O,we O,we O,Au⟩ (leH (is:=[0,1,2]) O (wl (oe O) (wl (oe O) (wl (oe O) (Dd)))))
 rintro⟨i,o,cp⟩ hC
 try simp only at hC
 have hi:=hC;refine Ay A8 1 [] O (Az (A0 O (fun c=>?_) (fun c=>?_)))
 ·(try simp only[sd,se] at c);refine A5 (Az (BH (A3 ?_)));obtain⟨x,hx⟩:=BB (l:=tl) (i:=i) Ar;refine Av O (BA Fb O O Ar (G0 hx) (Dw _)) (Av O (BO FK O (Dw _)) (BP O (BE He O) fun b5=>Ax A8 1 [0,0] O (CG (fun k=>Nat.beq k 9) Eg (A1 O (fun _=>Aw Dq O O) Au (BT (j:=2) O O O (fun H i hi=>BG (i:=i) WK O hi O) AB Au (A1 O (fun _=>Aw JB O O) Au (BT (j:=0) O O O (fun H i hi=>BG (i:=i) C7 O hi O) AB Au (A1 O (fun _=>Aw JB O O) Au (BT (j:=0) O O O (fun H i hi=>BG (i:=i) PB O hi O) AB Au (A1 O (fun _=>Kr (rows':=List.map Gm x.vars) EA EA L4 O O (fun _ _ _ h=>T3 h) O (Ml _) (by have:=h1.2.2.1 x (List.mem_of_getElem? hx);have:=this.1;simp only[Dv] at this;simp only[List.length_map];omega)) Au ?_))))))))));refine A1 O (fun _=>CE JB He O) Au (A1 O (fun _=>CC Fb He O O O O O) Au (OI [] O O (C4 (i:=1) (rows':=List.map CD [(Cf.mk x.const x.vars)]) Fb Fb He O O O O O O (Sg _) AJ (JS (f:=CD) (tl.take i) [(Cf.mk x.const x.vars)])) An fun o1 cp1=>⟨AB,Au,?_⟩));refine A1 O (fun _=>Aw Dq O O) Au (Cd O O (Cl (i:=2) WK O O O O O O) AB Au (B6 O An (A7 (Ax A8 2 [] O ?_))));refine⟨⟨i+1,o1,cp1⟩,AT,by omega,Bh ⟨we rfl,we rfl,we rfl,we rfl,we rfl,trivial⟩ (leH (is:=[1,2,3]) rfl (wl (F6 (f:=CD) (tl.take i++[(Cf.mk x.const x.vars)]) (by rw[List.take_add_one,hx];rfl)) (wl (dt (aw (we rfl) (aw (we rfl) (aw (we rfl) (aw (we (Gq (f:=CD) (tl.take i++[(Cf.mk x.const x.vars)]) (by rw[List.take_add_one,hx];rfl))) (aw (we rfl) (FB))))))) (wl (oe rfl) (Dd)))))⟩
 (try simp only[sd,se] at c);refine Bp (Ay A8 2 [1,2,0] O (BZ (Bl (i:=2) O) (A4 (⟨O,_,_,⟨_,_,O,(BN (i:=2) Ba O O O),O⟩,(CO (is:=[0]) O),?_⟩))));have htk:tl.take i=tl:=List.take_of_length_le Ar;exact⟨(o,cp),by rw[htk];simp[Tm.kind,Tm.index,Tm.name,Tm.levels,splice,dn],by rw[htk];rfl⟩
theorem db:∀(tk ti:Int) (tn:ByteArray) (tl:List Cf) (ts:List Tm),Nd (.mk tk ti tn tl ts)→Bu Tryz.prog 162 [TV (.mk tk ti tn tl ts)] [] (fo (fun p:Option Nat×Nat=> .agg [.p (I tk),.p (I ti),.p (.str tn),.vs p.1 (List.map CD tl).length p.2,.p (.lst [])]) (fun p=>[.vec p.1 2 (List.map CD tl) p.2])):=fun tk ti tn tl ts h=>aT _ h
theorem kC:∀(l:Cf) (ps:List Cf),(RQ l)→(ps.length<Dv)→(∀p∈ps,RQ p)→FF Tryz.prog 165 [.agg ((CD l).map .p),.ref [.lst (List.map CD ps)]] (.tup [.agg ((CD ((EK l ps).1)).map .p),.p (I ((EK l ps).2))]):=by
 intro l ps h1 h2 h3;refine A9 Tryz.func165 O kV (n:=10) O O (A3 (BP O (BY O) fun b2=>BP O (BE He O) fun b3=>Ax A8 1 [] O (A3 (A2 A8 2 [1] O (Av O (BM O O (ZQ l ps h1 h2 h3) O) (Ax A8 4 [0,1] O (A4 (⟨O,_,_,⟨_,_,O,(BN (i:=0) FK O O Aj),⟨_,_,O,O,O⟩⟩,(List.nil_sublist _),?_⟩))))))))
 all_goals exact⟨by show (.tup [.agg ((CD ((H4 l ps).1)).map .p),.p (I ((H4 l ps).2))]:AV)=_;rw[ZL],rfl⟩
theorem iz:∀(bR:Nat) (ps:List Cf) (s:Unit) (t:Tm) (d:Int),(Nd t)→(ps.length<Dv)→(∀p∈ps,RQ p)→Bu Tryz.prog 179 [.agg ((BU t).map .p),.p (I d),.ptr bR 0] [.box bR [.fn (.func 165) [] [.ref [.lst (List.map CD ps)]]]] (KQ (fun(r:(Tm×Bool)×Unit)=> .tup [TV r.1.1,.p (.bool r.1.2)]) (fun e=> .p (.iface 223 (I e))) (fun r H'=>H'=[.box bR [.fn (.func 165) [] [.ref [.lst (List.map CD ps)]]]]) (Tf ps s t d)):=by
 intro bR ps s t d h1 h2 h3;obtain⟨tk,ti,tn,tl,ts⟩:=t;have hn:=h1;simp only[Nd,Dv] at hn;refine A9 Tryz.func179 O mx (n:=39) O O (A3 (BP O (BY O) fun b3=>BP O (BE B8 O) fun b5=>Ax A8 1 [] O (A3 (Av O (BI (i:=1) Ba O O O) (YD O O O (.inl ⟨O,O,O⟩) (db tk ti tn tl ts h1) (DS _) fun vv=>?_)))));obtain⟨ov,cv⟩:=vv;refine BP O (BE B8 O) fun b7=>Ax A8 1 [0,0] O (Az (A3 (A2 A8 2 [3] O (Av O (BS Fb O (List.length_map _)) (Ax A8 1 [] O (BH ?_))))));refine Bn (α:=Nat×List Cf×Option Nat×Nat) (fun(i,ys,o,cp)=>⟨39,mk [(2,.ptr bR 0),(5,.ptr b5 0),(7,.ptr b7 0),(15,.p (.lst (List.map CD tl))),(16,.p (I (tl.length:Nat))),(17,.p (I (i:Int)))],[.box b7 [.p (I tk),.p (I ti),.p (.str tn),.vs o (List.map CD (ys++tl.drop i)).length cp,.p (.lst (BK []))],.vec o 2 (List.map CD (ys++tl.drop i)) cp,.box b5 [.p (I 0),.p (I 0),.p (.str ⟨#[]⟩),.p (.nils),.p (.nils)],.box bR [.fn (.func 165) [] [.ref [.lst (List.map CD ps)]]]],[]⟩) (fun(i,ys,o,cp)=>tl.length - i) (fun(i,ys,o,cp)=>i≤tl.length∧(ys.length=i∧ID ps tl=Nn ys (ID ps (tl.drop i)))) ⟨0,[],ov,cv⟩ (⟨by omega,rfl,Zp _⟩) ?_ ?_
 ·exact Bh ⟨we O,we O,we O,we O,we O,we O,Au⟩ (leH (is:=[0,1,2,4]) O (wl (oe O) (wl (oe O) (wl (oe O) (wl (oe O) (Dd))))))
 rintro⟨i,ys,o,cp⟩ hC
 try simp only at hC
 obtain⟨hi,hl,hC⟩:=hC;refine Ay A8 1 [] O (Az (A0 O (fun c=>?_) (fun c=>?_)))
 ·(try simp only[sd,se] at c);refine A5 (Az (BH (A3 (B0 O ?_))));obtain⟨x,hx⟩:=BB (l:=tl) (i:=i) Ar;refine Av O (BA Fb O O Ar (G0 hx) (Dw _)) (Av O (BO FK O (Dw _)) (BP O (BE He O) fun b9=>Ax A8 2 [0,1] O (A3 (A2 A8 2 [4,0] O (Av O (fI O O (kC x ps (hn.2.2.1 _ (List.mem_of_getElem? hx)) h2 h3) (.inl O)) (A2 A8 3 [] O (BP O (BE He O) fun b10=>Ax A8 2 [0,1] O (Az (Ay A8 2 [] O (A0 O (fun c1=>?_) (fun c1=>?_)))))))))))
  ·(try simp only[sd,se] at c1);exact A7 (B0 O (M5 O O O (.inl ⟨O,O,O⟩) (Po ((EK x ps).2)) (aw (we O) (FB)) (⟨O,_,List.nil_sublist _,⟨_,fe (hC.trans (jx hx Ar)),O⟩⟩)))
  (try simp only[sd,se] at c1);refine A5 (A7 (A2 A8 4 [2,0] O (NG (i:=3) O Aa fun b hb=>?_)));subst hb;refine Av O (Cx Fb O O Ar (by first | omega | (simp;omega))) (Av O (EE (i:=3) (j:=i) FK O O O (by first | omega | (simp;omega)) O (Yr _) (Dw _) (gj _) (dH (f:=CD) (ys++tl.drop i) i ((EK x ps).1))) (Bk O (A7 (Ax A8 2 [] O (⟨⟨i+1,ys++[(EK x ps).1],(some b),cp⟩,AT,⟨by omega,⟨by simp[hl],hC.trans (jd hx Ar)⟩⟩,Bh ⟨we rfl,we rfl,we rfl,we rfl,we rfl,we rfl,trivial⟩ (leH (is:=[2,3,4,5]) rfl (wl (dt (aw (we rfl) (aw (we rfl) (aw (we rfl) (aw (we (S4 (f:=CD) (ys++tl.drop i) Am)) (aw (we rfl) (FB))))))) (wl (F6 (f:=CD) ((ys++tl.drop i).set i ((EK x ps).1)) (by rw[set_drop hl hx])) (wl (oe rfl) (wl (oe rfl) (Dd))))))⟩)))))
 (try simp only[sd,se] at c);refine Bp (A3 (CN (Ei (i:=1) (j:=0) (q:=3) [] O O O (FQ Au)) (Ax A8 3 [0,1,0] O (A4 (⟨O,_,_,⟨_,_,O,(BN (i:=1) Ba O O O),⟨_,_,O,O,O⟩⟩,(CO (is:=[2]) O),?_⟩)))));rw[List.drop_eq_nil_of_le Ar,List.append_nil];exact⟨⟨⟨.mk tk ti tn ys [],false⟩,()⟩,jP (iV hC Ar),O,O⟩
theorem ej:∀(bo be:Nat) (co ce:List AV),ES Tryz.prog 178 [.ptr bo 0,.ptr be 0] (.ret) [.box bo co,.box be ce] (fun H'=>H'=[.box bo co,.box be ce]):=by
 intro bo be co ce;refine HH (ty2:=0) Tryz.func178 O iJ (n:=9) O O O O O O (A3 (B0 O (Av O (Gl Y3 O O O) (Bk O ?_))));refine A0 O (fun c=>by cases c) (fun c=>?_);exact A5 ⟨.inl O,O,_,(CO (is:=[0,1]) O),O⟩
theorem ep:∀(bo be:Nat) (e:Int),ES Tryz.prog 178 [.ptr bo 0,.ptr be 0] (.pan (.p (.iface 223 (I e)))) [.box bo [.p (I 0),.p (I 0),.p (.str ⟨#[]⟩),.p (.nils),.p (.nils)],.box be [.p (I 0)]] (fun H'=>H'=[.box bo [.p (I 0),.p (I 0),.p (.str ⟨#[]⟩),.p (.lst []),.p (.lst [])],.box be [.p (I e)]]):=by
 intro bo be e;refine HH (ty2:=0) Tryz.func178 O iJ (n:=9) O O O O O O (A3 (B0 O (Av O (Gl Y3 O O O) (CN (Bl (i:=0) O) (Bk O ?_)))));refine A0 O (fun c=>?_) (fun c=>by cases c);exact A7 (A2 A8 2 [] O (Av O (BM O O (R8 _) O) (A2 A8 2 [0,0,1,0] O (CN (Bl (i:=0) O) (Bk O ⟨.inl O,O,_,(CO (is:=[0,1]) O),O⟩)))))
set_option maxHeartbeats 2000000 in
theorem V8:∀(t:Tm) (ps:List Cf),(Nd t)→(Vp t)→(size t<1099511627776)→(ps.length<Dv)→(∀p∈ps,RQ p)→FF Tryz.prog 164 [.agg ((BU t).map .p),.fn (.func 165) [] [.ref [.lst (List.map CD ps)]]] (.tup [.agg ((BU ((B5 t ps).1)).map .p),.p (I ((B5 t ps).2))]):=by
 intro t ps h1 h2 h3 h4 h5;refine E2 Tryz.func164 O mW (n:=11) O O (A3 (BP O (BY O) fun b2=>BP O (BY O) fun b3=>BP O (BE B8 O) fun b4=>BP O (BE aK O) fun b5=>Bk O (A3 (Av O (EU O O) (Mz O O O O (Bk O (A3 (A2 A8 3 [3] O ?_))))))));refine Dg [2] O O O (.inl ⟨O,O,O⟩) (NH (Tf ps) (fun _ T=>T=[.box b3 [.fn (.func 165) [] [.ref [.lst (List.map CD ps)]]]]) 179 [.ptr b3 0] (fun s t d T hn hp h0 hb hT=>by subst hT;exact iz b3 ps s t d hn h4 h5) _ t 0 () _ (Nat.le_refl _) h1 h2 Ar Ab rfl) ⟨_,_,rfl,rfl,rfl⟩ Aq (DS _) (fun _ _ h=>(congrArg List.length h).trans rfl) ?_ ?_
 rotate_left
 ·intro e _ he;refine⟨_,_,_,O,Lg (is:=[1,0]) _ Aq ⟨_,_,O,O,⟨_,_,O,O,O⟩⟩,ES.eq (ep b4 b5 _) ?_⟩;refine⟨_,[],⟨_,_,O,(BN (i:=0) Ba O O O),⟨_,_,O,(GP (i:=1) Rc O O),O⟩⟩,(List.nil_sublist _),?_⟩;rw[Uu ((OU t 0).symm.trans he)];exact⟨O,O⟩
 rintro⟨z,_⟩ _ hz rfl;refine Ax A8 2 [1,1,0,0] O (A4 (⟨_,_,_,O,DK (is:=[1,0]) Aq ⟨_,_,O,O,⟨_,_,O,O,O⟩⟩,ES.eq (ej b4 b5 _ _) ?_⟩));refine⟨_,_,⟨_,_,O,(BN (i:=0) Ba O O Ak),⟨_,_,O,(GP (i:=1) Rc O O),O⟩⟩,(List.nil_sublist _),?_⟩;rw[Wi ((OU t 0).symm.trans hz)]
 all_goals exact⟨rfl,rfl⟩
theorem Lr:∀(t:Tm) (ps:List Cf),(Nd t)→(Vp t)→(size t<1099511627776)→(ps.length<Dv)→(∀p∈ps,RQ p)→FF Tryz.prog 138 [.agg ((BU t).map .p),.p (.lst (List.map CD ps))] (.tup [.agg ((BU ((B5 t ps).1)).map .p),.p (I ((B5 t ps).2))]):=by
 intro t ps h1 h2 h3 h4 h5;refine A9 Tryz.func138 O nO (n:=11) O O (A3 (BP O (BY O) fun b2=>BP O (BY O) fun b3=>BP O (BE B8 O) fun b4=>Ax A8 1 [] O (A3 (CN (N7 (i:=1) (cs:=[.lst (List.map CD ps)]) [3] O (FQ ⟨O,Au⟩)) (A2 A8 2 [1] O (Av O (BM O O (V8 t ps h1 h2 h3 h4 h5) O) (Ax A8 4 [0,1] O (A4 (⟨O,_,_,⟨_,_,O,(BN (i:=0) Ba O O Ak),⟨_,_,O,O,O⟩⟩,(List.nil_sublist _),?_⟩)))))))))
 all_goals exact⟨rfl,rfl⟩
theorem X1:∀(t:Tm),(Nd t)→(size t<1000000)→FF Tryz.prog 117 [.agg ((BU t).map .p)] (.tup [.p (.lst (BK ((Hw t).1))),.agg ((BU ((Hw t).2)).map .p)]):=by
 intro t h1 h2;refine A9 Tryz.func117 O mB (n:=27) O O (A3 (BP O (BY O) fun b1=>aG O (BP O (BE B8 O) fun b3=>Bk O (Ay A8 1 [] O (Az (BH (BZ (F3 (t:=4) (sz:=5) O) ?_)))))));refine Bn (α:=Tm×List Tm×Option Nat×Nat) (fun(y,l,o,cp)=>⟨27,mk [(1,.ptr b1 0),(3,.ptr b3 0),(4,.vs o (BK l).length cp)],[.vec o 5 (BK l) cp,.box b3 [.p (I 0),.p (I 0),.p (.str ⟨#[]⟩),.p (.nils),.p (.nils)],.box b1 ((BU y).map .p)],[]⟩) (fun(y,l,o,cp)=>size y) (fun(y,l,o,cp)=>Nd y∧l.length+size y≤size t∧(l++(Hw y).1,(Hw y).2)=Hw t) ⟨t,[],none,0⟩ (⟨h1,by simp,by simp⟩) ?_ ?_
 ·exact Bh ⟨we O,we O,we O,Au⟩ (leH (is:=[0,1,2]) O (wl (oe O) (wl (oe O) (wl (oe O) (Dd)))))
 rintro⟨y,l,o,cp⟩ hC
 try simp only at hC
 have hl0:l.length<1000000:=by have:=hC.2.1;omega
 refine Az (Az ?_);obtain⟨yk,yi,yn,yl,ys⟩:=y;refine Bb [1,3,4] 13 (fun y=>y= .p (.bool (((yk:Int)==(6:Int))&&(((ys.length:Nat):Int)==(2:Int))))) ?_ ?_
 ·refine A7 (A2 A8 4 [2] O (BQ 8 O (fun g=>?_) (fun g=>?_)))
  ·(try simp only[sd,se] at g);exact A2 A8 2 [2] O (BF O (BS Br O (Bc _)) (Ax A8 2 [] O (⟨O,O,AK,AI,⟨O,O,O,Au⟩⟩)))
  (try simp only[sd,se] at g);exact Ax A8 5 [] O (⟨O,O,AK,AI,⟨O,O,O,Au⟩⟩)
 rintro _ rfl;refine A0 O (fun c=>?_) (fun c=>?_)
 ·(try simp only[sd,se] at c);refine A5 (BH (A3 (A2 A8 3 [2] O ?_)));obtain⟨x,hx⟩:=BB (l:=ys) (i:=0) (by first | omega | (simp at c;omega));refine Av O (BA Br O O Ar (Bj hx) (BJ _)) (Av O (BO Ba O (BJ _)) ?_);obtain⟨xk,xi,xn,xl,xs⟩:=x;refine Av O (CC Br B8 O O O O O) (Il O O (C4 (i:=0) (rows':=BK [(.mk xk xi xn xl xs:Tm)]) Br Br B8 O O O O O O (B9 _) AE (O7 l [(.mk xk xi xn xl xs:Tm)])) fun o1 cp1=>Ax A8 1 [] O (A7 (A2 A8 2 [2] O ?_)));obtain⟨x1,hx1⟩:=BB (l:=ys) (i:=1) (by first | omega | (simp at c;omega));refine Av O (BA Br O O Ar (Bj hx1) (BJ _)) (Ax A8 2 [2,1] O ?_);refine⟨⟨x1,l++[(.mk xk xi xn xl xs:Tm)],o1,cp1⟩,(by have:=Cj hx1;simp only[size];omega),⟨Dy hC.1.2.2.2.2.1 hx1,by have:=Cj hx1;have:=hC.2.1;simp only[size] at *;simp only[List.length_append,List.length_cons,List.length_nil];omega,Ym c hx hx1 hC.2.2⟩,Bh ⟨we rfl,we rfl,we rfl,trivial⟩ (leH (is:=[0,1,2]) rfl (wl (oe rfl) (wl (oe rfl) (wl (oe rfl) (Dd)))))⟩
 (try simp only[sd,se] at c);refine Bp (Az (CG (fun k=>false) Eg (A1 O (fun _=>BC O) Au (BT (j:=2) O O O (fun H i hi=>BI (i:=i) Ba O hi O) AB Au (A1 O (fun _=>Bf O) Au (Cd O O (Cl (i:=1) Ba O O O O O O) AB Au (B6 O An (BZ (DE (i:=0) [4,25,2] O (FQ ⟨O,O,O,Au⟩)) (A4 (⟨O,_,_,⟨_,_,O,O,⟨_,_,O,(BN (i:=0) Ba O O O),O⟩⟩,(List.nil_sublist _),?_⟩))))))))))
 all_goals exact⟨by show (.tup [.p (.lst (BK l)),.agg [.p (I yk),.p (I yi),.p (.str yn),.p (.lst (List.map CD yl)),.p (.lst (BK ys))]]:AV)=_;rw[dY Ar hC.2.2];rfl,rfl⟩
theorem Nj:∀(d:CM),(OD d)→(0≤d.fixed∧d.fixed≤1000000)→FF Tryz.prog 90 [.agg ((Bo d).map .p)] (.p (I (Cc d))):=by
 intro d h1 h2;have hir:=Hq h1 h2;have hcl:=h1.cl;have htl:=Jh d.type;have hsz:=h1.ty.sz;refine A9 Tryz.func90 O pY (n:=25) O O (A3 (BP O (BY O) fun b1=>Ax A8 1 [] O (A3 (Av O (Aw Cm O O) (Av O (B4 (i:=0) Ba O O (FO _) (BJ _)) (Av O (BM O O (X1 d.type h1.ty.nd h1.ty.sz) O) (A2 A8 3 [] O (BP O (BE B8 O) fun b4=>Ax A8 2 [0,1] O (A3 (Av O (Aw Cm O O) (Av O (A6 (i:=1) C7 O O (DY _)) (A2 A8 2 [] O (Av O (A6 (i:=1) IM O O (CJ _)) (Av O (BS Hu O (List.length_map _)) (A2 A8 2 [] O (Av O (BS Br O (Bc _)) (Av O (Aw Cm O O) (Av O (A6 (i:=1) C7 O O (DY _)) (Av O (Lp O O Ar Ar) (Av O (IN O O) (Ax A8 2 [] O (A4 ?_))))))))))))))))))))));refine⟨O,_,_,⟨_,_,O,O,O⟩,(List.nil_sublist _),?_⟩
 all_goals exact⟨pI rfl,rfl⟩
end Go.Proofs.YtboammbpdaoojaaGreat
namespace Go.Eu
open Go.Abs
def Out.ex {α:Type}:Out α→Except Int α
 | .ok a=> .ok a
 | .stuck=> .error 0
 | .fail=> .error 0
section
variable {α β σ:Type}
theorem Hj {o:Out α}{a:α}(h:o.ex= .ok a):o= .ok a:=by
 cases o<;>simp[Out.ex] at h;rw[h]
theorem DC {o:Out α}{a:α}(h:o= .ok a):o.ex= .ok a:=by rw[h];rfl
theorem jn {o:Out α}{e:Int}(hs:o≠ .stuck) (h:o.ex= .error e):o= .fail∧e=0:=by
 cases o with
 | stuck=>exact absurd rfl hs
 | fail=>simp[Out.ex] at h;exact⟨rfl,h.symm⟩
 | ok a=>simp[Out.ex] at h
theorem gH {o:Out α}(h:o= .fail):o.ex= .error 0:=by rw[h];rfl
theorem Lh {o:Out α}{k:α→Out β}{b:β}(h:o.bind k= .ok b):∃a,o= .ok a∧k a= .ok b:=by
 cases o with
 | stuck=>simp[Out.bind] at h
 | fail=>simp[Out.bind] at h
 | ok a=>exact⟨a,rfl,h⟩
theorem JI {o:Out α}{k:α→Out β}(h:o.bind k≠ .stuck):o≠ .stuck:=fun e=>h (by rw[e];rfl)
theorem Lv {o:Out α}{k:α→Out β}{a:α}(h:o.ex= .ok a):o.bind k=k a:=by rw[Hj h];rfl
theorem J8 {o:Out α}{k:α→Out β}{e:Int}(h:o.bind k≠ .stuck) (he:o.ex= .error e):(o.bind k).ex= .error e:=by
 obtain⟨h1,h2⟩:=jn (JI h) he;subst h2;rw[h1];rfl
theorem Kv {o:Out (Tm×σ)}{k:Tm×σ→Out β}{b:β}(h:o.chk k= .ok b):∃r,o= .ok r∧okB r.1=true∧k r= .ok b:=by
 obtain⟨r,h1,h2⟩:=Lh h;split at h2
 ·rename_i hr;exact⟨r,h1,hr,h2⟩
 cases h2
theorem UF {o:Out (Tm×σ)}{k:Tm×σ→Out β}(h:o.chk k≠ .stuck):o≠ .stuck:=JI h
theorem Tc {o:Out (Tm×σ)}{k:Tm×σ→Out β}{r:Tm×σ}(hs:o.chk k≠ .stuck) (h:o.ex= .ok r):okB r.1=true∧o.chk k=k r:=by
 have h1:=Hj h;subst h1;simp only[Out.chk,Out.bind] at hs ⊢;split at hs
 ·rename_i hr;exact⟨hr,by rw[if_pos hr]⟩
 exact absurd O hs
theorem TO {o:Out (Tm×σ)}{k:Tm×σ→Out β}{e:Int}(h:o.chk k≠ .stuck) (he:o.ex= .error e):(o.chk k).ex= .error e:=J8 h he
theorem Nf {s:Int}{x:Tm×Int}{k:Tm→Int→Out α}(h:Bq.put s x k≠ .stuck):okB x.1=true∧Bq.put s x k=if s - 1<0∨x.2≠0 then .fail else k x.1 (s - 1):=by
 unfold Sys.put at h ⊢;split at h
 ·rename_i hx;refine⟨hx,?_⟩;rw[if_pos hx];simp only[Bq];by_cases c:s - 1<0∨x.2≠0
  ·rw[if_pos c,if_pos c]
  rw[if_neg c,if_neg c]
 exact absurd O h
end
section
variable {E:List CM}{σ:Type}{S:Sys σ}{W:σ→Tm→Out (Tm×σ)}{n:Nat}{t:FE}{v:List Tm}{l:Tm}{s:σ}{x:Tm}
def P8 (E:List CM) (S:Sys σ) (W:σ→Tm→Out (Tm×σ)) (n:Nat) (t:FE) (v:List Tm) (r:Tm×σ):Out ((Option (Tm×List Tm)×Tm)×σ):=match DL E r.1 with
 | none=> .ok ((none,r.1),r.2)
 | some (d,j,fields)=>match C3 (FU d j).name t.branches with
  | none=> .ok ((none,r.1),r.2)
  | some t'=>EH E S W n t' (v++fields) r.1 r.2
theorem Yv {X:Out ((Option (Tm×List Tm)×Tm)×σ)}(h:EH E S W n t v l s=X) (hX:X≠ .stuck):∃k,n=k+1:=by
 cases n with
 | zero=>rw[EH] at h;exact absurd h.symm hX
 | succ k=>exact⟨k,rfl⟩
theorem Jn (h:t.kind≠1):EH E S W (n+1) t v l s= .ok ((some (t.body,v),Be),s):=by rw[EH,if_neg h]
theorem Kt (h:t.kind=1) (hb:t.var<0∨t.var≥(v.length:Int)∨S.over s=true):EH E S W (n+1) t v l s= .ok ((none,l),s):=by rw[EH,if_pos h,if_pos hb]
theorem Mt (h:t.kind=1) (hb:¬(t.var<0∨t.var≥(v.length:Int)∨S.over s=true)) (hx:v[t.var.toNat]?=some x):EH E S W (n+1) t v l s=(W s x).chk (P8 E S W n t v):=by
 rw[EH,if_pos h,if_neg hb,CZ hx];rfl
theorem Io {r:Tm×σ}(h:DL E r.1=none):P8 E S W n t v r= .ok ((none,r.1),r.2):=by unfold P8;rw[h]
theorem LN {r:Tm×σ}{d:CM}{j:Int}{f:List Tm}(h:DL E r.1=some (d,j,f)) (hb:C3 (FU d j).name t.branches=none):P8 E S W n t v r= .ok ((none,r.1),r.2):=by unfold P8;rw[h];simp only[hb]
theorem Ks {r:Tm×σ}{d:CM}{j:Int}{f:List Tm}{t':FE}(h:DL E r.1=some (d,j,f)) (hb:C3 (FU d j).name t.branches=some t'):P8 E S W n t v r=EH E S W n t' (v++f) r.1 r.2:=by unfold P8;rw[h];simp only[hb]
end
section
variable {E:List CM}{σ:Type}{S:Sys σ}{W:σ→Tm→Out (Tm×σ)}{n:Nat}{h m:Tm}{a:List Tm}{s:σ}{d:CM}{x:Fu}
theorem OB (he:(B5 d.value h.levels).2≠0):Es S d h a s= .ok (none,s):=by rw[Es,if_pos he]
theorem Mr (he:(B5 d.value h.levels).2=0):Es S d h a s=S.put s ((B5 d.value h.levels).1,0) fun t s'=> .ok (some (apply t a),s'):=by rw[Es,if_neg Ar]
theorem SE (hc:DL E m=none):FA E S d h a m s= .ok (none,s):=by unfold FA;rw[hc]
theorem X8 {e:CM}{j:Int}{f:List Tm}(hc:DL E m=some (e,j,f)) (hn:e.name≠d.name∨j≥(d.recs.rules.length:Int)):FA E S d h a m s= .ok (none,s):=by unfold FA;rw[hc];simp only[if_pos hn]
theorem UT {e:CM}{j:Int}{f:List Tm}{r:Tm}(hc:DL E m=some (e,j,f)) (hn:¬(e.name≠d.name∨j≥(d.recs.rules.length:Int))) (hr:d.recs.rules[j.toNat]?=some r) (he:(B5 r h.levels).2≠0):FA E S d h a m s= .ok (none,s):=by
 unfold FA;rw[hc];simp only[if_neg hn,UE,CZ hr,if_pos he]
theorem TK {e:CM}{j:Int}{f:List Tm}{r:Tm}(hc:DL E m=some (e,j,f)) (hn:¬(e.name≠d.name∨j≥(d.recs.rules.length:Int))) (hr:d.recs.rules[j.toNat]?=some r) (he:(B5 r h.levels).2=0) :
  FA E S d h a m s=S.put s (apply (apply (B5 r h.levels).1 (a.take (d.fixed+1+d.ctors.length).toNat)) f,0) fun t s'=> .ok (some (apply t (a.drop (Cc d+1).toNat)),s'):=by
 unfold FA;rw[hc];simp only[if_neg hn,UE,CZ hr,if_neg (show ¬(B5 r h.levels).2≠0 by omega)]
theorem Pu {b:Tm}{vars rest:List Tm}(he:(B5 b h.levels).2≠0):Hk S h b vars rest s= .ok (none,s):=by rw[Hk,if_pos he]
theorem XY {b:Tm}{vars rest:List Tm}(hs:Hk S h b vars rest s≠ .stuck) (he:(B5 b h.levels).2=0):okB (B5 b h.levels).1=true∧(∀v∈vars,okB v=true)∧Bg vars<1125899906842624∧Hk S h b vars rest s=S.put s (Cv (B5 b h.levels).1 vars.reverse 0) fun t s'=> .ok (some (apply t rest),s'):=by
 rw[Hk,if_neg Ar] at hs ⊢;split at hs
 ·exact absurd O hs
 rename_i hc;have hn:=hc;simp only[not_or,Bool.not_eq_false] at hc;exact⟨hc.1,fun v hv=>List.all_eq_true.1 hc.2.1 v hv,by omega,by rw[if_neg hn]⟩
def OM (S:Sys σ) (f:HB) (h:Tm) (a:List Tm) (q:(Option (Tm×List Tm)×Tm)×σ):Out (Option Tm×σ):=match q.1.1 with
 | none=> .ok (none,q.2)
 | some (b,vars)=>if S.over q.2=true then .ok (none,q.2) else Hk S h b vars (a.drop f.arity.toNat) q.2
theorem Sz {f:HB}(hl:(a.length:Int)<f.arity):Iw E S W n f h a s= .ok (none,s):=by rw[Iw,if_pos hl]
theorem Uo {f:HB}(hl:¬(a.length:Int)<f.arity):Iw E S W n f h a s=(EH E S W n f.tree (a.take f.arity.toNat) Be s).bind (OM S f h a):=by rw[Iw,if_neg hl];rfl
theorem XK (hl:(a.length:Int)≤Cc d):RG E S W d h a s= .ok (none,s):=by rw[RG,if_pos hl]
theorem bP {y:Tm}(hl:¬(a.length:Int)≤Cc d) (hy:a[(Cc d).toNat]?=some y):RG E S W d h a s=(W s y).chk fun r=>FA E S d h a r.1 r.2:=by rw[RG,if_neg hl,CZ hy]
theorem P0 (hu:U0 E h=false):Ed E S W n h a s= .ok (none,s):=by
 unfold Ed;rw[Cs,hu];simp
section
variable (hu:U0 E h=true) (hd:E[(Bw E h.name).1.decl.toNat]?=some d)
include hu hd
theorem OT (hk:(Bw E h.name).1.kind=1):Ed E S W n h a s=Es S d h a s:=by
 unfold Ed;rw[Cs,hu,if_pos rfl];simp only[if_pos hk,CY,CZ hd]
theorem Sd (hk:(Bw E h.name).1.kind=5):Ed E S W n h a s=RG E S W d h a s:=by
 unfold Ed;rw[Cs,hu,if_pos rfl];simp only[hk,CY,CZ hd];rfl
theorem R3 {f:HB}(hk:(Bw E h.name).1.kind=6) (hf:d.funs[(Bw E h.name).1.item.toNat]?=some f):Ed E S W n h a s=Iw E S W n f h a s:=by
 unfold Ed;rw[Cs,hu,if_pos rfl];simp only[hk,CY,CZ hd,F8,CZ hf];rfl
omit hd
theorem Kx (h1:(Bw E h.name).1.kind≠1) (h5:(Bw E h.name).1.kind≠5) (h6:(Bw E h.name).1.kind≠6):Ed E S W n h a s= .ok (none,s):=by
 unfold Ed;rw[Cs,hu,if_pos rfl];simp only[if_neg h1,if_neg h5,if_neg h6]
end
end
section
variable {E:List CM}{σ:Type}{S:Sys σ}{n:Nat}{t:Tm}{s:σ}{X:Out (Tm×σ)}
theorem eO (h:DJ E S n s t=X) (hX:X≠ .stuck):∃k,n=k+1:=by
 cases n with
 | zero=>rw[DJ] at h;exact absurd h.symm hX
 | succ k=>exact⟨k,rfl⟩
theorem dD (h:DJ E S (n+1) s t=X) (hX:X≠ .stuck):okB t=true:=by
 rw[DJ] at h;split at h
 ·exact absurd h.symm hX
 rename_i hc;simpa using hc
theorem gf (ho:okB t=true) (h:S.over s=true):DJ E S (n+1) s t= .ok (t,s):=by rw[DJ,if_neg (by simp[ho]),if_pos h]
theorem Tb (ho:okB t=true) (h:S.over s=false) (hm:S.many (BD t).2.length=true):DJ E S (n+1) s t= .fail:=by rw[DJ,if_neg (by simp[ho]),if_neg (by simp[h]),if_pos hm]
section
variable (ho:okB t=true) (h:S.over s=false) (hm:S.many (BD t).2.length=false)
include ho h hm
theorem Pj (hk:(BD t).1.kind=5) (hl:(BD t).2.length=0):DJ E S (n+1) s t= .ok (t,s):=by
 rw[DJ,if_neg (by simp[ho]),if_neg (by simp[h]),if_neg (by simp[hm]),if_pos hk,if_pos hl]
theorem Vw {b:Tm}(hk:(BD t).1.kind=5) (hl:(BD t).2.length≠0) (hb:(BD t).1.kids[1]?=some b) :
  DJ E S (n+1) s t=S.put s (Cv b ((BD t).2.take 1) 0) fun x s'=>DJ E S n s' (apply x ((BD t).2.drop 1)):=by
 rw[DJ,if_neg (by simp[ho]),if_neg (by simp[h]),if_neg (by simp[hm]),if_pos hk,if_neg hl,Mu,hb]
theorem Ws {v b:Tm}(hk:(BD t).1.kind=11) (hv:(BD t).1.kids[1]?=some v) (hb:(BD t).1.kids[2]?=some b) :
  DJ E S (n+1) s t=S.put s (Cv b [v] 0) fun x s'=>DJ E S n s' (apply x (BD t).2):=by
 rw[DJ,if_neg (by simp[ho]),if_neg (by simp[h]),if_neg (by simp[hm]),if_neg Ar,if_pos hk,Tw,hv,hb]
def P2 (E:List CM) (S:Sys σ) (n:Nat) (h:Tm) (a:List Tm) (r:Tm×σ):Out (Tm×σ) :=
 if r.1.kind≠8 then .ok (apply (I6 h.kind r.1) a,r.2) else MF S h r.1 a r.2 fun x s'=>DJ E S n s' x
theorem Pp {p:Tm}(hk:(BD t).1.kind=9∨(BD t).1.kind=10) (hp:(BD t).1.kids[0]?=some p) :
  DJ E S (n+1) s t=(DJ E S n s p).chk (P2 E S n (BD t).1 (BD t).2):=by
 rw[DJ,if_neg (by simp[ho]),if_neg (by simp[h]),if_neg (by simp[hm]),if_neg Ar,if_neg Ar,if_pos hk,hp];rfl
def Xl (E:List CM) (S:Sys σ) (n:Nat) (t:Tm) (r:Option Tm×σ):Out (Tm×σ):=match r.1 with
 | none=> .ok (t,r.2)
 | some x=>DJ E S n r.2 x
theorem NZ (hk:(BD t).1.kind=3):DJ E S (n+1) s t=(Ed E S (DJ E S n) n (BD t).1 (BD t).2 s).bind (Xl E S n t):=by
 rw[DJ,if_neg (by simp[ho]),if_neg (by simp[h]),if_neg (by simp[hm]),if_neg Ar,if_neg Ar,if_neg Ar,if_pos hk];rfl
theorem Xt (h1:(BD t).1.kind≠5) (h2:(BD t).1.kind≠11) (h3:(BD t).1.kind≠9) (h4:(BD t).1.kind≠10) (h5:(BD t).1.kind≠3):DJ E S (n+1) s t= .ok (t,s):=by
 rw[DJ,if_neg (by simp[ho]),if_neg (by simp[h]),if_neg (by simp[hm]),if_neg h1,if_neg h2,if_neg Ar,if_neg h5]
end
theorem Mw {h:Tm}{a:List Tm}{r:Tm×σ}(hk:r.1.kind≠8):P2 E S n h a r= .ok (apply (I6 h.kind r.1) a,r.2):=by rw[P2,if_pos hk]
theorem VR {h:Tm}{a:List Tm}{r:Tm×σ}{q:Tm}(hk:r.1.kind=8) (hq:r.1.kids[(1+h.kind - 9).toNat]?=some q):P2 E S n h a r=S.put r.2 (q,0) fun x s'=>DJ E S n s' (apply x a):=by
 rw[P2,if_neg Ar,MF,hq]
end
theorem GR {vs:List Tm}(h:∀v∈vs,okB v=true):Mk vs∧Mn vs∧SU vs:=Md vs (Iy.2 fun t ht=>Ir (h t ht))
theorem Xx {vs:List Tm}(h:∀v∈vs,okB v=true) (hl:vs.length<549755813888):PL vs 0 :=
 ⟨(GR h).2.1,(GR h).2.2,fun x hx=>by have:=G3 (h x hx);omega,by omega,by omega,by omega⟩
theorem Ib {b:Tm}{vs:List Tm}(hb:okB b=true) (hv:∀v∈vs,okB v=true):size (Cv b vs 0).1≤4096 :=
 VI b vs 0 (Ch.1 hb).wt (GR hv).2.1 fun x hx=>by have:=G3 (hv x hx);omega
theorem Lj {b:Tm}{vs:List Tm}(hb:okB b=true) (hv:∀v∈vs,okB v=true) (hl:vs.length<549755813888):okB (Cv b vs 0).1=true:=by
 have o:=Ch.1 hb;obtain⟨h1,h2,h3⟩:=GR hv;have:=Ib hb hv;exact Ch.2 ⟨ZY b vs 0 o.nd h1,Yw b vs 0 o.wt h2,Za (Xx hv hl) o.vp (by have:=o.sz;omega),by omega⟩
theorem Lx.zero:Lx G7:=Lx.num (n:=0) Ar
theorem Ob {ps:List Cf}(hp:∀p∈ps,Ca p=true):∀(vs:List CT) (out:Cf),Lx out→(∀v∈vs,(0≤v.plus∧v.plus≤100)∧ -65536≤v.index∧v.index<8)→Lx (Pt ps out vs).1
 | [],out,h,_=>h
 | v::vs,out,h,hv=>by
  have h1:=hv v As;have h2:∀u∈vs,(0≤u.plus∧u.plus≤100)∧ -65536≤u.index∧u.index<8:=fun u hu=>hv u (by simp[hu]);rw[Pt];split
  ·rename_i hi;split
   ·exact Lx.zero
   rename_i he;refine Ob hp vs _ (h.join ?_) h2;have hlt:v.index.toNat<ps.length:=by omega
   have hg:ps.getD v.index.toNat default∈ps:=by rw[CZ (List.getElem?_eq_getElem hlt)];exact List.getElem_mem hlt
   exact Lx.plus (hp _ hg) h1.1.1 h1.1.2 (Decidable.not_not.1 he)
  exact Ob hp vs _ (h.join (Lx.one h1)) h2
theorem Wu (l:Cf) (ps:List Cf):Lx (EK l ps).1:=by
 unfold EK;split
 ·exact Lx.zero
 rename_i h;simp only[not_or,Bool.not_eq_false,List.all_eq_true] at h;split
 ·exact Lx.zero
 have hl:=Lx.of h.1;exact Ob h.2 l.vars _ (Lx.num hl.c) hl.rg
theorem Sx (ps:List Cf):∀(ls:List Cf) (er:Int),(Hn ps er ls).1.length=ls.length∧(Hn ps er ls).1.all V5=true
 | [],er=>⟨rfl,rfl⟩
 | l::ls,er=>by
  obtain⟨h1,h2⟩:=Sx ps ls (GI er (EK l ps).2);simp only[Hn,List.length_cons,List.all_cons,Bool.and_eq_true];exact⟨by rw[h1],YO (Wu l ps).nd,h2⟩
mutual
theorem QW (ps:List Cf):∀(t:Tm) (er:Int),Rz t=true→Rz (LG ps er t).1=true∧size (LG ps er t).1=size t
 | .mk k i n ls ks,er,h=>by
  rw[KJ,Bool.and_eq_true] at h;obtain⟨h1,h2⟩:=Sx ps ls er;obtain⟨h3,h4,h5⟩:=R5 ps ks (Hn ps er ls).2 h.2;simp only[LG,KJ,size,Bool.and_eq_true];refine⟨⟨?_,h4⟩,by rw[h5]⟩;have g:=h.1;simp only[kF,Bool.and_eq_true] at g ⊢;rw[h1,h3];exact⟨⟨⟨⟨⟨⟨⟨⟨g.1.1.1.1.1.1.1.1,g.1.1.1.1.1.1.1.2⟩,h2⟩,g.1.1.1.1.1.2⟩,g.1.1.1.1.2⟩,g.1.1.1.2⟩,g.1.1.2⟩,g.1.2⟩,g.2⟩
theorem R5 (ps:List Cf):∀(ts:List Tm) (er:Int),Kj ts=true→(JG ps er ts).1.length=ts.length∧Kj (JG ps er ts).1=true∧Bg (JG ps er ts).1=Bg ts
 | [],er,_=>⟨rfl,rfl,rfl⟩
 | t::ts,er,h=>by
  simp only[Kj,Bool.and_eq_true] at h;obtain⟨h1,h2⟩:=QW ps t er h.1;obtain⟨h3,h4,h5⟩:=R5 ps ts (LG ps er t).2 h.2;simp only[JG,List.length_cons,Kj,Bool.and_eq_true,Bg];exact⟨by rw[h3],⟨h1,h4⟩,by rw[h2,h5]⟩
end
theorem bF:Rz Be=true:=by decide
theorem Gp:okB Be=true:=by decide
theorem LP {t:Tm}(ps:List Cf) (h:okB t=true):size (B5 t ps).1≤size t:=by
 unfold B5;split
 ·exact size_pos t
 exact Nat.le_of_eq (QW ps t 0 (Ir h)).2
theorem OW {t:Tm}(ps:List Cf) (h:okB t=true):okB (B5 t ps).1=true:=by
 have:=LP ps h;have:=G3 h;refine LC ?_ Ar;unfold B5;split
 ·exact bF
 exact(QW ps t 0 (Ir h)).1
theorem Jf {f:Tm}{xs:List Tm}(h:okB f=true) (hx:∀x∈xs,okB x=true) (hs:size f+Bg xs+xs.length<549755813888):okB (apply f xs)=true :=
 LC (IX (Ir h) fun x hx'=>Ir (hx x hx')) (by rw[EM];exact hs)
theorem ey {k:Int}{p:Tm}(hk:k=9∨k=10) (h:okB p=true) (hs:size p+1<549755813888):okB (I6 k p)=true:=by
 refine LC ?_ (by simp only[I6,size,Bg];omega);rw[I6,KJ,Bool.and_eq_true];refine⟨?_,by simp[Kj,Ir h]⟩;rcases hk with rfl | rfl<;>rfl
theorem FZ (l:List Tm) (k:Nat):Bg (l.take k)+Bg (l.drop k)=Bg l:=by rw[←KI,List.take_append_drop]
theorem Ih:∀(t:Tm),size (BD t).1+Bg (BD t).2+(BD t).2.length=size t
 | .mk k i n l [f,a]=>by
  unfold BD;split
  ·have:=Ih f;simp only[KI,Bg,size,List.length_append,List.length_cons,List.length_nil];omega
  ·simp[Bg]
 | .mk k i n l []=>by simp[BD,Bg]
 | .mk k i n l [_]=>by simp[BD,Bg]
 | .mk k i n l (_::_::_::_)=>by simp[BD,Bg]
mutual
def Dn:FE→Nat
 | .mk _ _ _ l=>1+Jv l
def WQ:GF→Nat
 | .mk _ _ t=>Dn t
def Jv:List GF→Nat
 | []=>0
 | b::l=>max (WQ b) (Jv l)
end
theorem WS:∀t:FE,1≤Dn t
 | .mk k b v l=>by simp only[Dn];omega
structure HD (E:List CM):Prop where
 g:L3 E
 vl:∀d∈E,size d.value≤400
 ru:∀d∈E,∀t∈d.recs.rules,size t≤400
 fu:∀d∈E,∀f∈d.funs,Dn f.tree≤50
theorem Uh {nm:ByteArray}:∀{l:List GF}{t:FE},C3 nm l=some t→QS l→FJ t∧Dn t≤Jv l
 | .mk c a q::l,t,h,ho=>by
  simp only[QS,iK] at ho;rw[C3] at h;simp only[Jv,WQ];split at h
  ·split at h
   ·cases h
   cases h;exact⟨ho.1,by simp only[GF.tree];omega⟩
  obtain⟨h1,h2⟩:=Uh h ho.2;exact⟨h1,by omega⟩
theorem Vx {nm:ByteArray}{t t':FE}(h:C3 nm t.branches=some t') (ho:FJ t):FJ t'∧Dn t' < Dn t:=by
 obtain⟨k,b,v,l⟩:=t;simp only[FJ] at ho;obtain⟨h1,h2⟩:=Uh h ho.2;exact⟨h1,by simp only[Dn,FE.branches] at *;omega⟩
theorem LD {E:List CM}{h:Tm}(hu:U0 E h=true):∃(i:Nat) (d:CM),E[i]?=some d∧YI d i (Bw E h.name).1∧d∈E∧E[(Bw E h.name).1.decl.toNat]?=some d:=by
 simp only[U0,Bool.and_eq_true,decide_eq_true_eq] at hu;obtain⟨i,d,h1,h2⟩:=RO hu.1;exact⟨i,d,h1,h2,List.mem_of_getElem? h1,by rw[h2.decl];simpa using h1⟩
theorem S0 {E:List CM}{nm:ByteArray}{d:CM}{j:Int}(h:Gy E nm=some (d,j)):d∈E∧(0≤j→j<d.ctors.length):=by
 unfold Gy at h;split at h
 ·cases h
 rename_i h0;obtain⟨i,d',h1,h2⟩:=RO (Decidable.not_not.1 h0);have hd:CY E (Bw E nm).1.decl=d':=CZ (by rw[h2.decl];simpa using h1);have hm:=List.mem_of_getElem? h1;rw[hd] at h;split at h
 ·cases h;exact⟨hm,fun q=>by omega⟩
 split at h
 ·rename_i h4;obtain⟨k,c,h5,h6⟩:=h2.ctor h4;cases h;exact⟨hm,fun _=>by have:=(List.getElem?_eq_some_iff.1 h5).1;omega⟩
 split at h
 ·cases h;exact⟨hm,fun q=>by omega⟩
 cases h
structure j7 (E:List CM) (t:Tm) (d:CM) (j:Int) (f:List Tm):Prop where
 mem:d∈E
 lo:0≤j
 hi:j<d.ctors.length
 fs:f=(BD t).2.drop d.fixed.toNat
 len:((BD t).2.length:Int)=d.fixed+Gr d j
 kind:(BD t).1.kind=3
theorem Gd {E:List CM}{t:Tm}{d:CM}{j:Int}{f:List Tm}(h:DL E t=some (d,j,f)):j7 E t d j f:=by
 unfold DL at h;split at h
 ·cases h
 rename_i hk;split at h
 ·cases h
 rename_i d' j' hf;obtain⟨h1,h2⟩:=S0 hf;split at h
 ·cases h
 split at h
 ·cases h
 rename_i h3 h4;cases h;exact⟨h1,by omega,h2 Ar,rfl,Decidable.not_not.1 h4,Decidable.not_not.1 hk⟩
theorem Kl {E:List CM}{t:Tm}{d:CM}{j:Int}{f:List Tm}(h:DL E t=some (d,j,f)) (ho:okB t=true):(∀x∈f,okB x=true∧size x<size t)∧Bg f+f.length<size t:=by
 have c:=Gd h;have hs:=Ih t;have hp:=size_pos (BD t).1;have hd:=FZ (BD t).2 d.fixed.toNat;rw[c.fs];refine⟨fun x hx=>⟨(IY ho).2 x (List.mem_of_mem_drop hx),?_⟩,by rw[List.length_drop];omega⟩;have:=HR (List.mem_of_mem_drop hx);omega
theorem Kq {E:List CM}{t:Tm}{d:CM}{j:Int}{f:List Tm}(hE:L3 E) (h:DL E t=some (d,j,f)):f.length≤1000000:=by
 have c:=Gd h;have hd:=hE.all d c.mem;have hlo:=c.lo;have hhi:=c.hi;have hlt:j.toNat<d.ctors.length:=by omega
 have hx:=List.getElem?_eq_getElem hlt;have hs:=(hd.din.cs _ (List.getElem_mem hlt)).ty.sz;have hl:=Jh d.ctors[j.toNat].type;have hfx:=hd.fx;have hlen:=c.len;rw[c.fs,List.length_drop];unfold Gr YX FU at hlen;rw[CZ hx] at hlen;omega
def DN {α:Type}(o:Out α) (p:α→Prop):Prop:=match o with
 | .stuck=>False
 | .fail=>True
 | .ok a=>p a
section
variable {α β σ:Type}
theorem DN.ok {a:α}{p:α→Prop}(h:p a):DN (.ok a) p:=h
theorem DN.ns {o:Out α}{p:α→Prop}(h:DN o p):o≠ .stuck:=fun e=>by rw[e] at h;exact h
theorem DN.get {o:Out α}{p:α→Prop}{a:α}(h:DN o p) (e:o= .ok a):p a:=by rw[e] at h;exact h
theorem DN.mono {o:Out α}{p q:α→Prop}(h:DN o p) (hpq:∀a,p a→q a):DN o q:=by
 cases o with
 | stuck=>exact h
 | fail=>trivial
 | ok a=>exact hpq a h
theorem DN.bind {o:Out α}{k:α→Out β}{p:α→Prop}{q:β→Prop}(h:DN o p) (hk:∀a,p a→DN (k a) q):DN (o.bind k) q:=by
 cases o with
 | stuck=>exact h
 | fail=>trivial
 | ok a=>exact hk a h
theorem DN.chk {o:Out (Tm×σ)}{k:Tm×σ→Out β}{p:Tm×σ→Prop}{q:β→Prop}(h:DN o p) (hk:∀a,p a→okB a.1=true∧DN (k a) q):DN (o.chk k) q :=
 DN.bind h fun a ha=>by rw[if_pos (hk a ha).1];exact(hk a ha).2
theorem DN.put {S:Sys σ}{s:σ}{x:Tm×Int}{k:Tm→σ→Out β}{q:β→Prop}(ho:okB x.1=true) (hk:∀s',S.res s x.1 x.2=some s'→DN (k x.1 s') q):DN (S.put s x k) q:=by
 unfold Sys.put;rw[if_pos ho];cases h:S.res s x.1 x.2 with
 | none=>trivial
 | some s'=>exact hk s' h
end
structure Zq {σ:Type} (S:Sys σ) (J:σ→Prop) (cnt:σ→Nat) (C:Nat):Prop where
 nov:∀s,J s→S.over s=false→cnt s≤C
 res:∀s t e s',J s→cnt s<1152921504606846976→okB t=true→S.res s t e=some s'→J s'∧cnt s'=cnt s+1
 hC:C≤20000
section
variable {σ:Type}(S:Sys σ) (J:σ→Prop) (cnt:σ→Nat) (C:Nat)
structure SP (s:σ) (t:Tm) (r:Tm×σ):Prop where
 j:J r.2
 ok:okB r.1=true
 le:cnt s≤cnt r.2
 sz:size r.1≤size t+(cnt r.2 - cnt s)*4500
 ub:S.over s=false→cnt r.2≤C+1+size t+(C - cnt s)*4500
 st:S.over s=true→r.2=s
structure pP (n:Nat) (s:σ) (t:Tm):Prop where
 j:J s
 ok:okB t=true
 pm:S.over s=false→size t+(C - cnt s)*4500≤90100000
 fu:S.over s=false→size t+(C - cnt s)*4501+100≤n
 n1:1≤n
def jF (n:Nat) (W:σ→Tm→Out (Tm×σ)):Prop:=∀s t,pP S J cnt C n s t→DN (W s t) (SP S J cnt C s t)
end
section
variable {σ:Type}{S:Sys σ}{J:σ→Prop}{cnt:σ→Nat}{C:Nat}{E:List CM}{n:Nat}{W:σ→Tm→Out (Tm×σ)}
variable (hS:Zq S J cnt C) (hE:HD E) (hW:jF S J cnt C n W)
structure pw (S:Sys σ) (J:σ→Prop) (cnt:σ→Nat) (C n V Z:Nat) (s:σ) (vars:List Tm) (last:Tm):Prop where
 j:J s
 ok:∀v∈vars,okB v=true
 lok:okB last=true
 pm:S.over s=false→∀v∈vars,size v+(C - cnt s)*4500≤V
 fu:S.over s=false→∀v∈vars,size v+(C - cnt s)*4501+100≤n
 lm:S.over s=false→size last+(C - cnt s)*4500≤V∧size last+(C - cnt s)*4501+100≤n
 zs:∀v∈vars,size v≤Z
 lz:size last≤Z
structure hZ (S:Sys σ) (J:σ→Prop) (cnt:σ→Nat) (C n V L Z:Nat) (s:σ) (q:(Option (Tm×List Tm)×Tm)×σ):Prop where
 j:J q.2
 le:cnt s≤cnt q.2
 ub:S.over s=false→cnt q.2≤C+1+V
 st:S.over s=true→q.2=s
 ok:∀b vars,q.1.1=some (b,vars)→okB b=true∧∀v∈vars,okB v=true
 vl:∀b vars,q.1.1=some (b,vars)→vars.length≤L∧Bg vars<1125899906842624
 lok:okB q.1.2=true
 lz:q.1.1=none→size q.1.2≤Z+(cnt q.2 - cnt s)*4500
 lm:S.over q.2=false→q.1.1=none→size q.1.2+(C - cnt q.2)*4500≤V∧size q.1.2+(C - cnt q.2)*4501+100≤n
include hS hE hW
theorem U7 {V L:Nat}(hV:V≤90100000):∀(m:Nat) (t:FE) (vars:List Tm) (last:Tm) (s:σ) (Z:Nat),Dn t≤m→FJ t→1≤n→vars.length+Dn t*1000000≤L→Bg vars+Dn t*549755813888<1125899906842624→pw S J cnt C n V Z s vars last→DN (EH E S W m t vars last s) (hZ S J cnt C n V L Z s)
 | 0,t,vars,last,s,Z,h,_,_,_,_,_=>absurd h (by have:=WS t;omega)
 | m+1,t,vars,last,s,Z,h,ht,hn,hL,hM,hp=>by
  by_cases hk:t.kind=1
  ·by_cases hb:t.var<0∨t.var≥(vars.length:Int)∨S.over s=true
   ·rw[Kt hk hb];exact DN.ok ⟨hp.j,Nat.le_refl _,fun h=>by have:=hS.nov s hp.j h;simp only;omega,fun _=>rfl,fun b v e=>by simp at e,fun b v e=>by simp at e,hp.lok,fun _=>by have:=hp.lz;simp only;omega,fun h _=>hp.lm h⟩
   have hlt:t.var.toNat<vars.length:=by omega
   have ho:S.over s=false:=by simpa using fun e=>hb (.inr (.inr e))
   have hx:=List.getElem?_eq_getElem hlt;have hm:=List.getElem_mem hlt;rw[Mt hk hb hx];have hcs:=hS.nov s hp.j ho;refine DN.chk (hW s _ ⟨hp.j,hp.ok _ hm,fun _=>by have:=hp.pm ho _ hm;omega,fun _=>hp.fu ho _ hm,hn⟩) fun r hr=>⟨hr.ok,?_⟩;have hpm:=hp.pm ho _ hm;have hfu:=hp.fu ho _ hm;have hub:=hr.ub ho;have hle:=hr.le;have hsz:=hr.sz;have hlm:S.over r.2=false→size r.1+(C - cnt r.2)*4500≤V∧size r.1+(C - cnt r.2)*4501+100≤n:=fun h=>by have:=hS.nov _ hr.j h;omega
   have hstop:DN (.ok ((none,r.1),r.2)) (hZ S J cnt C n V L Z s) :=
    DN.ok ⟨hr.j,hr.le,fun _=>by simp only;omega,fun e=>absurd (ho.symm.trans e) As,fun b v e=>by simp at e,fun b v e=>by simp at e,hr.ok,fun _=>by have:=hp.zs _ hm;simp only;omega,fun h _=>hlm h⟩
   cases hc:DL E r.1 with
   | none=>rw[Io hc];exact hstop
   | some q =>
    obtain⟨d,j,f⟩:=q;cases hbr:C3 (FU d j).name t.branches with
    | none=>rw[LN hc hbr];exact hstop
    | some t' =>
     rw[Ks hc hbr];obtain⟨h1,h2⟩:=Vx hbr ht;obtain⟨h3,h4⟩:=Kl hc hr.ok;have h5:=G3 hr.ok;refine DN.mono (U7 (L:=L) hV m t' (vars++f) r.1 r.2 (Z+(cnt r.2 - cnt s)*4500) Ar h1 hn (by have:=Kq hE.g hc;rw[List.length_append];omega) (by rw[KI];omega) ⟨hr.j,fun v hv=>?_,hr.ok,fun h v hv=>?_,fun h v hv=>?_,hlm,fun v hv=>?_,by have:=hp.zs _ hm;omega⟩) fun q hq=>?_
     ·rcases List.mem_append.1 hv with hv | hv
      ·exact hp.ok v hv
      exact(h3 v hv).1
     ·have:=hS.nov _ hr.j h;rcases List.mem_append.1 hv with hv | hv
      ·have:=hp.pm ho v hv;omega
      have:=(h3 v hv).2;omega
     ·have:=hS.nov _ hr.j h;rcases List.mem_append.1 hv with hv | hv
      ·have:=hp.fu ho v hv;omega
      have:=(h3 v hv).2;omega
     ·have hzm:=hp.zs _ hm;rcases List.mem_append.1 hv with hv | hv
      ·have:=hp.zs v hv;omega
      have:=(h3 v hv).2;omega
     refine⟨hq.j,by have:=hq.le;omega,fun _=>?_,fun e=>absurd (ho.symm.trans e) As,hq.ok,hq.vl,hq.lok,fun e=>by have:=hq.lz e;have:=hq.le;omega,hq.lm⟩;cases hov:S.over r.2 with
     | true=>rw[hq.st hov];omega
     | false=>exact hq.ub hov
  rw[Jn hk];refine DN.ok ⟨hp.j,Nat.le_refl _,fun h=>by have:=hS.nov s hp.j h;simp only;omega,fun _=>rfl,fun b v e=>?_,fun b v e=>?_,Gp,fun e=>by simp at e,fun h e=>by simp at e⟩
  ·simp only[Option.some.injEq,Prod.mk.injEq] at e;obtain⟨rfl,rfl⟩:=e;refine⟨?_,hp.ok⟩;obtain⟨k,b,v,l⟩:=t;simp only[FJ] at ht;exact ht.1
  simp only[Option.some.injEq,Prod.mk.injEq] at e;obtain⟨rfl,rfl⟩:=e;omega
end
section
variable {σ:Type}{S:Sys σ}{J:σ→Prop}{cnt:σ→Nat}{C:Nat}{E:List CM}{n:Nat}{W:σ→Tm→Out (Tm×σ)}
structure XT (S:Sys σ) (J:σ→Prop) (cnt:σ→Nat) (C:Nat) (s:σ) (z:Nat) (r:Option Tm×σ):Prop where
 j:J r.2
 le:cnt s≤cnt r.2
 ub:cnt r.2≤C+1+z+(C - cnt s)*4500
 ok:∀x,r.1=some x→okB x=true∧cnt s+1≤cnt r.2∧size x≤z+(cnt r.2 - cnt s)*4500
variable (hS:Zq S J cnt C)
include hS
theorem Ys {d:CM}{h:Tm}{a:List Tm}{s:σ}(hj:J s) (hc:cnt s≤C) (hv:okB d.value=true) (hs:size d.value≤400) (ha:∀x∈a,okB x=true) (hz:size h+Bg a+a.length≤90100000):DN (Es S d h a s) (XT S J cnt C s (size h+Bg a+a.length)):=by
 have hC:=hS.hC;by_cases he:(B5 d.value h.levels).2=0
 ·rw[Mr he];have h1:=LP h.levels hv;have h2:=OW h.levels hv;refine DN.put h2 fun s' hs'=>?_;obtain⟨h3,h4⟩:=hS.res _ _ _ _ hj Ar h2 hs';have h5:=EM a (B5 d.value h.levels).1;refine DN.ok ⟨h3,by simp only;omega,by simp only;omega,fun x hx=>?_⟩;simp only[Option.some.injEq] at hx;subst hx;exact⟨Jf h2 ha Ar,by simp only;omega,by simp only;omega⟩
 rw[OB he];exact DN.ok ⟨hj,Nat.le_refl _,by simp only;omega,fun x hx=>by cases hx⟩
theorem Z5 {b h:Tm}{vars rest:List Tm}{s:σ}{z:Nat}(hj:J s) (hc:cnt s≤C) (hb:okB b=true) (hv:∀v∈vars,okB v=true) (hl:vars.length<549755813888) (hsv:Bg vars<1125899906842624) (hr:∀x∈rest,okB x=true) (hz:Bg rest+rest.length≤z) (hz2:z≤90100000):DN (Hk S h b vars rest s) (fun r=>J r.2∧cnt s≤cnt r.2∧cnt r.2≤cnt s+1∧∀x,r.1=some x→okB x=true∧cnt r.2=cnt s+1∧size x≤z+4096):=by
 have hC:=hS.hC;by_cases he:(B5 b h.levels).2=0
 ·have h1:=OW h.levels hb;have hvr:∀v∈vars.reverse,okB v=true:=fun v hm=>hv v (List.mem_reverse.1 hm);have h2:=Lj h1 hvr (by rw[List.length_reverse];exact hl);have h3:=Ib h1 hvr;rw[Hk,if_neg Ar,if_neg (by simp only[not_or,Bool.not_eq_false];exact⟨h1,List.all_eq_true.2 hv,by omega⟩)];refine DN.put h2 fun s' hs'=>?_;obtain⟨h4,h5⟩:=hS.res _ _ _ _ hj Ar h2 hs';have h6:=EM rest (Cv (B5 b h.levels).1 vars.reverse 0).1;refine DN.ok ⟨h4,by simp only;omega,by simp only;omega,fun x hx=>?_⟩;simp only[Option.some.injEq] at hx;subst hx;exact⟨Jf h2 hr Ar,by simp only;omega,by omega⟩
 rw[Pu he];exact DN.ok ⟨hj,Nat.le_refl _,by simp only;omega,fun x hx=>by cases hx⟩
variable (hE:HD E)
include hE
theorem bC {d:CM}{h m:Tm}{a:List Tm}{s:σ}(hd:d∈E) (hj:J s) (hc:cnt s≤90200000) (hm:okB m=true) (ha:∀x∈a,okB x=true) {z:Nat}{y:Tm}(hy:a[(Cc d).toNat]?=some y) (hz:Bg a+a.length+size m≤z+size y) (hz2:z≤500000000000) :
  DN (FA E S d h a m s) (fun r=>J r.2∧cnt s≤cnt r.2∧cnt r.2≤cnt s+1∧∀x,r.1=some x→okB x=true∧cnt r.2=cnt s+1∧size x≤z+4500):=by
 have hg:=hE.g.all d hd;have hnone:DN (.ok (none,s)) (fun r:Option Tm×σ=>J r.2∧cnt s≤cnt r.2∧cnt r.2≤cnt s+1∧∀x,r.1=some x→okB x=true∧cnt r.2=cnt s+1∧size x≤z+4500) :=
  DN.ok ⟨hj,Nat.le_refl _,by simp only;omega,fun x hx=>by cases hx⟩
 cases hcw:DL E m with
 | none=>rw[SE hcw];exact hnone
 | some q =>
  obtain⟨e,j,f⟩:=q;by_cases hn:e.name≠d.name∨j≥(d.recs.rules.length:Int)
  ·rw[X8 hcw hn];exact hnone
  have hcf:=Gd hcw;have hlo:=hcf.lo;have hlt:j.toNat<d.recs.rules.length:=by omega
  have hr:=List.getElem?_eq_getElem hlt;have hrm:=List.getElem_mem hlt;by_cases he:(B5 d.recs.rules[j.toNat] h.levels).2=0
  ·rw[TK hcw hn hr he];have h1:=hg.ru _ hrm;have h2:=OW h.levels h1;have h3:=LP h.levels h1;have h4:=hE.ru d hd _ hrm;obtain⟨h5,h6⟩:=Kl hcw hm;have hni:=(Hq hg.din hg.fx).1;have hf0:=hg.fx.1;have hk:(d.fixed+1+d.ctors.length).toNat≤(Cc d).toNat:=by unfold Cc;omega
   have hnn:(Cc d+1).toNat=(Cc d).toNat+1:=by unfold Cc;omega
   have t1:=FZ a (Cc d).toNat;have t2:=FZ (a.take (Cc d).toNat) (d.fixed+1+d.ctors.length).toNat;rw[List.take_take,Nat.min_eq_left hk] at t2;rw[C2 hy] at t1;simp only[Bg] at t1;have hlen:=(List.getElem?_eq_some_iff.1 hy).1;have u1:=EM (a.take (d.fixed+1+d.ctors.length).toNat) (B5 d.recs.rules[j.toNat] h.levels).1;have u2:=EM f (apply (B5 d.recs.rules[j.toNat] h.levels).1 (a.take (d.fixed+1+d.ctors.length).toNat));have hl1:(a.take (d.fixed+1+d.ctors.length).toNat).length≤(Cc d).toNat:=by rw[List.length_take];omega
   have hl2:(a.drop ((Cc d).toNat+1)).length+(Cc d).toNat+1=a.length:=by rw[List.length_drop];omega
   have h7:okB (apply (apply (B5 d.recs.rules[j.toNat] h.levels).1 (a.take (d.fixed+1+d.ctors.length).toNat)) f)=true :=
    LC (IX (IX (Ir h2) fun x hx=>Ir (ha x (List.mem_of_mem_take hx))) fun x hx=>Ir (h5 x hx).1) (by rw[u2,u1];omega)
   refine DN.put h7 fun s' hs'=>?_;obtain⟨h8,h9⟩:=hS.res _ _ _ _ hj Ar h7 hs';have u3:=EM (a.drop (Cc d+1).toNat) (apply (apply (B5 d.recs.rules[j.toNat] h.levels).1 (a.take (d.fixed+1+d.ctors.length).toNat)) f);rw[hnn] at u3;refine DN.ok ⟨h8,by simp only;omega,by simp only;omega,fun x hx=>?_⟩;simp only[Option.some.injEq] at hx;subst hx;rw[hnn];exact⟨LC (IX (Ir h7) fun x hx=>Ir (ha x (List.mem_of_mem_drop hx))) Ar,h9,by omega⟩
  rw[UT hcw hn hr he];exact hnone
variable (hW:jF S J cnt C n W)
include hW
theorem Y0 {h:Tm}{a:List Tm}{s:σ}(hn:100≤n) (hj:J s) (ho:S.over s=false) (ha:∀x∈a,okB x=true) (hz:size h+Bg a+a.length+(C - cnt s)*4500≤90100000) (hf:size h+Bg a+a.length+(C - cnt s)*4501+100≤n+1) :
  DN (Ed E S W n h a s) (XT S J cnt C s (size h+Bg a+a.length)):=by
 have hC:=hS.hC;have hc:=hS.nov s hj ho;have hh:=size_pos h;have hnone:DN (.ok (none,s)) (XT S J cnt C s (size h+Bg a+a.length)):=DN.ok ⟨hj,Nat.le_refl _,by simp only;omega,fun x hx=>by cases hx⟩;cases hu:U0 E h with
 | false=>rw[P0 hu];exact hnone
 | true =>
  obtain⟨i,d,h1,h2,hd,h3⟩:=LD hu;have hg:=hE.g.all d hd;by_cases k1:(Bw E h.name).1.kind=1
  ·rw[OT hu h3 k1];exact Ys hS hj hc hg.vl (hE.vl d hd) ha Ar
  by_cases k5:(Bw E h.name).1.kind=5
  ·rw[Sd hu h3 k5];by_cases hl:(a.length:Int)≤Cc d
   ·rw[XK hl];exact hnone
   have hni:=(Hq hg.din hg.fx).1;have hf0:=hg.fx.1;have hlt:(Cc d).toNat<a.length:=by unfold Cc at *;omega
   have hy:=List.getElem?_eq_getElem hlt;have hym:=List.getElem_mem hlt;have hys:=HR hym;rw[bP hl hy];refine DN.chk (hW s _ ⟨hj,ha _ hym,fun _=>by omega,fun _=>by omega,by omega⟩) fun r hr=>⟨hr.ok,?_⟩;have hub:=hr.ub ho;have hsz:=hr.sz;have hle:=hr.le;refine DN.mono (bC hS hE hd hr.j Ar hr.ok ha (z:=Bg a+a.length+(cnt r.2 - cnt s)*4500) hy Ar Ar) fun q hq=>?_;obtain⟨q1,q2,q3,q4⟩:=hq;exact⟨q1,by omega,by omega,fun x hx=>by obtain⟨q5,q6,q7⟩:=q4 x hx;exact⟨q5,by omega,by omega⟩⟩
  by_cases k6:(Bw E h.name).1.kind=6
  ·obtain⟨k,f,h4,h5⟩:=h2.func k6;have hf3:d.funs[(Bw E h.name).1.item.toNat]?=some f:=by rw[h5];simpa using h4
   have hfm:=List.mem_of_getElem? h4;obtain⟨f1,f2,f3⟩:=hg.fu f hfm;rw[R3 hu h3 k6 hf3];by_cases hl:(a.length:Int)<f.arity
   ·rw[Sz hl];exact hnone
   rw[Uo hl];have hts:=FZ a f.arity.toNat;refine DN.bind (U7 hS hE hW (V:=size h+Bg a+a.length - 1+(C - cnt s)*4500) (L:=60000000) Ar n f.tree (a.take f.arity.toNat) Be s (size h+Bg a+a.length) (by have:=hE.fu d hd f hfm;omega) f3 Ar (by have:=hE.fu d hd f hfm;rw[List.length_take];omega) (by have:=hE.fu d hd f hfm;omega)
    ⟨hj,fun v hv=>ha v (List.mem_of_mem_take hv),Gp,fun _ v hv=>by have:=HR (List.mem_of_mem_take hv);omega,fun _ v hv=>by have:=HR (List.mem_of_mem_take hv);omega,fun _=>?_,fun v hv=>by have:=HR (List.mem_of_mem_take hv);omega,by have:size Be=1:=rfl;omega⟩) fun q hq=>?_
   ·have:size Be=1:=rfl;have:1≤a.length:=by omega
    omega
   have hub:=hq.ub ho;have hle:=hq.le;have hstop:DN (.ok (none,q.2)) (XT S J cnt C s (size h+Bg a+a.length)):=DN.ok ⟨hq.j,hq.le,by simp only;omega,fun x hx=>by cases hx⟩;unfold OM;cases hq1:q.1.1 with
   | none=>exact hstop
   | some bv =>
    obtain⟨b,vars⟩:=bv;obtain⟨o1,o2⟩:=hq.ok b vars hq1;simp only;cases hov:S.over q.2 with
    | true=>rw[if_pos rfl];exact hstop
    | false =>
     rw[if_neg As];have hc2:=hS.nov _ hq.j hov;refine DN.mono (Z5 hS (z:=Bg a+a.length) hq.j hc2 o1 o2 (by have:=(hq.vl b vars hq1).1;omega) (hq.vl b vars hq1).2 (fun x hx=>ha x (List.mem_of_mem_drop hx)) (by rw[List.length_drop];omega) Ar) fun r hr=>?_;obtain⟨q1,q2,q3,q4⟩:=hr;exact⟨q1,by omega,by omega,fun x hx=>by obtain⟨q5,q6,q7⟩:=q4 x hx;exact⟨q5,by omega,by omega⟩⟩
  rw[Kx hu k1 k5 k6];exact hnone
end
theorem Fv {h:Tm}(ho:okB h=true) {i:Nat}(hi:(i:Int)<arity h.kind):∃x,h.kids[i]?=some x∧okB x=true∧size x<size h:=by
 obtain⟨k,j,n,l,ks⟩:=h;have hw:=(Ch.1 ho).wt;simp only[Wt] at hw;simp only[Tm.kind] at hi;have hlt:i<ks.length:=by have:=hw.1;omega
 have hx:(Tm.mk k j n l ks).kids[i]?=some ks[i]:=List.getElem?_eq_getElem hlt;exact⟨ks[i],hx,HZ ho hx,by have:=Cj (List.getElem?_eq_getElem hlt);simp only[size];omega⟩
section
variable {σ:Type}{S:Sys σ}{J:σ→Prop}{cnt:σ→Nat}{C:Nat}{E:List CM}
variable (hS:Zq S J cnt C) (hE:HD E)
include hS
theorem ig {β:Type}{s:σ}{x:Tm×Int}{k:Tm→σ→Out β}{q:β→Prop}(hj:J s) (hc:cnt s<1152921504606846976) (ho:okB x.1=true) (hk:∀s',J s'→cnt s'=cnt s+1→DN (k x.1 s') q):DN (S.put s x k) q :=
 DN.put ho fun s' hs'=>by obtain⟨h1,h2⟩:=hS.res _ _ _ _ hj hc ho hs';exact hk s' h1 h2
theorem lX {β:Type}{h:Tm}{a:List Tm}{s:σ}{k:Tm→σ→Out β}{q:β→Prop}(hj:J s) (hc:cnt s<1152921504606846976) (hh:okB h=true) (ha:∀x∈a,okB x=true) (hk:h.kind=5) (hl:a.length≠0) (hz:Bg a+a.length<500000000000)
  (hq:∀x s',J s'→cnt s'=cnt s+1→okB x=true→size x≤4096+Bg a+a.length→DN (k x s') q):DN (Mu S h a s k) q:=by
 obtain⟨b,hb,ho,hs⟩:=Fv hh (i:=1) (by rw[hk];decide);rw[Mu,hb];simp only;have hv:∀v∈a.take 1,okB v=true:=fun v hv=>ha v (List.mem_of_mem_take hv);have h1:=Lj ho hv (by rw[List.length_take];omega);have h2:=Ib ho hv;refine ig hS hj hc h1 fun s' g1 g2=>?_;have h3:=FZ a 1;have h4:=EM (a.drop 1) (Cv b (a.take 1) 0).1;have h5:(a.drop 1).length≤a.length:=by rw[List.length_drop];omega
 exact hq _ s' g1 g2 (Jf h1 (fun x hx=>ha x (List.mem_of_mem_drop hx)) Ar) Ar
theorem pO {β:Type}{h:Tm}{a:List Tm}{s:σ}{k:Tm→σ→Out β}{q:β→Prop}(hj:J s) (hc:cnt s<1152921504606846976) (hh:okB h=true) (ha:∀x∈a,okB x=true) (hk:h.kind=11) (hz:Bg a+a.length<500000000000)
  (hq:∀x s',J s'→cnt s'=cnt s+1→okB x=true→size x≤4096+Bg a+a.length→DN (k x s') q):DN (Tw S h a s k) q:=by
 obtain⟨v,hv,ho,hs⟩:=Fv hh (i:=1) (by rw[hk];decide);obtain⟨b,hb,ho2,hs2⟩:=Fv hh (i:=2) (by rw[hk];decide);rw[Tw,hv,hb];simp only;have hvs:∀x∈[v],okB x=true:=fun x hx=>by rw[List.mem_singleton.1 hx];exact ho
 have h1:=Lj ho2 hvs As;have h2:=Ib ho2 hvs;refine ig hS hj hc h1 fun s' g1 g2=>?_;have h4:=EM a (Cv b [v] 0).1;exact hq _ s' g1 g2 (Jf h1 ha Ar) Ar
theorem lI {β:Type}{h p:Tm}{a:List Tm}{s:σ}{k:Tm→σ→Out β}{q:β→Prop}(hj:J s) (hc:cnt s<1152921504606846976) (hp:okB p=true) (ha:∀x∈a,okB x=true) (hk:h.kind=9∨h.kind=10) (h8:p.kind=8) (hz:size p+Bg a+a.length<540000000000)
  (hq:∀x s',J s'→cnt s'=cnt s+1→okB x=true→size x<size p+Bg a+a.length→DN (k x s') q):DN (MF S h p a s k) q:=by
 have har:arity 8=3:=rfl;obtain⟨y,hy,ho,hs⟩:=Fv hp (i:=(1+h.kind - 9).toNat) (by rw[h8,har];omega);rw[MF,hy];simp only;refine ig hS hj hc ho fun s' g1 g2=>?_;have h4:=EM a y;exact hq (apply y a) s' g1 g2 (Jf ho ha Ar) Ar
include hE
theorem W9:∀n,jF S J cnt C n (DJ E S n)
 | 0=>fun s t hp=>absurd hp.n1 Ar
 | n+1=>fun s t hp=>by
  have ih:=W9 n;have hC:=hS.hC;cases ho:S.over s with
  | true=>rw[gf hp.ok ho];exact DN.ok ⟨hp.j,hp.ok,Nat.le_refl _,by simp,fun h=>absurd (ho.symm.trans h) As,fun _=>rfl⟩
  | false =>
   have hc:=hS.nov s hp.j ho;have hpm:=hp.pm ho;have hfu:=hp.fu ho;have hst:=size_pos t;have hss:=Ih t;obtain⟨oh,oa⟩:=IY hp.ok;have hsame:∀s',J s'→cnt s≤cnt s'→cnt s'≤C+1+size t+(C - cnt s)*4500→DN (.ok (t,s')) (SP S J cnt C s t):=fun s' g1 g2 g3 =>
    DN.ok ⟨g1,hp.ok,g2,by simp only;omega,fun _=>g3,fun e=>absurd (ho.symm.trans e) As⟩
   have cont:∀(x:Tm) (s':σ),J s'→okB x=true→cnt s+1≤cnt s'→size x≤size t+(cnt s' - cnt s)*4500→cnt s'≤C+1+size t+(C - cnt s)*4500→DN (DJ E S n s' x) (SP S J cnt C s t):=by
    intro x s' g1 g2 g3 g4 g5;refine DN.mono (ih s' x ⟨g1,g2,fun h=>by have:=hS.nov _ g1 h;omega,fun h=>by have:=hS.nov _ g1 h;omega,by omega⟩) fun r hr=>?_;have hle:=hr.le;have hsz:=hr.sz;refine⟨hr.j,hr.ok,by omega,by omega,fun _=>?_,fun e=>absurd (ho.symm.trans e) As⟩;cases hov:S.over s' with
    | true=>rw[hr.st hov];exact g5
    | false=>have:=hr.ub hov;have:=hS.nov _ g1 hov;omega
   cases hm:S.many (BD t).2.length with
   | true=>rw[Tb hp.ok ho hm];trivial
   | false =>
    by_cases k5:(BD t).1.kind=5
    ·by_cases hl:(BD t).2.length=0
     ·rw[Pj hp.ok ho hm k5 hl];exact hsame s hp.j (Nat.le_refl _) Ar
     obtain⟨b,hb,_⟩:=Fv oh (i:=1) (by rw[k5];decide);have e:=Vw (E:=E) (n:=n) hp.ok ho hm k5 hl hb;rw[e];have hbt:=lX hS (k:=fun x s'=>DJ E S n s' x) (q:=SP S J cnt C s t) hp.j Ar oh oa k5 hl Ar fun x s' g1 g2 g3 g4=>cont x s' g1 g3 Ar Ar Ar;rw[Mu,hb] at hbt;exact hbt
    by_cases k11:(BD t).1.kind=11
    ·obtain⟨v,hv,_⟩:=Fv oh (i:=1) (by rw[k11];decide);obtain⟨b,hb,_⟩:=Fv oh (i:=2) (by rw[k11];decide);rw[Ws (E:=E) (n:=n) hp.ok ho hm k11 hv hb];have hbt:=pO hS (k:=fun x s'=>DJ E S n s' x) (q:=SP S J cnt C s t) hp.j Ar oh oa k11 Ar fun x s' g1 g2 g3 g4=>cont x s' g1 g3 Ar Ar Ar;rw[Tw,hv,hb] at hbt;exact hbt
    by_cases k9:(BD t).1.kind=9∨(BD t).1.kind=10
    ·obtain⟨p,hpk,op,sp⟩:=Fv oh (i:=0) (by rcases k9 with h | h<;>rw[h]<;>decide);rw[Pp (E:=E) (n:=n) hp.ok ho hm k9 hpk];refine DN.chk (ih s p ⟨hp.j,op,fun _=>by omega,fun _=>by omega,by omega⟩) fun r hr=>⟨hr.ok,?_⟩;have hub:=hr.ub ho;have hsz:=hr.sz;have hle:=hr.le;by_cases k8:r.1.kind=8
     ·have e:P2 E S n (BD t).1 (BD t).2 r=MF S (BD t).1 r.1 (BD t).2 r.2 fun x s'=>DJ E S n s' x:=by rw[P2,if_neg Ar]
      rw[e];exact lI hS hr.j Ar hr.ok oa k9 k8 Ar fun x s' g1 g2 g3 g4=>cont x s' g1 g3 Ar Ar Ar
     rw[Mw k8];have h4:=EM (BD t).2 (I6 (BD t).1.kind r.1);have h5:size (I6 (BD t).1.kind r.1)=1+size r.1:=by simp only[I6,size,Bg];omega
     have h6:1+size p≤size (BD t).1:=by omega
     exact DN.ok ⟨hr.j,Jf (ey k9 hr.ok Ar) oa Ar,hle,by simp only;omega,fun _=>by simp only;omega,fun e=>absurd (ho.symm.trans e) As⟩
    by_cases k3:(BD t).1.kind=3
    ·rw[NZ (E:=E) (n:=n) hp.ok ho hm k3];refine DN.bind (Y0 hS hE ih Ar hp.j ho oa Ar Ar) fun r hr=>?_;have hub:=hr.ub;unfold Xl;cases hr1:r.1 with
     | none=>exact hsame r.2 hr.j hr.le Ar
     | some x =>
      obtain⟨g1,g2,g3⟩:=hr.ok x hr1;exact cont x r.2 hr.j g1 g2 Ar Ar
    rw[Xt (E:=E) (n:=n) hp.ok ho hm k5 k11 (fun h=>k9 (.inl h)) (fun h=>k9 (.inr h)) k3];exact hsame s hp.j (Nat.le_refl _) Ar
end
def TZ:Tm→List Int→Tm→Prop
 | t,[],v=>t=v
 | t,p::ps,v=>∃y,(BD t).2[p.toNat]?=some y∧TZ y ps v
theorem Sr {k:Int}{w:Tm}:∀{ps:List Int}{t v:Tm},TZ t ps v→(BD v).2[k.toNat]?=some w→TZ t (ps++[k]) w
 | [],t,v,h,hw=>by cases h;exact⟨w,hw,rfl⟩
 | p::ps,t,v,⟨y,h1,h2⟩,hw=>⟨y,h1,Sr h2 hw⟩
structure bD (a vars:List Tm) (pl:List (Int×List Int)):Prop where
 len:pl.length=vars.length
 at_:∀(i:Nat) v,vars[i]?=some v→∃j path y,pl[i]?=some (j,path)∧a[j.toNat]?=some y∧TZ y path v
theorem KF (p:Int×List Int) (fx:Int) (n:Nat):(EY p fx n).length=n:=by simp[EY]
theorem bD.more {a vars:List Tm}{pl:List (Int×List Int)}(h:bD a vars pl) {i:Nat}{v:Tm}{p:Int×List Int}(hv:vars[i]?=some v) (hp:pl[i]?=some p) {fx:Int}(hfx:0≤fx):bD a (vars++(BD v).2.drop fx.toNat) (pl++EY p fx ((BD v).2.drop fx.toNat).length):=by
 refine⟨by rw[List.length_append,List.length_append,h.len,KF],fun q w hw=>?_⟩;by_cases hq:q<vars.length
 ·rw[List.getElem?_append_left hq] at hw;rw[List.getElem?_append_left (by rw[h.len];exact hq)];exact h.at_ q w hw
 rw[List.getElem?_append_right Ar] at hw;rw[List.getElem?_append_right (by rw[h.len];omega),h.len];obtain⟨j,path,y,h1,h2,h3⟩:=h.at_ i v hv;rw[hp] at h1;cases h1;have hlt:=(List.getElem?_eq_some_iff.1 hw).1;rw[List.getElem?_drop] at hw;refine⟨j,path++[fx+((q - vars.length:Nat):Int)],y,?_,h2,Sr h3 (by rw[show (fx+((q - vars.length:Nat):Int)).toNat=fx.toNat+(q - vars.length) by omega];exact hw)⟩;rw[EY,List.getElem?_map,List.getElem?_range hlt];rfl
theorem Yl (a:List Tm) (n:Nat) (hn:n≤a.length):bD a (a.take n) ((List.range n).map fun i:Nat=>((i:Int),[])):=by
 refine⟨by simp;omega,fun i v hv=>?_⟩;have hlt:=(List.getElem?_eq_some_iff.1 hv).1;rw[List.length_take] at hlt;rw[List.getElem?_take_of_lt Ar] at hv;exact⟨(i:Int),[],v,by rw[List.getElem?_map,List.getElem?_range Ar];rfl,by simpa using hv,rfl⟩
section
variable {σ:Type}{S:Sys σ}{J:σ→Prop}{cnt:σ→Nat}{C:Nat}{E:List CM}
structure qG (S:Sys σ) (J:σ→Prop) (cnt:σ→Nat) (s:σ) (z:Nat) (r:Option Tm×σ):Prop where
 j:J r.2
 le:cnt s≤cnt r.2
 ub:cnt r.2≤cnt s+1
 ok:∀x,r.1=some x→okB x=true∧size x≤z+4500
variable (hS:Zq S J cnt C) (hE:HD E)
omit hS hE in
include hS
include hE
end
section
variable {σ:Type}{S:Sys σ}{J:σ→Prop}{cnt:σ→Nat}{C:Nat}{E:List CM}
variable (hS:Zq S J cnt C) (hE:HD E)
include hS hE
end
def qe (c:Ik):Prop:=c.limit=1000∧0≤c.steps∧(c.over=false→c.steps≤1000)
def GH (n:Int):Prop:=0≤n∧n≤20000
theorem YJ:Zq Bq GH (fun n=>(20000 - n).toNat) 20000:=by
 refine⟨fun n h _=>?_,fun n t e n' h hc ho hr=>?_,by omega⟩
 ·have:=h.1;omega
 simp only[Bq] at hr;split at hr
 ·cases hr
 cases hr;unfold GH at *;omega
theorem NT {E:List CM}{nm:ByteArray}(h:(D4 E nm).2.2=true):Gy E nm=some ((D4 E nm).1,(D4 E nm).2.1):=by
 unfold D4 at h ⊢;split at h
 ·rename_i d j e;rw[e]
 cases h
theorem eo {E:List CM}{nm:ByteArray}(h:(D4 E nm).2.2=false):Gy E nm=none:=by
 unfold D4 at h;split at h
 ·cases h
 rename_i e;exact e
theorem iT {E:List CM}{nm:ByteArray}(hE:L3 E) (h:(D4 E nm).2.2=true) (hj:¬(D4 E nm).2.1<0):OD (D4 E nm).1∧(0≤(D4 E nm).1.fixed∧(D4 E nm).1.fixed≤1000000)∧0≤(D4 E nm).2.1∧(D4 E nm).2.1<(D4 E nm).1.ctors.length:=by
 obtain⟨h1,h2⟩:=S0 (NT h);exact⟨(hE.all _ h1).din,(hE.all _ h1).fx,by omega,h2 Ar⟩
section
variable {E:List CM}{t:Tm}{k i:Int}{n:ByteArray}{ls:List Cf}{ks:List Tm}
theorem fA (hz:(BD t).1= .mk k i n ls ks) (h:k≠3):DL E t=none:=by
 have hk:(BD t).1.kind=k:=by rw[hz];rfl
 unfold DL;rw[if_pos Ar]
theorem eY (hz:(BD t).1= .mk k i n ls ks) (h3:k=3) (h:(D4 E n).2.2=false∨(D4 E n).2.1<0):DL E t=none:=by
 have hk:(BD t).1.kind=k:=by rw[hz];rfl
 have hnm:(BD t).1.name=n:=by rw[hz];rfl
 unfold DL;rw[if_neg Ar,hnm];cases hf:(D4 E n).2.2 with
 | false=>rw[eo hf]
 | true =>
  rw[NT hf];rcases h with h | h
  ·rw[hf] at h;cases h
  simp only[if_pos h]
theorem eh (hz:(BD t).1= .mk k i n ls ks) (h3:k=3) (hf:(D4 E n).2.2=true) (hj:¬(D4 E n).2.1<0) (h:((BD t).2.length:Int)≠(D4 E n).1.fixed+Gr (D4 E n).1 (D4 E n).2.1):DL E t=none:=by
 have hk:(BD t).1.kind=k:=by rw[hz];rfl
 have hnm:(BD t).1.name=n:=by rw[hz];rfl
 unfold DL;rw[if_neg Ar,hnm,NT hf];simp only[if_neg hj,if_pos h]
theorem ik (hz:(BD t).1= .mk k i n ls ks) (h3:k=3) (hf:(D4 E n).2.2=true) (hj:¬(D4 E n).2.1<0) (h:((BD t).2.length:Int)=(D4 E n).1.fixed+Gr (D4 E n).1 (D4 E n).2.1):DL E t=some ((D4 E n).1,(D4 E n).2.1,(BD t).2.drop (D4 E n).1.fixed.toNat):=by
 have hk:(BD t).1.kind=k:=by rw[hz];rfl
 have hnm:(BD t).1.name=n:=by rw[hz];rfl
 unfold DL;rw[if_neg Ar,hnm,NT hf];simp only[if_neg hj,if_neg (show ¬((BD t).2.length:Int)≠(D4 E n).1.fixed+Gr (D4 E n).1 (D4 E n).2.1 by omega)]
end
theorem WY {d:CM}{j:Int}(h:OD d) (h0:0≤j) (h1:j<d.ctors.length) (hf:0≤d.fixed):0≤Gr d j∧Gr d j≤1000000:=by
 have hlt:j.toNat<d.ctors.length:=by omega
 have hx:=List.getElem?_eq_getElem hlt;have hs:=(h.cs _ (List.getElem_mem hlt)).ty.sz;have hl:=Jh d.ctors[j.toNat].type;unfold Gr YX FU;rw[CZ hx];omega
section
variable {E:List CM}{t:Tm}{k i:Int}{n:ByteArray}{ls:List Cf}{ks:List Tm}
end
theorem Qc {d:CM}{j:Int}{x:Hz}(hx:d.ctors[j.toNat]?=some x) (hf:0≤d.fixed):d.fixed+Gr d j=max d.fixed (((Hw x.type).1.length:Nat):Int):=by
 unfold Gr YX FU;rw[CZ hx];omega
def CV (E:List CM) (t:Tm):CM×Int×List Tm×Bool:=match DL E t with
 | some (d,j,l)=>(d,j,l,true)
 | none=>(US,0,[],false)
theorem Pr {E:List CM}{t:Tm}(h:DL E t=none):CV E t=(US,0,[],false):=by unfold CV;rw[h]
theorem Tt {E:List CM}{t:Tm}{d:CM}{j:Int}{l:List Tm}(h:DL E t=some (d,j,l)):CV E t=(d,j,l,true):=by unfold CV;rw[h]
theorem M3 {E:List CM}{t:Tm}(h:(CV E t).2.2.2=true):DL E t=some ((CV E t).1,(CV E t).2.1,(CV E t).2.2.1):=by
 cases e:DL E t with
 | none=>rw[Pr e] at h;cases h
 | some q=>obtain⟨d,j,l⟩:=q;rw[Tt e]
theorem Pd {E:List CM}{t:Tm}(h:(CV E t).2.2.2=false):DL E t=none:=by
 cases e:DL E t with
 | none=>rfl
 | some q=>obtain⟨d,j,l⟩:=q;rw[Tt e] at h;cases h
end Go.Eu
namespace Go.Eu
def L1 (nm:ByteArray):List GF→Int→Int
 | [],_=> -1
 | b::l,i=>if b.ctor=nm then i else L1 nm l (i+1)
theorem gX {nm:ByteArray}{l:List GF}{i:Nat}{x:GF}{k:Int}(h:l[i]?=some x) (e:x.ctor.toList=nm.toList):L1 nm (l.drop i) k=k:=by
 rw[C2 h,L1,if_pos (G4 e)]
theorem ic {nm:ByteArray}{l:List GF}{i:Nat}{x:GF}{k:Int}(h:l[i]?=some x) (e:¬x.ctor.toList=nm.toList):L1 nm (l.drop i) k=L1 nm (l.drop (i+1)) (k+1):=by
 rw[C2 h,L1,if_neg (fun q=>e (by rw[q]))]
theorem WL {nm:ByteArray}:∀(l:List GF) (k:Int),0≤k→L1 nm l k<0∧C3 nm l=none∨∃(j:Nat) (x:GF),L1 nm l k=k+j∧l[j]?=some x∧C3 nm l=if x.absurd=true then none else some x.tree
 | [],k,h=> .inl ⟨by simp[L1],rfl⟩
 | b::l,k,h=>by
  rw[L1,C3];split
  ·exact .inr ⟨0,b,by simp,rfl,rfl⟩
  rcases WL l (k+1) Ar with h1 | ⟨j,x,h1,h2,h3⟩
  ·exact .inl h1
  exact .inr ⟨j+1,x,by rw[h1];push_cast;omega,by simpa using h2,h3⟩
theorem cf {nm:ByteArray}{l:List GF}(h:L1 nm l 0<0):C3 nm l=none:=by
 rcases WL (nm:=nm) l 0 Ar with h1 | ⟨j,x,h1,h2,h3⟩
 ·exact h1.2
 omega
theorem iy {nm:ByteArray}{l:List GF}(h:¬L1 nm l 0<0):∃x,l[(L1 nm l 0).toNat]?=some x∧C3 nm l=if x.absurd=true then none else some x.tree:=by
 rcases WL (nm:=nm) l 0 Ar with h1 | ⟨j,x,h1,h2,h3⟩
 ·exact absurd h1.1 h
 exact⟨x,by rw[h1];simpa using h2,h3⟩
end Go.Eu
namespace Go.Eu
open Go.Abs
theorem de {nm:ByteArray}:∀{l:List GF}{t:FE},C3 nm l=some t→MG l→HF t
 | .mk c a q::l,t,h,ho=>by
  simp only[MG,Qf] at ho;rw[C3] at h;split at h
  ·split at h
   ·cases h
   cases h;exact ho.1.2
  exact de h ho.2
theorem mF {nm:ByteArray}{t t':FE}(h:C3 nm t.branches=some t') (ho:HF t):HF t':=de h ho.bs
def Nz (q:Option (Tm×List Tm)×Tm):Tm:=match q.1 with
 | some (b,_)=>b
 | none=>Be
def Sb (q:Option (Tm×List Tm)×Tm):List Tm:=match q.1 with
 | some (_,v)=>v
 | none=>[]
structure Ug (y:FE) (us:List Tm):Prop where
 tin:HF y
 tok:FJ y
 len:us.length+Dn y*1000000≤100000000
 ok:∀v∈us,okB v=true
theorem Ug.next {E:List CM}{y q:FE}{us f:List Tm}{x:Tm}{nm:ByteArray}{d:CM}{j:Int}(h:Ug y us) (hE:L3 E) (hx:okB x=true) (hc:DL E x=some (d,j,f)) (hb:C3 nm y.branches=some q):Ug q (us++f):=by
 obtain⟨h1,h2⟩:=Vx hb h.tok;have h3:=Kq hE hc;have h4:=h.len;refine⟨mF hb h.tin,h1,by rw[List.length_append];omega,fun v hv=>?_⟩;rcases List.mem_append.1 hv with hv | hv
 ·exact h.ok v hv
 exact((Kl hc hx).1 v hv).1
def XD:FE:= .mk 0 Be 0 []
def ql (nm:ByteArray):List GF→FE×Bool
 | []=>(XD,false)
 | b::l=>if b.ctor=nm then (b.tree,!b.absurd) else ql nm l
def Zu (nm:ByteArray) (l:List GF):FE×Bool:=match C3 nm l with
 | some q=>(q,true)
 | none=>(XD,false)
theorem bV {nm:ByteArray}{l:List GF}(h:C3 nm l=none):Zu nm l=(XD,false):=by unfold Zu;rw[h]
theorem dV {nm:ByteArray}{l:List GF}{q:FE}(h:C3 nm l=some q):Zu nm l=(q,true):=by unfold Zu;rw[h]
theorem U6 {nm:ByteArray}{l:List GF}(h:(Zu nm l).2=true):C3 nm l=some (Zu nm l).1:=by
 cases e:C3 nm l with
 | none=>rw[bV e] at h;cases h
 | some q=>rw[dV e]
theorem Up {nm:ByteArray}{l:List GF}(h:(Zu nm l).2=false):C3 nm l=none:=by
 cases e:C3 nm l with
 | none=>rfl
 | some q=>rw[dV e] at h;cases h
end Go.Eu
namespace Go.Proofs.YtboammbpdaoojaaGreat
open Go.Abs Go.Eu
end Go.Proofs.YtboammbpdaoojaaGreat
