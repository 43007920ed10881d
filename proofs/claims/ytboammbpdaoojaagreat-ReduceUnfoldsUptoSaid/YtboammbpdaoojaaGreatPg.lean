/- Part of the proofs: an abstract program logic, plain models and contracts of functions. -/
import Derived.Shelf.SlIterI.Nil
import Derived.Shelf.SortM.Plain
import Derived.Shelf.SortM.SortNone
import Derived.Ground.GgzProg
import Derived.Ground.SlgmProg
import Derived.Test.YtboammbpdaoojaaGreatProg
import Derived.Test.YtboammbpdaoojaaGreatPe
import Derived.Test.YtboammbpdaoojaaGreatPb
import Derived.Test.YtboammbpdaoojaaGreatPf
import Derived.Test.YtboammbpdaoojaaGreatPd
import Derived.Test.YtboammbpdaoojaaGreatPc
set_option linter.unusedVariables false
set_option linter.unusedSimpArgs false
set_option maxRecDepth 100000
namespace Go.Proofs
open Go.Shelf
def Tryz.keysA_ren:Go.Shelf.Ren:=⟨fun | 7=>193 | 10=>199 | n=>n,fun | 23=>229 | 26=>3 | 3=>3 | 28=>240 | 0=>0 | 27=>239 | 33=>245 | 4=>4 | n=>n,fun | n=>n⟩
theorem Tryz.keysA:Go.Proofs.SlLaysZI.n7 Tryz.prog Tryz.keysA_ren:={
 mixed:=by kernel_rfl
 f7:=⟨Tryz.f193.name,by decide,Tryz.func193.trans (congrArg some Aj)⟩
 f10:=⟨Tryz.f199.name,by decide,Tryz.func199.trans (congrArg some Aj)⟩
 t0:=Tryz.underlying0
 a0:=Tryz.isAgg0
 z0:=Tryz.sizeOf0
 v0:=Tryz.zeroValue0
 t4:=Tryz.underlying4
 a4:=Tryz.isAgg4
 z4:=Tryz.sizeOf4
 v4:=Tryz.zeroValue4
 t23:=Tryz.underlying229
 a23:=Tryz.isAgg229
 z23:=Tryz.sizeOf229
 v23:=Tryz.zeroValue229
 t26:=Tryz.underlying3
 a26:=Tryz.isAgg3
 z26:=Tryz.sizeOf3
 v26:=Tryz.zeroValue3
 t27:=Tryz.underlying239
 a27:=Tryz.isAgg239
 z27:=Tryz.sizeOf239
 v27:=Tryz.zeroValue239
 t28:=Tryz.underlying240
 a28:=Tryz.isAgg240
 z28:=Tryz.sizeOf240
 v28:=Tryz.zeroValue240
 t33:=Tryz.underlying245
 a33:=Tryz.isAgg245
 z33:=Tryz.sizeOf245
 v33:=Tryz.zeroValue245 }
def Tryz.sortedA_ren:Go.Shelf.Ren:=⟨fun | 6=>192 | 8=>197 | 9=>198 | 11=>201 | 13=>203 | 12=>202 | 23=>213 | 24=>214 | 14=>204 | 15=>205 | 16=>206 | 17=>207 | 18=>208 | 19=>209 | 20=>210 | 21=>211 | 22=>212 | 25=>215 | 26=>216 | 27=>217 | 28=>218 | 29=>219 | 30=>220 | 31=>221 | n=>n,fun | 26=>3 | 28=>240 | 24=>137 | 0=>0 | 3=>3 | 37=>250 | 48=>260 | 50=>262 | 4=>4 | 40=>253 | 39=>252 | 45=>45 | 5=>5 | 9=>9 | 51=>263 | 55=>267 | 57=>269 | 58=>110 | 33=>245 | n=>n,fun | n=>n⟩
theorem Tryz.sortedA:Go.Proofs.SlLaysZI.n6 Tryz.prog Tryz.sortedA_ren:={
 mixed:=by kernel_rfl
 f6:=⟨Tryz.f192.name,by decide,Tryz.func192.trans (congrArg some Aj)⟩
 f8:=⟨Tryz.f197.name,by decide,Tryz.func197.trans (congrArg some Aj)⟩
 f11:=⟨Tryz.f201.name,by decide,Tryz.func201.trans (congrArg some Aj)⟩
 t0:=Tryz.underlying0
 a0:=Tryz.isAgg0
 z0:=Tryz.sizeOf0
 v0:=Tryz.zeroValue0
 t24:=Tryz.underlying137
 a24:=Tryz.isAgg137
 z24:=Tryz.sizeOf137
 v24:=Tryz.zeroValue137
 t26:=Tryz.underlying3
 a26:=Tryz.isAgg3
 z26:=Tryz.sizeOf3
 v26:=Tryz.zeroValue3
 t28:=Tryz.underlying240
 a28:=Tryz.isAgg240
 z28:=Tryz.sizeOf240
 v28:=Tryz.zeroValue240
 i26:=by kernel_rfl }
def Tryz.sortA_ren:Go.Shelf.Ren:=⟨fun | 5=>198 | 8=>203 | 7=>202 | 19=>213 | 20=>214 | 10=>204 | 11=>205 | 12=>206 | 13=>207 | 14=>208 | 15=>209 | 16=>210 | 17=>211 | 18=>212 | 30=>215 | 31=>216 | 32=>217 | 33=>218 | 34=>219 | 35=>220 | 40=>221 | n=>n,fun | 23=>137 | 25=>3 | 3=>3 | 32=>250 | 22=>137 | 0=>0 | 44=>260 | 46=>262 | 4=>4 | 36=>253 | 35=>252 | 41=>45 | 5=>5 | 9=>9 | 53=>263 | 57=>267 | 63=>269 | 64=>110 | n=>n,fun | n=>n⟩
theorem Tryz.sortA:Go.Proofs.SlLaysM.n5 Tryz.prog Tryz.sortA_ren:={
 mixed:=by kernel_rfl
 f5:=⟨Tryz.f198.name,by decide,Tryz.func198.trans (congrArg some Aj)⟩
 f7:=⟨Tryz.f202.name,by decide,Tryz.func202.trans (congrArg some Aj)⟩
 f8:=Tryz.func203.trans (congrArg some Aj)
 f10:=⟨Tryz.f204.name,by decide,Tryz.func204.trans (congrArg some Aj)⟩
 f11:=⟨Tryz.f205.name,by decide,Tryz.func205.trans (congrArg some Aj)⟩
 f12:=⟨Tryz.f206.name,by decide,Tryz.func206.trans (congrArg some Aj)⟩
 f13:=⟨Tryz.f207.name,by decide,Tryz.func207.trans (congrArg some Aj)⟩
 f14:=⟨Tryz.f208.name,by decide,Tryz.func208.trans (congrArg some Aj)⟩
 f15:=⟨Tryz.f209.name,by decide,Tryz.func209.trans (congrArg some Aj)⟩
 f16:=⟨Tryz.f210.name,by decide,Tryz.func210.trans (congrArg some Aj)⟩
 f17:=⟨Tryz.f211.name,by decide,Tryz.func211.trans (congrArg some Aj)⟩
 f18:=⟨Tryz.f212.name,by decide,Tryz.func212.trans (congrArg some Aj)⟩
 f19:=Tryz.func213.trans (congrArg some Aj)
 f20:=Tryz.func214.trans (congrArg some Aj)
 f30:=⟨Tryz.f215.name,by decide,Tryz.func215.trans (congrArg some Aj)⟩
 f31:=Tryz.func216.trans (congrArg some Aj)
 f32:=Tryz.func217.trans (congrArg some Aj)
 f33:=⟨Tryz.f218.name,by decide,Tryz.func218.trans (congrArg some Aj)⟩
 f34:=⟨Tryz.f219.name,by decide,Tryz.func219.trans (congrArg some Aj)⟩
 f35:=⟨Tryz.f220.name,by decide,Tryz.func220.trans (congrArg some Aj)⟩
 f40:=⟨Tryz.f221.name,by decide,Tryz.func221.trans (congrArg some Aj)⟩
 t0:=Tryz.underlying0
 a0:=Tryz.isAgg0
 z0:=Tryz.sizeOf0
 v0:=Tryz.zeroValue0
 t3:=Tryz.underlying3
 a3:=Tryz.isAgg3
 z3:=Tryz.sizeOf3
 v3:=Tryz.zeroValue3
 t4:=Tryz.underlying4
 a4:=Tryz.isAgg4
 z4:=Tryz.sizeOf4
 v4:=Tryz.zeroValue4
 t5:=Tryz.underlying5
 a5:=Tryz.isAgg5
 z5:=Tryz.sizeOf5
 v5:=Tryz.zeroValue5
 t9:=Tryz.underlying9
 a9:=Tryz.isAgg9
 z9:=Tryz.sizeOf9
 v9:=Tryz.zeroValue9
 t22:=Tryz.underlying137
 a22:=Tryz.isAgg137
 z22:=Tryz.sizeOf137
 v22:=Tryz.zeroValue137
 t23:=Tryz.underlying137
 a23:=Tryz.isAgg137
 z23:=Tryz.sizeOf137
 v23:=Tryz.zeroValue137
 t25:=Tryz.underlying3
 a25:=Tryz.isAgg3
 z25:=Tryz.sizeOf3
 v25:=Tryz.zeroValue3
 t32:=Tryz.underlying250
 a32:=Tryz.isAgg250
 z32:=Tryz.sizeOf250
 v32:=Tryz.zeroValue250
 t35:=Tryz.underlying252
 a35:=Tryz.isAgg252
 z35:=Tryz.sizeOf252
 v35:=Tryz.zeroValue252
 t36:=Tryz.underlying253
 a36:=Tryz.isAgg253
 z36:=Tryz.sizeOf253
 v36:=Tryz.zeroValue253
 t41:=Tryz.underlying45
 a41:=Tryz.isAgg45
 z41:=Tryz.sizeOf45
 v41:=Tryz.zeroValue45
 t44:=Tryz.underlying260
 a44:=Tryz.isAgg260
 z44:=Tryz.sizeOf260
 v44:=Tryz.zeroValue260
 t46:=Tryz.underlying262
 a46:=Tryz.isAgg262
 z46:=Tryz.sizeOf262
 v46:=Tryz.zeroValue262
 t53:=Tryz.underlying263
 a53:=Tryz.isAgg263
 z53:=Tryz.sizeOf263
 v53:=Tryz.zeroValue263
 t57:=Tryz.underlying267
 a57:=Tryz.isAgg267
 z57:=Tryz.sizeOf267
 v57:=Tryz.zeroValue267
 t63:=Tryz.underlying269
 a63:=Tryz.isAgg269
 z63:=Tryz.sizeOf269
 v63:=Tryz.zeroValue269
 t64:=Tryz.underlying110
 a64:=Tryz.isAgg110
 z64:=Tryz.sizeOf110
 v64:=Tryz.zeroValue110 }
end Go.Proofs
namespace Go.Proofs
open Go.RowKit Go.Maps Go.Sort Go.Shelf
theorem Tryz.sortsA (m:Nat):AnyZI.SortsIn Tryz.prog Tryz.sortedA_ren Fence.wide m :=
 ⟨fun blk off cap ss W hH hblk hsz=>callsIn_wide.2 (AnyM.slices_Sort_int Tryz.sortA blk off cap ss W hH hblk hsz),
  fun p cap W=>callsIn_wide.2 (AnyM.slices_Sort_int_none Tryz.sortA p cap W)⟩
set_option maxHeartbeats 1000000 in
theorem Tryz.sortedKeys {H:Type}(Bm b nn:Nat) (D0:DataW H) (R:Value→Option (DataW H×List MemPlace)) (w:World) (hBm:Bm<w.heap.size) (hcell:w.cell? ⟨Bm,0,none⟩=some (.map (some b))) (hown:w.ownsMap Tryz.prog 3 R b nn D0) (hmax:Maps.size D0≤maxLen) (hbytes:Maps.size D0*8≤140737488355328) :
  Calls Tryz.prog 192 #[.func (.func 199) #[] #[.pointer (some ⟨Bm,0,none⟩)]] w fun e w'=>∃(v:Value) (ss:List Int),e= .returned v∧ss.Perm (intKeys D0) ∧
   w'.ownsRow w.heap.size 3 1 v ss.length ((ss.mergeSort (fun x y=>decide (x≤y))).map encZ)∧(v= .slice none 0 0↔ss=[])∧Below w.heap.size w w':=by
 refine(callsIn_wide (n:=5)).1 ?_;have hseq:SeqGives Fence.wide 2 Tryz.prog 199 #[.pointer (some ⟨Bm,0,none⟩)] encZ (fun ss=>ss.Perm (intKeys D0)) (Maps.size D0) w :=
  AnyZI.keys_gives (ρ:=Tryz.keysA_ren) { Tryz.keysA with } Fence.wide _ trivial rfl An Bm b nn D0 w hBm hcell hown
 exact AnyZI.sorted_in Tryz.sortedA Fence.wide 5 Ap Ap Ap Ap O An (Tryz.sortsA _) (enters_of Tryz.func198 Aj O) 199 #[.pointer (some ⟨Bm,0,none⟩)] Ap (enters_of Tryz.func199 Aj O) _ _ hmax hbytes _ hseq
end Go.Proofs
namespace Go.Proofs.YtboammbpdaoojaaGreat
open Go.Abs Go.Eu
theorem iC:∀(m:Nat),Bl Tryz.prog 193 [.map m] [] (hY (fun b=> .fn (.func 199) [] [.ptr b 0]) [.map m]):=by
 intro m;refine A4 Tryz.func193 O mR (n:=4) O O (Aw (BG O (BO O) fun b1=>Ar A0 1 [] O (As A0 2 [] O (Az (⟨O,_,_,⟨_,_,O,O,O⟩,(CH (is:=[0]) O),?_⟩)))));exact⟨_,O,O⟩
theorem Ya:∀(b m:Nat) (M:List (Int×Int)),M.length<1000000→(∀k∈M.map Prod.fst,-65536≤k∧k<8)→Bl Tryz.prog 192 [.fn (.func 199) [] [.ptr b 0]] [.box b [.map m],.map m (Du (GI M))] (G5 (.p (.lst ((Eo (M.map Prod.fst)).map F5))) [.box b [.map m],.map m (Du (GI M))]):=fun b m M h1 h2=>PD (kT:=3) (eT:=3) Aj Aj (fun Bm b nn D0 R w g1 g2 g3 g4 g5=>Tryz.sortedKeys Bm b nn D0 R w g1 g2 g3 g4 g5) b m M h1 h2
theorem Zi:∀(s m:Nat) (M:List (Int×Int)) (C:Int),(WH (M,C))→Bl Tryz.prog 186 [.ptr s 0] [.box s [.map m,.p (I C)],.map m (Du (GI M))] (G5 (.tup [.agg ((B5 ((Ij ⟨C,GJ M⟩).1)).map .p),.p (I ((Ij ⟨C,GJ M⟩).2))]) [.box s [.map m,.p (I C)],.map m (Du (GI M))]):=by
 intro s m M C h1;have hkl:(Eo (M.map Prod.fst)).length=M.length:=by simp[Sl]
 have hml:M.length≤65544:=h1.len;refine A4 Tryz.func186 O lK (n:=41) O O (Aw (BG O (A7 Hi O) fun b2=>Ar A0 1 [] O (Aw (Ay A0 5 [1] O (BG O (A7 Hi O) fun b4=>Ar A0 1 [0,0] O (Au (Aw (CD (Ll (i:=0) O (eG (aw (we O) (aw (OV) (Eg))))) (CD (MS (sz:=2)) (Ay A0 4 [3] O (fE O O O (.inl ⟨O,O,O⟩) (iC m) (DD _) fun bk=>Aq O (CW [0,5] O (.inl ⟨O,O,O⟩) (Ya bk m M An h1.r) ⟨_,_,O,O,⟨_,_,O,O,O⟩⟩ Am O (.inl O)) (Aq O (BM G8 O (List.length_map _)) (Ar A0 1 [] O (A8 ?_))))))))))))));refine Be (α:=Nat×Option Nat×Nat) (fun(i,o,cp)=>⟨41,mk [(0,.ptr s 0),(2,.ptr b2 0),(4,.ptr b4 0),(17,.p (.lst (List.map F5 (Eo (M.map Prod.fst))))),(18,.p (I ((Eo (M.map Prod.fst)).length:Nat))),(19,.p (I (i:Int)))],[.vec o 2 (List.map Ge (((Eo (M.map Prod.fst)).take i).map (PG M))) cp,.box b4 [.p (I C),.vs o (List.map Ge (((Eo (M.map Prod.fst)).take i).map (PG M))).length cp],.box b2 [.p (I 0),.p (.nils)],.box s [.map m,.p (I C)],.map m (Du (GI M))],[]⟩) (fun(i,o,cp)=>(Eo (M.map Prod.fst)).length - i) (fun(i,o,cp)=>i≤(Eo (M.map Prod.fst)).length) ⟨0,none,0⟩ AO ?_ ?_
 ·exact BY ⟨we O,we O,we O,we O,we O,we O,Ap⟩ (leH (is:=[1,2,3,4,5]) O (wl (oe O) (wl (oe O) (wl (oe O) (wl (oe O) (wl (oe O) (DO)))))))
 rintro⟨i,o,cp⟩ hC
 try simp only at hC
 have hi:=hC;refine As A0 1 [] O (Au (Av O (fun c=>?_) (fun c=>?_)))
 ·(try simp only[sd,se] at c);refine A1 (Au (A8 (Aw ?_)));obtain⟨x,hx⟩:=A6 (l:=Eo (M.map Prod.fst)) (i:=i) An;refine Aq O (A5 G8 O O An (LH hx) (O)) (Ar A0 2 [] O (B6 (fun k=>Nat.beq k 11) EO (Bb A0 8 [1,3] O ?_)));refine Cc (j:=4) O O O (fun H i hi=>U9 (i:=i) dK eM (fun _ _=>by simp[B9,CE]) rfl rfl hi (Ut _ _)) AB trivial ?_;refine BL O (fun _=>CJ nK L5 O) Ap (BL O (fun _=>Bx D4 L5 O O O O O) Ap (OO [] O O (Cs (i:=0) (rows':=List.map Ge [(CK.mk x ((mg x M).getD 0))]) D4 D4 L5 O O O O O O (ME _) (by simp only[List.length_map,List.length_append,List.length_take,List.length_cons,List.length_nil];omega) (JL (f:=Ge) (((Eo (M.map Prod.fst)).take i).map (PG M)) [(CK.mk x ((mg x M).getD 0))])) Aj fun o1 cp1=>⟨AB,Ap,?_⟩));refine B4 A0 2 [1,0] O (A3 (Ar A0 2 [] O ?_));refine⟨⟨i+1,o1,cp1⟩,AT,by omega,BY ⟨we rfl,we rfl,we rfl,we rfl,we rfl,we rfl,trivial⟩ (leH (is:=[0,1,2,3,4]) rfl (wl (Fl (f:=Ge) (((Eo (M.map Prod.fst)).take i).map (PG M)++[(CK.mk x ((mg x M).getD 0))]) (by rw[List.take_add_one,hx];simp[PG])) (wl (eG (aw (we rfl) (aw (we (G2 (f:=Ge) (((Eo (M.map Prod.fst)).take i).map (PG M)++[(CK.mk x ((mg x M).getD 0))]) (by rw[List.take_add_one,hx];simp[PG]))) (Eg)))) (wl (oe rfl) (wl (oe rfl) (wl (oe rfl) (DO)))))))⟩
 (try simp only[sd,se] at c);refine Bh (Aw (CD (Ec (i:=0) (j:=1) (q:=1) [] O O O (Eh Ap)) (Aq O (BP (i:=0) FW O O O) (Aq O (BF O O (Wv (CX.mk C (((Eo (M.map Prod.fst)).take i).map (PG M))) (by simp only[List.length_map,List.length_take,De];omega)) O) (Ar A0 4 [1,1] O (Az (⟨O,_,_,⟨_,_,O,(BE (i:=1) FW O O Af),⟨_,_,O,O,O⟩⟩,(CH (is:=[2,3]) O),?_⟩)))))))
 all_goals exact⟨by show (.tup [.agg ((B5 ((Ij (CX.mk C (((Eo (M.map Prod.fst)).take i).map (PG M)))).1)).map .p),.p (I ((Ij (CX.mk C (((Eo (M.map Prod.fst)).take i).map (PG M)))).2))]:AV)=_;rw[show ((Eo (M.map Prod.fst)).take i).map (PG M)=GJ M from WG An],rfl⟩
theorem Yc:∀(l:CX) (ps:List CX),(RU l)→(ps.length<De)→(∀p∈ps,RU p)→E4 Tryz.prog 166 [.agg ((B5 l).map .p),.p (.lst (List.map B5 ps))] (.tup [.agg ((B5 ((Ht l ps).1)).map .p),.p (I ((Ht l ps).2))]):=by
 intro l ps h1 h2 h3;have hl:=h1.vars;have hl2:=h2;simp only[De] at hl hl2;refine A4 Tryz.func166 O mZ (n:=63) O O (Aw (BG O (BO O) fun b2=>BG O (A7 Hi O) fun b4=>Ar A0 1 [] O (Au (Au (BU [1,2,4] 16 (fun y=>y= .p (.bool ((!(CP l))||(!(ps.all CP))))) ?_ ?_)))))
 ·refine A3 (Aq O (BP (i:=1) FW O O Af) (Aq O (BF O O (QB l h1) O) (Ay A0 2 [] O (BI 12 O (fun g=>?_) (fun g=>?_)))))
  ·(try simp only[sd,se] at g);exact Ar A0 4 [] O (⟨O,O,AJ,AH,⟨O,O,O,Ap⟩⟩)
  (try simp only[sd,se] at g);exact BA O (BT O) (BA O (BF O O (Uc ps h2 h3) O) (Ar A0 2 [] O (⟨O,O,AJ,AH,⟨O,O,O,Ap⟩⟩)))
 rintro _ rfl;refine Av O (fun c=>?_) (fun c=>?_)
 ·(try simp only[sd,se] at c);refine As A0 3 [0,0] O (BN (Bc (i:=0) O) (Az (⟨O,_,_,⟨_,_,O,(BE (i:=0) FW O O O),⟨_,_,O,O,O⟩⟩,(List.nil_sublist _),?_⟩)))
  all_goals exact⟨by show (.tup [.agg [.p (I 0),.p (.lst [])],.p (I 3)]:AV)=_;rw[show Ht l ps=(Gy,3) by rw[Ht,if_pos (by simpa using c)]];rfl,rfl⟩
 (try simp only[sd,se] at c);have hv:CP l=true∧ps.all CP=true:=by simpa using c
 refine A1 (Au (Aw (Aq O (BP (i:=1) FW O O Af) (Aq O (BF O O (ZJ l h1) O) (Br O (Aq O (BM FQ O (List.length_map _)) (Ar A0 1 [] O (Av O (fun c1=>?_) (fun c1=>?_)))))))))
 ·(try simp only[sd,se] at c1);refine As A0 3 [0,0] O (BN (Bc (i:=0) O) (Az (⟨O,_,_,⟨_,_,O,(BE (i:=0) FW O O O),⟨_,_,O,O,O⟩⟩,(List.nil_sublist _),?_⟩)))
  all_goals exact⟨by show (.tup [.agg [.p (I 0),.p (.lst [])],.p (I 24)]:AV)=_;rw[show Ht l ps=(Gy,24) by rw[Ht,if_neg (by simp[hv]),if_pos c1]];rfl,rfl⟩
 (try simp only[sd,se] at c1);have hpl:¬(GO l > ps.length):=by omega
 refine A1 (Aw (XQ O O O (.inl ⟨O,O,O⟩) aO (DD _) fun bs=>?_));obtain⟨bs,mm⟩:=bs;refine Ar A0 1 [] O (As A0 6 [3,0,0] O (Au (Aw (Ay A0 2 [3] O (Aq O (BM D4 O (List.length_map _)) (Ar A0 1 [] O (A8 (Be (α:=Nat) (fun i=>⟨63,mk [(1,.p (.lst (List.map B5 ps))),(4,.ptr b4 0),(6,.ptr bs 0),(31,.p (.lst (List.map Ge l.vars))),(32,.p (I (l.vars.length:Nat))),(33,.p (I (i:Int)))],[.box bs [.map mm,.p (I (((l.vars.take i).foldl (Dn ps) ([],l.const)).2))],.map mm (Du (GI ((l.vars.take i).foldl (Dn ps) ([],l.const)).1)),.box b4 [.p (I 0),.p (.nils)]],[]⟩) (fun i=>l.vars.length - i) (fun i=>i≤l.vars.length) 0 AO ?_ ?_))))))))
 ·exact BY ⟨we O,we O,we O,we O,we O,we O,Ap⟩ (leH (is:=[0,1,2]) O (wl (oe O) (wl (oe O) (wl (oe O) (DO)))))
 rintro i hC
 try simp only at hC
 have hi:=hC;refine As A0 1 [] O (Au (Av O (fun c2=>?_) (fun c2=>?_)))
 ·(try simp only[sd,se] at c2);refine A1 (Au (A8 (Aw ?_)));obtain⟨x,hx⟩:=A6 (l:=l.vars) (i:=i) An;have hw:=Tv hv.1 hx;have hpi:=aE hv.1 hpl hx;refine Aq O (A5 D4 O O An (EP hx) (O)) (Aq O (BJ QU O (O)) (BG O (A7 L5 O) fun b8=>Ar A0 1 [0,1] O (As A0 3 [0] O (Av O (fun c3=>?_) (fun c3=>?_)))))
  ·(try simp only[sd,se] at c3);refine B6 (fun k=>false) EO (Bb A0 8 [1,0,0] O (Hu O O (CW [2] O (.inl ⟨O,O,O⟩) (UX mm (((l.vars.take i).foldl (Dn ps) ([],l.const)).1) x.index x.plus) ⟨_,_,O,O,O⟩ Am O (.inl O)) AB Ap (IX O Aj (A3 (Ar A0 2 [] O ?_)))));refine⟨(i+1),AT,by omega,BY ⟨we rfl,we rfl,we rfl,we rfl,we rfl,we rfl,trivial⟩ (leH (is:=[1,2,3]) rfl (wl (ob (by first | (simp only[step_take hx,TH c3];done) | (simp only[step_take hx,UK c3 hx1];done))) (wl (om (by first | (simp only[step_take hx,TH c3];done) | (simp only[step_take hx,UK c3 hx1];done))) (wl (oe rfl) (DO)))))⟩
  (try simp only[sd,se] at c3);refine B6 (fun k=>false) EO (Bb A0 4 [0] O ?_);obtain⟨x1,hx1⟩:=A6 (l:=ps) (i:=(x.index:Int).toNat) An;refine BL O (fun _=>A5 FQ O O An (G3 hx1) (Dx _)) Ap (Bb A0 3 [0] O (Hu O O (CW [1,2] O (.inl ⟨O,O,O⟩) (eV bs mm (((l.vars.take i).foldl (Dn ps) ([],l.const)).1) (((l.vars.take i).foldl (Dn ps) ([],l.const)).2) x1 x.plus (Lg.of (List.all_eq_true.1 hv.2 _ (List.mem_of_getElem? hx1))) hw.1.1 hw.1.2) ⟨_,_,O,O,⟨_,_,O,O,O⟩⟩ Am O (.inl O)) AB Ap (IX O Aj (A3 (Ar A0 2 [] O ?_)))));refine⟨(i+1),AT,by omega,BY ⟨we rfl,we rfl,we rfl,we rfl,we rfl,we rfl,trivial⟩ (leH (is:=[1,2,3]) rfl (wl (ob (by first | (simp only[step_take hx,TH c3];done) | (simp only[step_take hx,UK c3 hx1];done))) (wl (om (by first | (simp only[step_take hx,TH c3];done) | (simp only[step_take hx,UK c3 hx1];done))) (wl (oe rfl) (DO)))))⟩
 (try simp only[sd,se] at c2);refine Bh (Aw ?_);have hfin:WH ((l.vars.take i).foldl (Dn ps) ([],l.const)):=WH.fold (List.all_eq_true.1 hv.2) _ _ (WH.zero _) (fun x hx=>by
  obtain⟨j,hj⟩:=List.mem_iff_getElem?.1 (List.mem_of_mem_take hx);exact⟨Tv hv.1 hj,aE hv.1 hpl hj⟩)
 refine Br O (Aq O (CW [0,1] O (.inl ⟨O,O,O⟩) (Zi bs mm (((l.vars.take i).foldl (Dn ps) ([],l.const)).1) (((l.vars.take i).foldl (Dn ps) ([],l.const)).2) hfin) ⟨_,_,O,O,⟨_,_,O,O,O⟩⟩ Am O (.inl O)) (Ar A0 4 [2,1] O (Az (⟨O,_,_,⟨_,_,O,(BE (i:=2) FW O O Af),⟨_,_,O,O,O⟩⟩,(List.nil_sublist _),?_⟩))))
 all_goals exact⟨by show (.tup [.agg ((B5 ((Ij ⟨(((l.vars.take i).foldl (Dn ps) ([],l.const)).2),GJ (((l.vars.take i).foldl (Dn ps) ([],l.const)).1)⟩).1)).map .p),.p (I ((Ij ⟨(((l.vars.take i).foldl (Dn ps) ([],l.const)).2),GJ (((l.vars.take i).foldl (Dn ps) ([],l.const)).1)⟩).2))]:AV)=_;rw[show Ht l ps=Ij ⟨(l.vars.foldl (Dn ps) ([],l.const)).2,GJ (l.vars.foldl (Dn ps) ([],l.const)).1⟩ by rw[Ht,if_neg (by simp[hv]),if_neg hpl]];rw[show l.vars.take i=l.vars from List.take_of_length_le An],rfl⟩
theorem _root_.Go.Ag {α:Prop}(h:α:=by simp[BB]):α:=h
theorem HX:∀(f:Tm) (xs:List Tm),(xs.length<De)→E4 Tryz.prog 24 [.agg ((BK f).map .p),.p (.lst (BC xs))] (.agg ((BK (apply f xs)).map .p)):=by
 intro f xs h1;simp only[De] at h1;refine A4 Tryz.func24 O pw (n:=20) O O (Aw (BG O (BO O) fun b2=>BG O (A7 Bw O) fun b4=>Bf O (Au (As A0 1 [] O (A8 (Be (α:=Nat) (fun i=>⟨20,mk [(1,.p (.lst (BC xs))),(2,.ptr b2 0),(4,.ptr b4 0),(5,.p (I (i:Int)))],[.box b4 [.p (I 0),.p (I 0),.p (.str ⟨#[]⟩),.p (.nils),.p (.nils)],.box b2 ((BK (apply f (xs.take i))).map .p)],[]⟩) (fun i=>xs.length - i) (fun i=>i≤xs.length) 0 AO ?_ ?_))))))
 ·exact BY ⟨we O,we O,we O,we O,Ap⟩ (leH (is:=[0,1]) O (wl (oe O) (wl (oe O) (DO))))
 rintro i hC
 try simp only at hC
 have hi:=hC;refine Au (Aw (Ay A0 2 [] O (Aq O (BM Bg O (BR _)) (Ar A0 1 [] O (Av O (fun c=>?_) (fun c=>?_))))))
 ·(try simp only[sd,se] at c);refine A1 (Au (A8 (B6 (fun k=>false) EO (Bb A0 3 [1] O ?_))));obtain⟨x,hx⟩:=A6 (l:=xs) (i:=i) An;refine BL O (fun _=>A5 Bg O O An (Bd hx) (BB _)) Ap (BL O (fun _=>BJ BQ O (BB _)) Ap ?_);generalize hz:(apply f (xs.take i))=z;obtain⟨zk,zi,zn,zl,zs⟩:=z;obtain⟨xk,xi,xn,xl,xs1⟩:=x;refine BL O (fun _=>Bx Bg Bw O O O O O) Ap (B4 A0 2 [1,0] O (A3 (Ar A0 3 [] O ?_)));refine⟨(i+1),AT,by omega,BY ⟨we rfl,we rfl,we rfl,we rfl,trivial⟩ (leH (is:=[0,1]) rfl (wl (oe rfl) (wl (on (by rw[Qz hx,hz];rfl)) (DO))))⟩
 (try simp only[sd,se] at c);refine Bh (As A0 2 [1,0,1] O (Az (⟨O,_,_,⟨_,_,O,(BE (i:=0) BQ O O Ag),O⟩,(List.nil_sublist _),?_⟩)))
 all_goals exact⟨by show (.agg ((BK (apply f (xs.take i))).map .p):AV)=_;rw[show i=xs.length by omega,List.take_length],rfl⟩
theorem T9:∀(n:Nat) (t:Tm),(size t≤n)→(Nd t)→E4 Tryz.prog 77 [.agg ((BK t).map .p)] (.p (I (FL t))):=by
 intro n
 induction n with
 | zero=>intro t h;cases t;simp[size] at h
 | succ n ih =>
  intro t h1 h2;obtain⟨tk,ti,tn,tl,ts⟩:=t;simp only[size] at h1;simp only[Nd,De] at h2;refine A4 Tryz.func77 O pR (n:=21) O O (Aw (BG O (BO O) fun b1=>Ar A0 1 [] O (As A0 1 [] O (Au (As A0 1 [] O (A8 (Be (α:=Nat×Int) (fun(i,m)=>⟨21,mk [(1,.ptr b1 0),(3,.p (I m)),(4,.p (I (i:Int)))],[.box b1 [.p (I tk),.p (I ti),.p (.str tn),.p (.lst (List.map B5 tl)),.p (.lst (BC ts))]],[]⟩) (fun(i,m)=>ts.length - i) (fun(i,m)=>i≤ts.length∧(KB m (ts.drop i)=KB 1 ts)) ⟨0,1⟩ Ao ?_ ?_)))))))
  ·exact BY ⟨we O,we O,we O,Ap⟩ (leH (is:=[0]) O (wl (oe O) (DO)))
  rintro⟨i,m⟩ hC
  try simp only at hC
  obtain⟨hi,hC⟩:=hC;refine Au (Aw (Ay A0 3 [0] O (Aq O (BM Bg O (BR _)) (Ar A0 1 [] O (Av O (fun c=>?_) (fun c=>?_))))))
  ·(try simp only[sd,se] at c);refine A1 (Au (A8 (A3 (Ay A0 4 [0] O ?_))));obtain⟨x,hx⟩:=A6 (l:=ts) (i:=i) An;refine Aq O (A5 Bg O O An (Bd hx) (BB _)) (Aq O (BJ BQ O (BB _)) (Aq O (BF O O (ih x (by have:=Cb hx;omega) (DK h2.2.2.2.2.1 hx)) O) (Aq O (EX O O) (Ar A0 1 [] O (A3 (Ar A0 3 [] O ?_))))));refine⟨⟨i+1,wr (m+FL x)⟩,AT,⟨by omega,by rw[←hC,Cm hx];rfl⟩,BY ⟨we rfl,we rfl,we rfl,trivial⟩ (leH (is:=[0]) rfl (wl (oe rfl) (DO)))⟩
  (try simp only[sd,se] at c);refine Bh (As A0 2 [] O (Az (⟨O,_,_,⟨_,_,O,O,O⟩,(List.nil_sublist _),?_⟩)))
  all_goals exact⟨pI (by rw[show FL (.mk tk ti tn tl ts)=KB 1 ts from rfl,←hC,show i=ts.length by omega,List.drop_length];rfl),rfl⟩
theorem QT:∀(n:Nat) (t:Tm),(size t≤n)→(Nd t)→E4 Tryz.prog 93 [.agg ((BK t).map .p)] (.p (I (En t))):=by
 intro n
 induction n with
 | zero=>intro t h;cases t;simp[size] at h
 | succ n ih =>
  intro t h1 h2;obtain⟨tk,ti,tn,tl,ts⟩:=t;simp only[size] at h1;simp only[Nd,De] at h2;refine A4 Tryz.func93 O qJ (n:=22) O O (Aw (BG O (BO O) fun b1=>Ar A0 1 [] O (As A0 1 [] O (Au (As A0 1 [] O (A8 (Be (α:=Nat×Int) (fun(i,m)=>⟨22,mk [(1,.ptr b1 0),(3,.p (I m)),(4,.p (I (i:Int)))],[.box b1 [.p (I tk),.p (I ti),.p (.str tn),.p (.lst (List.map B5 tl)),.p (.lst (BC ts))]],[]⟩) (fun(i,m)=>ts.length - i) (fun(i,m)=>i≤ts.length∧(I3 m (ts.drop i)=I3 0 ts)) ⟨0,0⟩ Ao ?_ ?_)))))))
  ·exact BY ⟨we O,we O,we O,Ap⟩ (leH (is:=[0]) O (wl (oe O) (DO)))
  rintro⟨i,m⟩ hC
  try simp only at hC
  obtain⟨hi,hC⟩:=hC;refine Au (Aw (Ay A0 3 [0] O (Aq O (BM Bg O (BR _)) (Ar A0 1 [] O (Av O (fun c=>?_) (fun c=>?_))))))
  ·(try simp only[sd,se] at c);refine A1 (Au (A8 (A3 (Ay A0 4 [0] O ?_))));obtain⟨x,hx⟩:=A6 (l:=ts) (i:=i) An;refine Aq O (A5 Bg O O An (Bd hx) (BB _)) (Aq O (BJ BQ O (BB _)) (Aq O (BF O O (ih x (by have:=Cb hx;omega) (DK h2.2.2.2.2.1 hx)) O) (Aq O (Iy O O) (Ar A0 1 [] O (A3 (Ar A0 3 [] O ?_))))));refine⟨⟨i+1,max m (En x)⟩,AT,⟨by omega,by rw[←hC,Cm hx];rfl⟩,BY ⟨we rfl,we rfl,we rfl,trivial⟩ (leH (is:=[0]) rfl (wl (oe rfl) (DO)))⟩
  (try simp only[sd,se] at c);refine Bh (Aw (Br O (Aq O (EX O O) (Ar A0 1 [] O (Az (⟨O,_,_,⟨_,_,O,O,O⟩,(List.nil_sublist _),?_⟩))))))
  all_goals exact⟨pI (by rw[show En (.mk tk ti tn tl ts)=wr (I3 0 ts+1) from rfl,←hC,show i=ts.length by omega,List.drop_length];rfl),rfl⟩
theorem aL:∀(b:Nat) (er nd e:Int),Bl Tryz.prog 141 [.ptr b 0,.p (I e)] [.box b [.p (I er),.p (I nd)]] (G5 (.tup []) [.box b [.p (I (GC er e)),.p (I nd)]]):=by
 intro b er nd e;refine A4 Tryz.func141 O km (n:=13) O O (As A0 5 [0] O (Av O (fun c=>?_) (fun c=>?_)))
 ·(try simp only[sd,se] at c);refine A3 (Ar A0 5 [0,0] O ⟨O,_,_,O,(CH (is:=[0]) O),?_⟩);refine⟨O,?_⟩;show ([.box b [.p (I e),.p (I nd)]]:List BD)=_;simp[GC,c]
 (try simp only[sd,se] at c);refine A1 ⟨O,_,_,O,(CH (is:=[0]) O),?_⟩;refine⟨O,?_⟩;show ([.box b [.p (I er),.p (I nd)]]:List BD)=_;simp[GC,c]
theorem RO:∀(b:Nat) (er nd i:Int),Bl Tryz.prog 126 [.ptr b 0,.p (I i)] [.box b [.p (I er),.p (I nd)]] (G5 (.agg ((BK (OS i)).map .p)) [.box b [.p (I (MN er i)),.p (I nd)]]):=by
 intro b er nd i;refine A4 Tryz.func126 O lx (n:=11) O O (Aw (BG O (A7 Bw O) fun b4=>Bf O (Au (As A0 2 [] O (Av O (fun c=>?_) (fun c=>?_))))))
 ·(try simp only[sd,se] at c);refine A3 (Br O (Aq O (CW [1] O (.inl ⟨O,O,O⟩) (aL b er nd 24) ⟨_,_,O,O,O⟩ Am O (.inl O)) (Bf O (As A0 3 [0,0] O (BN (Bc (i:=0) O) (Az (⟨O,_,_,⟨_,_,O,(BE (i:=0) BQ O O O),O⟩,(CH (is:=[1]) O),?_⟩)))))));refine⟨O,?_⟩;show ([.box b [.p (I (GC er 24)),.p (I nd)]]:List BD)=_;simp[MN,show i > 65535 by omega]
 (try simp only[sd,se] at c);refine A1 (As A0 3 [0,0] O (BN (Bc (i:=0) O) (Az (⟨O,_,_,⟨_,_,O,(BE (i:=0) BQ O O O),O⟩,(CH (is:=[1]) O),?_⟩))));refine⟨O,?_⟩;show ([.box b [.p (I er),.p (I nd)]]:List BD)=_;simp[MN,show ¬i > 65535 by omega]
theorem _root_.Go.AD {α:Prop}(h:α:=by simp only[BR,List.length_map,List.length_cons,List.length_nil,List.nil_append,List.length_append];omega):α:=h
theorem X6:∀(n:Nat) (t:Tm) (b:Nat) (by' fr d er nd:Int),(size t≤n)→(Nd t)→(0≤d)→(d+n<2 ^ 62)→Bl Tryz.prog 125 [.ptr b 0,.agg ((BK t).map .p),.p (I by'),.p (I fr),.p (I d)] [.box b [.p (I er),.p (I nd)]] (G5 (.agg ((BK ((CS by' fr d er t).1)).map .p)) [.box b [.p (I ((CS by' fr d er t).2)),.p (I nd)]]):=by
 intro n
 induction n with
 | zero=>intro t b by' fr d er nd h;cases t;simp[size] at h
 | succ n ih =>
  intro t b by' fr d er nd h1 h2 h3 h4
  obtain⟨tk,ti,tn,tl,ts⟩:=t;simp only[size] at h1;simp only[Nd,De] at h2;refine A4 Tryz.func125 O nL (n:=68) O O (Aw (BG O (BO O) fun b6=>BG O (A7 Bw O) fun b10=>Bf O (Au (As A0 3 [1] O (Av O (fun c=>?_) (fun c=>?_))))))
  ·(try simp only[sd,se] at c);refine Au (Aw (Ay A0 4 [1] O (Aq O (EX O O) (Ar A0 1 [] O (Av O (fun c1=>?_) (fun c1=>?_))))))
   ·(try simp only[sd,se] at c1);refine As A0 2 [1,0,0] O (Az (⟨O,_,_,⟨_,_,O,(BE (i:=0) BQ O O O),O⟩,(CH (is:=[2]) O),?_⟩));refine⟨by show (.agg [.p (I tk),.p (I ti),.p (.str tn),.p (.lst (List.map B5 tl)),.p (.lst (BC ts))]:AV)=_;rw[CS,if_pos c,if_pos c1];rfl,?_⟩;show ([.box b [.p (I er),.p (I nd)]]:List BD)=_;rw[CS,if_pos c,if_pos c1]
   (try simp only[sd,se] at c1);refine A1 (Au (Aw (Ay A0 3 [1] O (Aq O (EX O O) (Ay A0 2 [] O (Aq O (EX O O) (Ar A0 1 [] O (Av O (fun c2=>?_) (fun c2=>?_)))))))))
   ·(try simp only[sd,se] at c2);refine Aw (Br O (Aq O (CW [2] O (.inl ⟨O,O,O⟩) (aL b er nd 24) ⟨_,_,O,O,O⟩ Am O (.inl O)) (Bf O (As A0 2 [1,0,0] O (Az (⟨O,_,_,⟨_,_,O,(BE (i:=0) BQ O O O),O⟩,(CH (is:=[2]) O),?_⟩))))));refine⟨by show (.agg [.p (I tk),.p (I ti),.p (.str tn),.p (.lst (List.map B5 tl)),.p (.lst (BC ts))]:AV)=_;rw[CS,if_pos c,if_neg An,if_pos c2];rfl,?_⟩;show ([.box b [.p (I (GC er 24)),.p (I nd)]]:List BD)=_;rw[CS,if_pos c,if_neg An,if_pos c2]
   (try simp only[sd,se] at c2);refine A1 (Aw (Ay A0 4 [1] O (Aq O (EX O O) (Aq O (CW [2] O (.inl ⟨O,O,O⟩) (RO b er nd (wr ((ti:Int)+(by':Int)))) ⟨_,_,rfl,rfl,rfl⟩ Am rfl (.inl rfl)) (Ar A0 1 [0,1] O (Az (⟨O,_,_,⟨_,_,O,(BE (i:=0) BQ O O Ag),O⟩,(CH (is:=[2]) O),?_⟩)))))));refine⟨by show (.agg ((BK (OS (wr ((ti:Int)+(by':Int))))).map .p):AV)=_;rw[CS,if_pos c,if_neg An,if_neg An],?_⟩;show ([.box b [.p (I (MN er (wr ((ti:Int)+(by':Int))))),.p (I nd)]]:List BD)=_;rw[CS,if_pos c,if_neg An,if_neg An]
  (try simp only[sd,se] at c);refine A1 (As A0 1 [] O (Au (As A0 1 [] O (A8 (BN (Fo (t:=11) (sz:=5) O) (Be (α:=Nat×List Tm×Int×Option Nat×Nat) (fun(i,ys,e,o,cp)=>⟨68,mk [(0,.ptr b 0),(2,.p (I by')),(3,.p (I fr)),(4,.p (I d)),(6,.ptr b6 0),(10,.ptr b10 0),(11,.vs o (BC ys).length cp),(12,.p (I (i:Int)))],[.vec o 5 (BC ys) cp,.box b10 [.p (I 0),.p (I 0),.p (.str ⟨#[]⟩),.p (.nils),.p (.nils)],.box b6 [.p (I tk),.p (I ti),.p (.str tn),.p (.lst (List.map B5 tl)),.p (.lst (BC ts))],.box b [.p (I e),.p (I nd)]],[]⟩) (fun(i,ys,e,o,cp)=>ts.length - i) (fun(i,ys,e,o,cp)=>i≤ts.length∧(ys.length=i∧(ys++(C2 by' fr tk d i e (ts.drop i)).1,(C2 by' fr tk d i e (ts.drop i)).2)=C2 by' fr tk d 0 er ts)) ⟨0,[],er,none,0⟩ Ao ?_ ?_))))))
  ·exact BY ⟨we O,we O,we O,we O,we O,we O,we O,we O,Ap⟩ (leH (is:=[0,1,2,3]) O (wl (oe O) (wl (oe O) (wl (oe O) (wl (oe O) (DO))))))
  rintro⟨i,ys,e,o,cp⟩ hC
  try simp only at hC
  obtain⟨hi,hl,hC⟩:=hC;refine Au (Aw (Ay A0 3 [2] O (Aq O (BM Bg O (BR _)) (Ar A0 1 [] O (Av O (fun c1=>?_) (fun c1=>?_))))))
  ·(try simp only[sd,se] at c1);refine A1 (Au (A8 (B6 (fun k=>Nat.beq k 17) EO (Bb A0 5 [2] O ?_))));obtain⟨x,hx⟩:=A6 (l:=ts) (i:=i) An;refine BL O (fun _=>A5 Bg O O An (Bd hx) (BB _)) Ap (Bb A0 7 [2] O (BL O (fun _=>BF O O (Td tk (i:Int)) O) Ap (BL O (fun _=>NL O O (by have:=Cj tk i;omega) (by have:=Cj tk i;omega)) Ap (Hu O O (CW [3] O (.inl ⟨O,O,O⟩) (ih x b by' fr ((d:Int)+(below tk (i:Int):Int)) e nd (by have:=Cb hx;omega) (DK h2.2.2.2.2.1 hx) (by have:=Cj tk i;omega) (by have:=Cj tk i;omega)) ⟨_,_,rfl,rfl,rfl⟩ Am rfl (.inl rfl)) AB trivial ?_))));generalize hz:(CS by' fr ((d:Int)+(below tk (i:Int):Int)) e x).1=z;obtain⟨zk,zi,zn,zl,zs⟩:=z;refine BL O (fun _=>Bx Bg Bw O O O O O) Ap (OO [] O O (Cs (i:=0) (rows':=BC [(.mk zk zi zn zl zs:Tm)]) Bg Bg Bw O O O O O O (Bu _) AD (Nl ys [(.mk zk zi zn zl zs:Tm)])) Aj fun o1 cp1=>⟨AB,Ap,?_⟩);refine B4 A0 1 [] O (A3 (Ar A0 3 [] O ?_));refine⟨⟨i+1,ys++[(CS by' fr (d+below tk i) e x).1],(CS by' fr (d+below tk i) e x).2,o1,cp1⟩,AT,⟨by omega,⟨by simp[hl],by rw[←hC,Cm hx];simp[C2]⟩⟩,BY ⟨we rfl,we rfl,we rfl,we rfl,we rfl,we rfl,we (QX (ys++[(.mk zk zi zn zl zs:Tm)]) (by rw[hz])),we rfl,trivial⟩ (leH (is:=[0,1,2,3]) rfl (wl (Mm (ys++[(.mk zk zi zn zl zs:Tm)]) (by rw[hz])) (wl (oe rfl) (wl (oe rfl) (wl (oe rfl) (DO))))))⟩
  (try simp only[sd,se] at c1);refine Bh (Aw (Ay A0 2 [] O (CD (Cw (i:=0) [11,65] O (Eh ⟨O,O,Ap⟩)) (Ar A0 1 [1,0] O (As A0 2 [1,0,0] O (Az (⟨O,_,_,⟨_,_,O,(BE (i:=0) BQ O O O),O⟩,(CH (is:=[2]) O),?_⟩)))))));refine⟨by show (.agg [.p (I tk),.p (I ti),.p (.str tn),.p (.lst (List.map B5 tl)),.p (.lst (BC ys))]:AV)=_;rw[CS,if_neg c];rw[show i=ts.length by omega,List.drop_length] at hC;rw[←hC];simp[C2];rfl,?_⟩;show ([.box b [.p (I e),.p (I nd)]]:List BD)=_;rw[CS,if_neg c];rw[show i=ts.length by omega,List.drop_length] at hC;rw[←hC];simp[C2]
theorem fg:∀(n:Nat) (t:Tm) (vs:List Tm) (b:Nat) (d er nd:Int),(size t≤n)→(Nd t)→(Ld vs)→(BS vs+d+n<2 ^ 62)→(0≤d)→Bl Tryz.prog 94 [.ptr b 0,.agg ((BK t).map .p),.p (.lst (BC vs)),.p (I d)] [.box b [.p (I er),.p (I nd)]] (G5 (.agg ((BK ((B3 vs d er nd t).1)).map .p)) [.box b [.p (I ((B3 vs d er nd t).2.1)),.p (I ((B3 vs d er nd t).2.2))]]):=by
 intro n
 induction n with
 | zero=>intro t vs b d er nd h;cases t;simp[size] at h
 | succ n ih =>
  intro t vs b d er nd h1 h2 h3 h4 h5;obtain⟨tk,ti,tn,tl,ts⟩:=t;simp only[size] at h1;simp only[Nd,Ir,De] at h2;have hvl:=FF vs;refine A4 Tryz.func94 O o9 (n:=105) O O (Aw (BG O (BO O) fun b5=>BG O (A7 Bw O) fun b8=>Bf O (Au (As A0 5 [2] O (Av O (fun c=>?_) (fun c=>?_))))))
  ·(try simp only[sd,se] at c);refine As A0 2 [1,0,0] O (Az (⟨O,_,_,⟨_,_,O,(BE (i:=0) BQ O O O),O⟩,(CH (is:=[2]) O),?_⟩));refine⟨by show (.agg [.p (I tk),.p (I ti),.p (.str tn),.p (.lst (List.map B5 tl)),.p (.lst (BC ts))]:AV)=_;rw[B3,if_pos An];rfl,?_⟩;show ([.box b [.p (I er),.p (I nd)]]:List BD)=_;rw[B3,if_pos An]
  (try simp only[sd,se] at c);refine A1 (Au (Au (BU [0,2,3,5,8] 35 (fun y=>y= .p (.bool ((((tk:Int)==(0:Int))&&(decide ((ti:Int)≥(d:Int))))&&(decide (((ti:Int) - (d:Int):Int)<((vs.length:Nat):Int)))))) ?_ ?_)))
  ·refine A3 (Ay A0 4 [1] O (BI 21 O (fun g=>?_) (fun g=>?_)))
   ·(try simp only[sd,se] at g);refine Ay A0 6 [1] O (BI 27 O (fun g1=>?_) (fun g1=>?_))
    ·(try simp only[sd,se] at g1);exact Ay A0 5 [1] O (BA O (BM Bg O (BR _)) (Ar A0 2 [] O (⟨O,O,AJ,AH,⟨O,O,O,O,O,Ap⟩⟩)))
    (try simp only[sd,se] at g1);exact Ar A0 8 [] O (⟨O,O,AJ,AH,⟨O,O,O,O,O,Ap⟩⟩)
   (try simp only[sd,se] at g);exact Ar A0 14 [] O (⟨O,O,AJ,AH,⟨O,O,O,O,O,Ap⟩⟩)
  rintro _ rfl;refine Av O (fun c1=>?_) (fun c1=>?_)
  ·(try simp only[sd,se] at c1);refine Aw (Ay A0 5 [1] O ?_);obtain⟨x,hx⟩:=A6 (l:=vs) (i:=((ti:Int) - (d:Int):Int).toNat) An;refine Aq O (A5 Bg O O An (Bd hx) (BB _)) (Aq O (BJ BQ O (BB _)) (BG O (A7 Bw O) fun b9=>Ar A0 1 [0,1] O (Au (B6 (fun k=>false) EO (Bb A0 5 [3,0] O (BL O (fun _=>BF O O (T9 _ x (Nat.le_refl _) (DK h3 hx)) O) Ap (BL O (fun _=>EX O O) Ap (B4 A0 3 [3,0] O (Aw (Ay A0 3 [0] O (Aq O (CW [3] O (.inl ⟨O,O,O⟩) (X6 _ x b d 0 0 er (wr ((nd:Int)+(FL x:Int))) (Nat.le_refl _) (DK h3 hx) An (by have:=Cb hx;omega)) ⟨_,_,O,O,O⟩ Am O (.inl O)) (Ar A0 1 [1,1] O (Az (⟨O,_,_,⟨_,_,O,(BE (i:=1) BQ O O Ag),O⟩,(CH (is:=[3]) O),?_⟩))))))))))))));refine⟨by show (.agg ((BK ((CS d 0 0 er x).1)).map .p):AV)=_;rw[B3,if_neg An,if_pos An,NC hx],?_⟩;show ([.box b [.p (I ((CS d 0 0 er x).2)),.p (I (wr ((nd:Int)+(FL x:Int))))]]:List BD)=_;rw[B3,if_neg An,if_pos An,NC hx]
  (try simp only[sd,se] at c1);refine A1 (Aw (Ay A0 4 [2] O (Aq O (EX O O) (Ar A0 3 [2,0] O (Au (As A0 3 [1] O (Av O (fun c2=>?_) (fun c2=>?_))))))))
  ·(try simp only[sd,se] at c2);refine Au (As A0 4 [1] O (Av O (fun c3=>?_) (fun c3=>?_)))
   ·(try simp only[sd,se] at c3);refine Aw (Ay A0 4 [1] O (Aq O (BM Bg O (BR _)) (Aq O (IY O O) (Aq O (CW [2] O (.inl ⟨O,O,O⟩) (RO b er (wr ((nd:Int)+(1:Int))) (wr ((ti:Int) - ((vs.length:Nat):Int)))) ⟨_,_,O,O,O⟩ Am O (.inl O)) (Ar A0 1 [0,1] O (Az (⟨O,_,_,⟨_,_,O,(BE (i:=0) BQ O O Ag),O⟩,(CH (is:=[2]) O),?_⟩)))))));refine⟨by show (.agg ((BK (OS (wr ((ti:Int) - ((vs.length:Nat):Int))))).map .p):AV)=_;rw[B3,if_neg An,if_neg An,if_pos An,if_pos An],?_⟩;show ([.box b [.p (I (MN er (wr ((ti:Int) - ((vs.length:Nat):Int))))),.p (I (wr ((nd:Int)+(1:Int))))]]:List BD)=_;rw[B3,if_neg An,if_neg An,if_pos An,if_pos An]
   (try simp only[sd,se] at c3);refine A1 (As A0 2 [1,0,0] O (Az (⟨O,_,_,⟨_,_,O,(BE (i:=0) BQ O O O),O⟩,(CH (is:=[2]) O),?_⟩)));refine⟨by show (.agg [.p (I tk),.p (I ti),.p (.str tn),.p (.lst (List.map B5 tl)),.p (.lst (BC ts))]:AV)=_;rw[B3,if_neg An,if_neg An,if_pos An,if_neg An];rfl,?_⟩;show ([.box b [.p (I er),.p (I (wr ((nd:Int)+(1:Int))))]]:List BD)=_;rw[B3,if_neg An,if_neg An,if_pos An,if_neg An]
  (try simp only[sd,se] at c2);refine A1 (As A0 1 [] O (Au (As A0 1 [] O (A8 (BN (Fo (t:=10) (sz:=5) O) (Be (α:=Nat×List Tm×Int×Int×Option Nat×Nat) (fun(i,ys,e,m,o,cp)=>⟨105,mk [(0,.ptr b 0),(2,.p (.lst (BC vs))),(3,.p (I d)),(5,.ptr b5 0),(8,.ptr b8 0),(10,.vs o (BC ys).length cp),(11,.p (I (i:Int)))],[.vec o 5 (BC ys) cp,.box b8 [.p (I 0),.p (I 0),.p (.str ⟨#[]⟩),.p (.nils),.p (.nils)],.box b5 [.p (I tk),.p (I ti),.p (.str tn),.p (.lst (List.map B5 tl)),.p (.lst (BC ts))],.box b [.p (I e),.p (I m)]],[]⟩) (fun(i,ys,e,m,o,cp)=>ts.length - i) (fun(i,ys,e,m,o,cp)=>i≤ts.length∧(ys.length=i∧(ys++(CO vs tk d i e m (ts.drop i)).1,(CO vs tk d i e m (ts.drop i)).2)=CO vs tk d 0 er (wr (nd+1)) ts)) ⟨0,[],er,wr (nd+1),none,0⟩ Ao ?_ ?_))))))
  ·exact BY ⟨we O,we O,we O,we O,we O,we O,we O,Ap⟩ (leH (is:=[0,1,2,3]) O (wl (oe O) (wl (oe O) (wl (oe O) (wl (oe O) (DO))))))
  rintro⟨i,ys,e,m,o,cp⟩ hC
  try simp only at hC
  obtain⟨hi,hl,hC⟩:=hC;refine Au (Aw (Ay A0 3 [2] O (Aq O (BM Bg O (BR _)) (Ar A0 1 [] O (Av O (fun c3=>?_) (fun c3=>?_))))))
  ·(try simp only[sd,se] at c3);refine A1 (Au (A8 (B6 (fun k=>Nat.beq k 16) EO (Bb A0 5 [2] O ?_))));obtain⟨x,hx⟩:=A6 (l:=ts) (i:=i) An;refine BL O (fun _=>A5 Bg O O An (Bd hx) (BB _)) Ap (Bb A0 6 [2] O (BL O (fun _=>BF O O (Td tk (i:Int)) O) Ap (BL O (fun _=>NL O O (by have:=Cj tk i;omega) (by have:=Cj tk i;omega)) Ap (Hu O O (CW [3] O (.inl ⟨O,O,O⟩) (ih x vs b ((d:Int)+(below tk (i:Int):Int)) e m (by have:=Cb hx;omega) (DK h2.2.2.2.2.1 hx) h3 (by have:=Cj tk i;omega) (by have:=Cj tk i;omega)) ⟨_,_,O,O,O⟩ Am O (.inl O)) AB Ap ?_))));generalize hz:(B3 vs ((d:Int)+(below tk (i:Int):Int)) e m x).1=z;obtain⟨zk,zi,zn,zl,zs⟩:=z;refine BL O (fun _=>Bx Bg Bw O O O O O) Ap (OO [] O O (Cs (i:=0) (rows':=BC [(.mk zk zi zn zl zs:Tm)]) Bg Bg Bw O O O O O O (Bu _) AD (Nl ys [(.mk zk zi zn zl zs:Tm)])) Aj fun o1 cp1=>⟨AB,Ap,?_⟩);refine B4 A0 1 [] O (A3 (Ar A0 3 [] O ?_));refine⟨⟨i+1,ys++[(B3 vs (d+below tk i) e m x).1],(B3 vs (d+below tk i) e m x).2.1,(B3 vs (d+below tk i) e m x).2.2,o1,cp1⟩,AT,⟨by omega,⟨by simp[hl],by rw[←hC,Cm hx];simp[CO]⟩⟩,BY ⟨we rfl,we rfl,we rfl,we rfl,we rfl,we (QX (ys++[(.mk zk zi zn zl zs:Tm)]) (by rw[hz])),we rfl,trivial⟩ (leH (is:=[0,1,2,3]) rfl (wl (Mm (ys++[(.mk zk zi zn zl zs:Tm)]) (by rw[hz])) (wl (oe rfl) (wl (oe rfl) (wl (oe rfl) (DO))))))⟩
  (try simp only[sd,se] at c3);refine Bh (Aw (Ay A0 2 [] O (CD (Cw (i:=0) [10,102] O (Eh ⟨O,O,Ap⟩)) (Ar A0 1 [1,0] O (As A0 2 [1,0,0] O (Az (⟨O,_,_,⟨_,_,O,(BE (i:=0) BQ O O O),O⟩,(CH (is:=[2]) O),?_⟩)))))));refine⟨by show (.agg [.p (I tk),.p (I ti),.p (.str tn),.p (.lst (List.map B5 tl)),.p (.lst (BC ys))]:AV)=_;rw[B3,if_neg An,if_neg An,if_neg An];rw[show i=ts.length by omega,List.drop_length] at hC;rw[←hC];simp[CO];rfl,?_⟩;show ([.box b [.p (I e),.p (I m)]]:List BD)=_;rw[B3,if_neg An,if_neg An,if_neg An];rw[show i=ts.length by omega,List.drop_length] at hC;rw[←hC];simp[CO]
theorem cc:∀(t:Tm) (vs:List Tm) (d:Int),(size t<2 ^ 60)→(Nd t)→(Ld vs)→(BS vs<2 ^ 60)→(0≤d)→E4 Tryz.prog 59 [.agg ((BK t).map .p),.p (.lst (BC vs)),.p (I d)] (.tup [.agg ((BK ((CI t vs d).1)).map .p),.p (I ((CI t vs d).2))]):=by
 intro t vs d h1 h2 h3 h4 h5;generalize hr:B3 vs (min d 65536) 0 0 t=r;refine A4 Tryz.func59 O oW (n:=42) O O (Aw (BG O (BO O) fun b3=>BG O (A7 Bw O) fun b6=>Ar A0 1 [] O (Au (As A0 2 [] O (Av O (fun c=>?_) (fun c=>?_))))))
 ·(try simp only[sd,se] at c);exact As A0 3 [0,0] O (BN (Bc (i:=0) O) (Az (absurd c An)))
 (try simp only[sd,se] at c);refine A1 (Aw (Aq O (CJ im ie O) (BG O (BO O) fun b14=>Ar A0 1 [] O (Aw (Ay A0 4 [2] O (Aq O (YC O O) (Aq O (CW [0] O (.inl ⟨O,O,O⟩) (fg _ t vs b14 (min (d:Int) (65536:Int)) 0 0 (Nat.le_refl _) h2 h3 An An) ⟨_,_,O,O,O⟩ Am O (.inl O)) (BG O (A7 Bw O) fun b9=>Ar A0 1 [0,1] O (Au (As A0 5 [1] O (Av O (fun c1=>?_) (fun c1=>?_))))))))))))
 ·(try simp only[sd,se] at c1);refine As A0 3 [2,0] O (BN (Bc (i:=2) O) (Az (⟨O,_,_,⟨_,_,O,(BE (i:=2) BQ O O O),⟨_,_,O,O,O⟩⟩,(List.nil_sublist _),?_⟩)));unfold CI;rw[if_pos (by simpa using c1)]
  all_goals exact⟨rfl,rfl⟩
 (try simp only[sd,se] at c1);refine A1 (Au (As A0 5 [1] O (Av O (fun c2=>?_) (fun c2=>?_))))
 ·(try simp only[sd,se] at c2);refine Au (B6 (fun k=>false) EO (B4 A0 7 [1,2,0] O (BN (Bc (i:=2) O) (Az (⟨O,_,_,⟨_,_,O,(BE (i:=2) BQ O O O),⟨_,_,O,O,O⟩⟩,(List.nil_sublist _),?_⟩)))));unfold CI;rw[if_neg An,if_pos c2]
  all_goals exact⟨rfl,rfl⟩
 (try simp only[sd,se] at c2);refine A1 (Au (Aw (Aq O (BP (i:=0) BQ O O Ag) (Aq O (BF O O (QT _ ((B3 vs (min (d:Int) (65536:Int)) 0 0 t).1) (Nat.le_refl _) (Ob t vs _ _ _ h2 h3)) O) (Ar A0 1 [] O (Av O (fun c3=>?_) (fun c3=>?_)))))))
 ·(try simp only[sd,se] at c3);refine As A0 3 [2,0] O (BN (Bc (i:=2) O) (Az (⟨O,_,_,⟨_,_,O,(BE (i:=2) BQ O O O),⟨_,_,O,O,O⟩⟩,(List.nil_sublist _),?_⟩)));unfold CI;rw[if_neg An,if_neg (by simpa using c2),if_pos c3]
  all_goals exact⟨rfl,rfl⟩
 (try simp only[sd,se] at c3);refine A1 (As A0 3 [0,2,1] O (Az (⟨O,_,_,⟨_,_,O,(BE (i:=2) BQ O O Ag),⟨_,_,O,O,O⟩⟩,(List.nil_sublist _),?_⟩)));unfold CI;rw[if_neg An,if_neg (by simpa using c2),if_neg An]
 all_goals exact⟨rfl,rfl⟩
theorem bE:∀(t:Tm) (vs:List Tm),(size t<2 ^ 60)→(Nd t)→(Ld vs)→(BS vs<2 ^ 60)→E4 Tryz.prog 23 [.agg ((BK t).map .p),.p (.lst (BC vs))] (.tup [.agg ((BK ((CI t vs 0).1)).map .p),.p (I ((CI t vs 0).2))]):=by
 intro t vs h1 h2 h3 h4;refine A4 Tryz.func23 O oR (n:=11) O O (Aw (BG O (BO O) fun b2=>BG O (A7 Bw O) fun b4=>Ar A0 1 [] O (Aw (Ay A0 2 [1] O (Aq O (BF O O (cc t vs 0 h1 h2 h3 h4 An) O) (Ar A0 4 [0,1] O (Az (⟨O,_,_,⟨_,_,O,(BE (i:=0) BQ O O Ag),⟨_,_,O,O,O⟩⟩,(List.nil_sublist _),?_⟩))))))))
 all_goals exact⟨rfl,rfl⟩
theorem gX:∀{σ:Type}(st:σ→Int→Tm→σ×Bool) (Inv:Nat→σ→Prop) (HP:Bool→σ→List BD→Prop) (l b2 b3 b4:Nat) (hI:∀m s d t,Inv (m+1) s→Inv m (st s d t).1) (hy:∀m s d t T,Nd t→Inv (m+1) s→HP true s T→Kz Tryz.prog l [.p (I d),TV t] T (Vr (.p (.bool (st s d t).2)) (HP (st s d t).2 (st s d t).1))) (n:Nat) (t:Tm) (d:Int) (s:σ) (T0:List BD) (m:Nat),size t≤n→Nd t→0≤d→d+n<4611686018427387904→Inv (m+size t) s→HP true s T0→Bl Tryz.prog 114 [TV t,.p (I d),.ptr b2 0,.ptr b3 0,.ptr b4 0] (.box b2 [.fn (.yield l) [] []]:: .box b3 Nx:: .box b4 [.fn (.func 114) [] [.ptr b2 0,.ptr b3 0,.ptr b4 0]]::T0) (Vr (.p (.bool (EE st t d s).2)) (fun H=>∃T,HP (EE st t d s).2 (EE st t d s).1 T∧H= .box b2 [.fn (.yield l) [] []]:: .box b3 Nx:: .box b4 [.fn (.func 114) [] [.ptr b2 0,.ptr b3 0,.ptr b4 0]]::T)):=by
 intro σ st Inv HP l b2 b3 b4 hI hy n
 induction n with
 | zero=>intro t d s T0 m h;cases t;simp[size] at h
 | succ n ih =>
  intro t d s T0 m h1 h2 h3 h4 h5 h6;obtain⟨tk,ti,tn,tl,ts⟩:=t;have h2':=h2;simp only[size] at h1 h5;simp only[Nd,Ir,De] at h2;refine A4 Tryz.func114 O kz (n:=50) O O (Aw (BG O (BO O) fun b5=>Ar A0 1 [] O (Au (Aw (Ay A0 3 [1,0] O (IL [_,_,_,_] O O O O (hy (m+BS ts) _ _ _ _ h2' (by rw[Nat.add_assoc,Nat.add_comm (BS ts)];exact h5) h6) O ?_ (fun _ _ h=>h.elim)))))));rintro _ T ⟨rfl,hT⟩;refine Ar A0 1 [] O (Av O (fun c=>?_) (fun c=>?_))
  ·(try simp only[sd,se] at c);refine As A0 1 [] O (Az (⟨O,_,_,⟨_,_,O,O,O⟩,(GG [1,2,3] [_,_,_,_] O),?_⟩));rw[UQ c];rw[c] at hT;exact⟨O,_,hT,O⟩
  (try simp only[sd,se] at c);rw[c] at hT;refine A1 (As A0 1 [] O (Au (Au (BU [1,3,4,5,8] 24 (fun y=>y= .p (.bool ((decide ((tk:Int)≥(0:Int)))&&(decide ((tk:Int)<(13:Int)))))) ?_ ?_))))
  ·refine A3 (Ay A0 4 [0] O (BI 20 O (fun g=>?_) (fun g=>?_)))
   ·(try simp only[sd,se] at g);exact Ar A0 4 [0] O (⟨O,O,AJ,AH,⟨O,O,O,O,O,Ap⟩⟩)
   (try simp only[sd,se] at g);exact Ar A0 4 [] O (⟨O,O,AJ,AH,⟨O,O,O,O,O,Ap⟩⟩)
  rintro _ rfl;refine Av O (fun c1=>?_) (fun c1=>?_)
  ·(try simp only[sd,se] at c1);refine A3 (Ay A0 2 [0] O (Aq O (CV iP ij O O An An) (Aq O (Ax ko O O) (Aq O (B0 (i:=2) Df O O (Z6 An)) (Ar A0 1 [] O (Au (Aw (Ay A0 2 [0] O (Aq O (BM Bg O (BR _)) (Ar A0 1 [] O (A8 ?_)))))))))));refine Be (α:=Nat×σ×List BD) (fun(i,q,U)=>⟨50,mk [(1,.p (I d)),(4,.ptr b4 0),(8,.p (I (I4 tk))),(31,.p (.lst (BC ts))),(32,.p (I (ts.length:Nat))),(33,.p (I (i:Int)))],(.box b2 [.fn (.yield l) [] []]:: .box b3 Nx:: .box b4 [.fn (.func 114) [] [.ptr b2 0,.ptr b3 0,.ptr b4 0]]::U),[]⟩) (fun(i,q,U)=>ts.length - i) (fun(i,q,U)=>i≤ts.length∧(EF st tk d i q (ts.drop i)=EF st tk d 0 (st s d (.mk tk ti tn tl ts)).1 ts∧Inv (m+BS (ts.drop i)) q∧HP true q U)) ⟨0,(st s d (.mk tk ti tn tl ts)).1,T⟩ (⟨by omega,by simp,by simpa using hI _ _ _ _ (by rw[Nat.add_assoc,Nat.add_comm (BS ts)];exact h5),by assumption⟩) ?_ ?_
   ·exact BY ⟨we O,we O,we O,we O,we O,we O,Ap⟩ (YE [1,2,3] [_,_,_,_] (l':=[_,_,_]) O (wl (oe O) (wl (oe O) (wl (oe O) (DO)))))
   rintro⟨i,q,U⟩ hC
   try simp only at hC
   obtain⟨hi,hC,hJ,hK⟩:=hC;refine As A0 1 [] O (Au (Av O (fun c2=>?_) (fun c2=>?_)))
   ·(try simp only[sd,se] at c2);refine A1 (Au (A8 (Aw (Br O ?_))));obtain⟨x,hx⟩:=A6 (l:=ts) (i:=i) An;refine Aq O (A5 Bg O O An (Bd hx) (BB _)) (Aq O (BJ BQ O (BB _)) (BG O (A7 Bw O) fun b10=>Ar A0 2 [0,1] O (As A0 2 [] O (Au (As A0 3 [] O (Av O (fun c3=>?_) (fun c3=>?_)))))))
    ·(try simp only[sd,se] at c3);refine A3 (Ar A0 3 [] O (BN (Ct (t:=11) (x:= .p (I (d+below tk i))) (pI (by have:=VR (k:=tk) (i:=i) An An;omega))) (Aw (Ay A0 3 [3,0] O (Hd [_] O O O (.inr O) (ih x (d+below tk i) q _ (m+BS (ts.drop (i+1))) (by have:=Cb hx;omega) (DK h2.2.2.2.2.1 hx) (by have:=Cj tk i;omega) (by have:=Cj tk i;omega) (by rw[Cm hx,BS] at hJ;rw[Nat.add_assoc,Nat.add_comm (BS _)];exact hJ) hK) (aw (we O) (aw (we O) (aw (we O) (aw (we O) (aw (we O) (Eg)))))) ?_ (fun _ _ h=>h.elim))))));rintro _ _ ⟨rfl,T1,hT1,rfl⟩;refine Ar A0 1 [] O (Av O (fun c4=>?_) (fun c4=>?_))
     ·(try simp only[sd,se] at c4);refine As A0 1 [] O (Az (⟨O,_,_,⟨_,_,O,O,O⟩,(GG [1,2,3] [_,_,_,_] O),?_⟩));rw[HC Ak,←hC,IF hx c4];rw[c4] at hT1;exact⟨O,_,hT1,O⟩
     (try simp only[sd,se] at c4);rw[c4] at hT1;refine A1 (A3 (Ar A0 2 [] O ?_));refine⟨⟨i+1,(EE st x (d+below tk i) q).1,T1⟩,AT,⟨by omega,⟨by rw[←hC];exact(KE hx Ak).symm,by rw[Cm hx,BS] at hJ;exact Ia hI x _ _ _ (by rw[Nat.add_assoc,Nat.add_comm (BS _)];exact hJ) Ak,by assumption⟩⟩,BY ⟨we rfl,we rfl,we rfl,we rfl,we rfl,we rfl,trivial⟩ (YE [1,2,3] [_,_,_,_] (l':=[_,_,_]) rfl (wl (oe rfl) (wl (oe rfl) (wl (oe rfl) (DO)))))⟩
    (try simp only[sd,se] at c3);refine A1 (BN (Ct (t:=11) (x:= .p (I (d+below tk i))) (pI (by have:=R7 (k:=tk) (i:=i) An;omega))) (Aw (Ay A0 3 [3,0] O (Hd [_] O O O (.inr O) (ih x (d+below tk i) q _ (m+BS (ts.drop (i+1))) (by have:=Cb hx;omega) (DK h2.2.2.2.2.1 hx) (by have:=Cj tk i;omega) (by have:=Cj tk i;omega) (by rw[Cm hx,BS] at hJ;rw[Nat.add_assoc,Nat.add_comm (BS _)];exact hJ) hK) (aw (we O) (aw (we O) (aw (we O) (aw (we O) (aw (we O) (Eg)))))) ?_ (fun _ _ h=>h.elim)))));rintro _ _ ⟨rfl,T1,hT1,rfl⟩;refine Ar A0 1 [] O (Av O (fun c4=>?_) (fun c4=>?_))
    ·(try simp only[sd,se] at c4);refine As A0 1 [] O (Az (⟨O,_,_,⟨_,_,O,O,O⟩,(GG [1,2,3] [_,_,_,_] O),?_⟩));rw[HC Ak,←hC,IF hx c4];rw[c4] at hT1;exact⟨O,_,hT1,O⟩
    (try simp only[sd,se] at c4);rw[c4] at hT1;refine A1 (A3 (Ar A0 2 [] O ?_));refine⟨⟨i+1,(EE st x (d+below tk i) q).1,T1⟩,AT,⟨by omega,⟨by rw[←hC];exact(KE hx Ak).symm,by rw[Cm hx,BS] at hJ;exact Ia hI x _ _ _ (by rw[Nat.add_assoc,Nat.add_comm (BS _)];exact hJ) Ak,by assumption⟩⟩,BY ⟨we rfl,we rfl,we rfl,we rfl,we rfl,we rfl,trivial⟩ (YE [1,2,3] [_,_,_,_] (l':=[_,_,_]) rfl (wl (oe rfl) (wl (oe rfl) (wl (oe rfl) (DO)))))⟩
   (try simp only[sd,se] at c2);refine Bh (As A0 1 [] O (Az (⟨O,_,_,⟨_,_,O,O,O⟩,(GG [0,1,2] [_,_,_] O),?_⟩)));rw[HC Ak,←hC,show i=ts.length by omega,List.drop_length];exact⟨O,_,hK,O⟩
  (try simp only[sd,se] at c1);have hbx:=Vh (k:=tk) An;refine A1 (Au (Aw (Ay A0 2 [0] O (Aq O (BM Bg O (BR _)) (Ar A0 1 [] O (A8 ?_))))));refine Be (α:=Nat×σ×List BD) (fun(i,q,U)=>⟨50,mk [(1,.p (I d)),(4,.ptr b4 0),(8,.p (I (-1))),(31,.p (.lst (BC ts))),(32,.p (I (ts.length:Nat))),(33,.p (I (i:Int)))],(.box b2 [.fn (.yield l) [] []]:: .box b3 Nx:: .box b4 [.fn (.func 114) [] [.ptr b2 0,.ptr b3 0,.ptr b4 0]]::U),[]⟩) (fun(i,q,U)=>ts.length - i) (fun(i,q,U)=>i≤ts.length∧(EF st tk d i q (ts.drop i)=EF st tk d 0 (st s d (.mk tk ti tn tl ts)).1 ts∧Inv (m+BS (ts.drop i)) q∧HP true q U)) ⟨0,(st s d (.mk tk ti tn tl ts)).1,T⟩ (⟨by omega,by simp,by simpa using hI _ _ _ _ (by rw[Nat.add_assoc,Nat.add_comm (BS ts)];exact h5),by assumption⟩) ?_ ?_
  ·exact BY ⟨we O,we O,we O,we O,we O,we O,Ap⟩ (YE [1,2,3] [_,_,_,_] (l':=[_,_,_]) O (wl (oe O) (wl (oe O) (wl (oe O) (DO)))))
  rintro⟨i,q,U⟩ hC
  try simp only at hC
  obtain⟨hi,hC,hJ,hK⟩:=hC;refine As A0 1 [] O (Au (Av O (fun c2=>?_) (fun c2=>?_)))
  ·(try simp only[sd,se] at c2);refine A1 (Au (A8 (Aw (Br O ?_))));obtain⟨x,hx⟩:=A6 (l:=ts) (i:=i) An;refine Aq O (A5 Bg O O An (Bd hx) (BB _)) (Aq O (BJ BQ O (BB _)) (BG O (A7 Bw O) fun b10=>Ar A0 2 [0,1] O (As A0 2 [] O (Au (As A0 3 [] O (Av O (fun c3=>?_) (fun c3=>?_)))))))
   ·(try simp only[sd,se] at c3);refine A3 (Ar A0 3 [] O (BN (Ct (t:=11) (x:= .p (I (d+below tk i))) (pI (by have:=VR (k:=tk) (i:=i) An An;omega))) (Aw (Ay A0 3 [3,0] O (Hd [_] O O O (.inr O) (ih x (d+below tk i) q _ (m+BS (ts.drop (i+1))) (by have:=Cb hx;omega) (DK h2.2.2.2.2.1 hx) (by have:=Cj tk i;omega) (by have:=Cj tk i;omega) (by rw[Cm hx,BS] at hJ;rw[Nat.add_assoc,Nat.add_comm (BS _)];exact hJ) hK) (aw (we O) (aw (we O) (aw (we O) (aw (we O) (aw (we O) (Eg)))))) ?_ (fun _ _ h=>h.elim))))));rintro _ _ ⟨rfl,T1,hT1,rfl⟩;refine Ar A0 1 [] O (Av O (fun c4=>?_) (fun c4=>?_))
    ·(try simp only[sd,se] at c4);refine As A0 1 [] O (Az (⟨O,_,_,⟨_,_,O,O,O⟩,(GG [1,2,3] [_,_,_,_] O),?_⟩));rw[HC Ak,←hC,IF hx c4];rw[c4] at hT1;exact⟨O,_,hT1,O⟩
    (try simp only[sd,se] at c4);rw[c4] at hT1;refine A1 (A3 (Ar A0 2 [] O ?_));refine⟨⟨i+1,(EE st x (d+below tk i) q).1,T1⟩,AT,⟨by omega,⟨by rw[←hC];exact(KE hx Ak).symm,by rw[Cm hx,BS] at hJ;exact Ia hI x _ _ _ (by rw[Nat.add_assoc,Nat.add_comm (BS _)];exact hJ) Ak,by assumption⟩⟩,BY ⟨we rfl,we rfl,we rfl,we rfl,we rfl,we rfl,trivial⟩ (YE [1,2,3] [_,_,_,_] (l':=[_,_,_]) rfl (wl (oe rfl) (wl (oe rfl) (wl (oe rfl) (DO)))))⟩
   (try simp only[sd,se] at c3);refine A1 (BN (Ct (t:=11) (x:= .p (I (d+below tk i))) (pI (by have:=R7 (k:=tk) (i:=i) An;omega))) (Aw (Ay A0 3 [3,0] O (Hd [_] O O O (.inr O) (ih x (d+below tk i) q _ (m+BS (ts.drop (i+1))) (by have:=Cb hx;omega) (DK h2.2.2.2.2.1 hx) (by have:=Cj tk i;omega) (by have:=Cj tk i;omega) (by rw[Cm hx,BS] at hJ;rw[Nat.add_assoc,Nat.add_comm (BS _)];exact hJ) hK) (aw (we O) (aw (we O) (aw (we O) (aw (we O) (aw (we O) (Eg)))))) ?_ (fun _ _ h=>h.elim)))));rintro _ _ ⟨rfl,T1,hT1,rfl⟩;refine Ar A0 1 [] O (Av O (fun c4=>?_) (fun c4=>?_))
   ·(try simp only[sd,se] at c4);refine As A0 1 [] O (Az (⟨O,_,_,⟨_,_,O,O,O⟩,(GG [1,2,3] [_,_,_,_] O),?_⟩));rw[HC Ak,←hC,IF hx c4];rw[c4] at hT1;exact⟨O,_,hT1,O⟩
   (try simp only[sd,se] at c4);rw[c4] at hT1;refine A1 (A3 (Ar A0 2 [] O ?_));refine⟨⟨i+1,(EE st x (d+below tk i) q).1,T1⟩,AT,⟨by omega,⟨by rw[←hC];exact(KE hx Ak).symm,by rw[Cm hx,BS] at hJ;exact Ia hI x _ _ _ (by rw[Nat.add_assoc,Nat.add_comm (BS _)];exact hJ) Ak,by assumption⟩⟩,BY ⟨we rfl,we rfl,we rfl,we rfl,we rfl,we rfl,trivial⟩ (YE [1,2,3] [_,_,_,_] (l':=[_,_,_]) rfl (wl (oe rfl) (wl (oe rfl) (wl (oe rfl) (DO)))))⟩
  (try simp only[sd,se] at c2);refine Bh (As A0 1 [] O (Az (⟨O,_,_,⟨_,_,O,O,O⟩,(GG [0,1,2] [_,_,_] O),?_⟩)));rw[HC Ak,←hC,show i=ts.length by omega,List.drop_length];exact⟨O,_,hK,O⟩
theorem kI:E4 Tryz.prog 113 [] (.agg Nx):=by
 refine A4 Tryz.func113 O lu (n:=15) O O (Aw (BG O (A7 aV O) fun b0=>Bf O (Aw (Ay A0 13 [] O (Aq O (D1 iP ij aV O) (Ar A0 1 [0,0] O (Az (⟨O,_,_,⟨_,_,O,(BE (i:=0) mM O O O),O⟩,(List.nil_sublist _),?_⟩))))))))
 all_goals exact⟨rfl,rfl⟩
theorem dy:∀(t:Tm),Bl Tryz.prog 82 [.agg ((BK t).map .p)] [] (fun r H'=>∃b,r= .val (.fn (.func 112) [] [.ptr b 0])∧H'=[.box b ((BK t).map .p)]):=by
 intro t;refine A4 Tryz.func82 O pV (n:=4) O O (Aw (BG O (BO O) fun b1=>Ar A0 1 [] O (As A0 2 [] O (Az (⟨O,_,_,⟨_,_,O,O,O⟩,(CH (is:=[0]) O),?_⟩)))));exact⟨_,O,O⟩
theorem eA:∀{σ:Type}(st:σ→Int→Tm→σ×Bool) (Inv:Nat→σ→Prop) (HP:Bool→σ→List BD→Prop) (l b1:Nat) (hI:∀m s d t,Inv (m+1) s→Inv m (st s d t).1) (hy:∀m s d t T,Nd t→Inv (m+1) s→HP true s T→Kz Tryz.prog l [.p (I d),TV t] T (Vr (.p (.bool (st s d t).2)) (HP (st s d t).2 (st s d t).1))) (t:Tm) (s:σ) (T0:List BD) (m:Nat),Nd t→size t<4611686018427387904→Inv (m+size t) s→HP true s T0→Bl Tryz.prog 112 [.fn (.yield l) [] [],.ptr b1 0] (.box b1 ((BK t).map .p)::T0) (Vr (.tup []) (fun H=>∃T,HP (EE st t 0 s).2 (EE st t 0 s).1 T∧H= .box b1 ((BK t).map .p)::T)):=by
 intro σ st Inv HP l b1 hI hy t s T0 m h1 h2 h3 h4;refine A4 Tryz.func112 O mP (n:=10) O O (Aw (BG O (BO O) fun b2=>Bf O (Aw (Aq O (BF O O (kI ) O) (BG O (A7 aV O) fun b3=>Ar A0 1 [0,0] O (Aw (BG O (A7 mz O) fun b4=>Bf O (As A0 2 [0,0] O (A3 (Ay A0 2 [0,3] O (K7 ((List.reverse_perm [_,_,_,_]).symm.append_right _) (Hd [_] O O O (.inr O) (gX st Inv HP l b2 b3 b4 hI hy _ t 0 s T0 m (Nat.le_refl _) h1 An An h3 h4) (aw (we O) (aw (we O) (aw (we O) (aw (we O) (aw (we O) (Eg)))))) ?_ (fun _ _ h=>h.elim)))))))))))));rintro _ _ ⟨rfl,T,hT,rfl⟩;refine Bf O ⟨O,_,_,O,(GG [0] [_,_,_,_] O),?_⟩;exact⟨O,_,hT,O⟩
theorem X4:∀(t:Tm),(Nd t)→(size t<1152921504606846976)→E4 Tryz.prog 45 [.agg ((BK t).map .p)] (.p (I (size t:Nat))):=by
 intro t h1 h2;refine E2 Tryz.func45 O oZ (n:=11) O O (Aw (BG O (BO O) fun b1=>Ar A0 1 [] O (Aw (BG O (A7 eM O) fun b3=>Ar A0 1 [0,0] O (Au (Aw (Aq O (BP (i:=1) BQ O O Ag) ?_)))))));refine dv [] O O O (.inl ⟨O,O,O⟩) (dy t) O Ao (aw (we O) Eg) ?_ (fun _ _ ⟨_,h,_⟩=>by cases h);rintro _ _ ⟨bn,h,rfl⟩;cases h;refine Bf O (A8 (QK (.inr O) fun dd l L hL=>⟨_,_,DA (is:=[2,0,3]) Am ⟨_,_,O,O,⟨_,_,O,O,⟨_,_,O,O,O⟩⟩⟩,?_⟩));have hy:∀(m:Nat) (s:Int) (d:Int) (t:Tm) (T:List BD),Nd t→(fun _ _=>True) (m+1) s→(fun(_:Bool) (s:Int) (T:List BD)=>T=[.loop l L,.box b3 [.p (I s)]]) true s T→Kz Tryz.prog l [.p (I d),TV t] T (Vr (.p (.bool (Wn s d t).2)) ((fun(_:Bool) (s:Int) (T:List BD)=>T=[.loop l L,.box b3 [.p (I s)]]) (Wn s d t).2 (Wn s d t).1)):=by
  rintro m s d tt T hnd hinv rfl;subst hL;refine S5 (i:=0) O O O O (A1 ⟨O,0,O,?_⟩);refine A8 (A3 (Aq O (B0 (i:=1) Df O O O) (Aq O (EX O O) (Ar A0 1 [1,0] O ⟨0,_,O,CH (is:=[0,1]) O,?_⟩))));exact⟨O,O⟩
 refine(eA Wn (fun _ _=>True) (fun(_:Bool) (s:Int) (T:List BD)=>T=[.loop l L,.box b3 [.p (I s)]]) l bn (fun _ _ _ _ _=>Ap) hy t 0 _ 0 (h1) An (Ap) O).mono ?_;rintro(v | v) H' hR
 rotate_left
 ·exact hR.elim
 obtain⟨rfl,_,rfl,rfl⟩:=hR;subst hL;refine⟨1,_,O,Ao,?_⟩;refine As A0 2 [1] O (Az (⟨2,O,_,_,⟨_,_,O,O,O⟩,(List.nil_sublist _),?_⟩))
 all_goals exact⟨pI (by rw[Uk 4611686018427387904 (Int.le_refl _) t 0 0 An An];simp),rfl⟩
theorem Up:∀(n:Nat) (t:Tm),(size t≤n)→(Nd t)→E4 Tryz.prog 46 [.agg ((BK t).map .p)] (.p (I (En t))):=by
 intro n
 induction n with
 | zero=>intro t h;cases t;simp[size] at h
 | succ n ih =>
  intro t h1 h2;obtain⟨tk,ti,tn,tl,ts⟩:=t;simp only[size] at h1;simp only[Nd,De] at h2;refine A4 Tryz.func46 O pd (n:=20) O O (Aw (BG O (BO O) fun b1=>Ar A0 1 [] O (As A0 1 [] O (Au (Aw (Ay A0 2 [0] O (Aq O (BM Bg O (BR _)) (Ar A0 1 [] O (A8 (Be (α:=Nat×Int) (fun(i,m)=>⟨20,mk [(3,.p (I m)),(7,.p (.lst (BC ts))),(8,.p (I (ts.length:Nat))),(9,.p (I (i:Int)))],[],[]⟩) (fun(i,m)=>ts.length - i) (fun(i,m)=>i≤ts.length∧(I3 m (ts.drop i)=I3 0 ts)) ⟨0,0⟩ Ao ?_ ?_))))))))))
  ·exact BY ⟨we O,we O,we O,we O,Ap⟩ (leH (is:=[]) O (DO))
  rintro⟨i,m⟩ hC
  try simp only at hC
  obtain⟨hi,hC⟩:=hC;refine As A0 1 [] O (Au (Av O (fun c=>?_) (fun c=>?_)))
  ·(try simp only[sd,se] at c);refine A1 (Au (A8 (Aw ?_)));obtain⟨x,hx⟩:=A6 (l:=ts) (i:=i) An;refine Aq O (A5 Bg O O An (Bd hx) (BB _)) (Aq O (BJ BQ O (BB _)) (BG O (A7 Bw O) fun b5=>Ar A0 1 [0,1] O (A3 (Ay A0 2 [0] O (Aq O (BF O O (ih x (by have:=Cb hx;omega) (DK h2.2.2.2.2.1 hx)) O) (Aq O (Iy O O) (Ar A0 1 [] O (A3 (Ar A0 2 [] O ?_)))))))));refine⟨⟨i+1,max m (En x)⟩,AT,⟨by omega,by rw[←hC,Cm hx];rfl⟩,BY ⟨we rfl,we rfl,we rfl,we rfl,trivial⟩ (leH (is:=[]) rfl (DO))⟩
  (try simp only[sd,se] at c);refine Bh (Aw (Br O (Aq O (EX O O) (Ar A0 1 [] O (Az (⟨O,_,_,⟨_,_,O,O,O⟩,(List.nil_sublist _),?_⟩))))))
  all_goals exact⟨pI (by rw[show En (.mk tk ti tn tl ts)=wr (I3 0 ts+1) from rfl,←hC,show i=ts.length by omega,List.drop_length];rfl),rfl⟩
theorem Dz:∀(f:Tm) (xs:List Tm),(xs.length<De)→E4 Tryz.prog 73 [.agg ((BK f).map .p),.p (.lst (BC xs))] (.agg ((BK (apply f xs)).map .p)):=by
 intro f xs h1;simp only[De] at h1;refine A4 Tryz.func73 O pc (n:=19) O O (Aw (BG O (BO O) fun b2=>BG O (A7 Bw O) fun b4=>Bf O (Au (Aw (Br O (Aq O (BM Bg O (BR _)) (Ar A0 1 [] O (A8 (Be (α:=Nat) (fun i=>⟨19,mk [(2,.ptr b2 0),(4,.ptr b4 0),(7,.p (.lst (BC xs))),(8,.p (I (xs.length:Nat))),(9,.p (I (i:Int)))],[.box b4 [.p (I 0),.p (I 0),.p (.str ⟨#[]⟩),.p (.nils),.p (.nils)],.box b2 ((BK (apply f (xs.take i))).map .p)],[]⟩) (fun i=>xs.length - i) (fun i=>i≤xs.length) 0 AO ?_ ?_)))))))))
 ·exact BY ⟨we O,we O,we O,we O,we O,Ap⟩ (leH (is:=[0,1]) O (wl (oe O) (wl (oe O) (DO))))
 rintro i hC
 try simp only at hC
 have hi:=hC;refine As A0 1 [] O (Au (Av O (fun c=>?_) (fun c=>?_)))
 ·(try simp only[sd,se] at c);refine A1 (Au (A8 (Aw ?_)));obtain⟨x,hx⟩:=A6 (l:=xs) (i:=i) An;refine Aq O (A5 Bg O O An (Bd hx) (BB _)) (Aq O (BJ BQ O (BB _)) (BG O (A7 Bw O) fun b6=>Ar A0 1 [0,1] O (A3 (Ay A0 2 [2,0] O ?_))));generalize hz:(apply f (xs.take i))=z;obtain⟨zk,zi,zn,zl,zs⟩:=z;obtain⟨xk,xi,xn,xl,xs1⟩:=x;refine Aq O (Bx Bg Bw O O O O O) (Ar A0 2 [2,0] O (A3 (Ar A0 2 [] O ?_)));refine⟨(i+1),AT,by omega,BY ⟨we rfl,we rfl,we rfl,we rfl,we rfl,trivial⟩ (leH (is:=[1,2]) rfl (wl (oe rfl) (wl (on (by rw[Qz hx,hz];rfl)) (DO))))⟩
 (try simp only[sd,se] at c);refine Bh (As A0 2 [1,0,1] O (Az (⟨O,_,_,⟨_,_,O,(BE (i:=0) BQ O O Ag),O⟩,(List.nil_sublist _),?_⟩)))
 all_goals exact⟨by show (.agg ((BK (apply f (xs.take i))).map .p):AV)=_;rw[show i=xs.length by omega,List.take_length],rfl⟩
theorem _root_.Go.AK {α:Prop}(h:α:=by simp only[BR,List.length_map,List.length_set];omega):α:=h
theorem _root_.Go.AX {α:Prop}(h:α:=by simp only[BR];omega):α:=h
theorem _root_.Go.AY {α:Prop}(h:α:=by simp[BR];omega):α:=h
theorem dq:∀(xs:List Tm) (o0:Option Nat) (c0:Nat),(xs.length<De)→Bl Tryz.prog 98 [.vs o0 (BC xs).length c0] [.vec o0 5 (BC xs) c0] (G5 (.tup []) [.vec o0 5 (BC xs.reverse) c0]):=by
 intro xs o0 c0 h1;simp only[De] at h1;refine A4 Tryz.func98 O p9 (n:=28) O O (Aw (Br O (Aq O (Ns Bg O (BR _)) (Ar A0 3 [] O (A8 (Be (α:=Nat×List Tm×Option Nat×Nat) (fun(i,ys,o,cp)=>⟨28,mk [(0,.vs o (BC ys).length cp),(2,.p (I (i:Int))),(3,.p (I ((xs.length:Int) - 1 - (i:Int))))],[.vec o 5 (BC ys) cp],[]⟩) (fun(i,ys,o,cp)=>xs.length - i) (fun(i,ys,o,cp)=>i≤xs.length∧VN xs ys i∧o=o0∧cp=c0) ⟨0,xs,o0,c0⟩ (⟨by omega,WA xs,rfl,rfl⟩) ?_ ?_))))))
 ·exact BY ⟨we O,we O,we (pI An),Ap⟩ (leH (is:=[0]) O (wl (oe O) (DO)))
 rintro⟨i,ys,o,cp⟩ hC
 try simp only at hC
 obtain⟨hi,hR,ho,hcp⟩:=hC;have hyl:=hR.1;have hjn:((xs.length:Int) - 1 - (i:Int)).toNat=xs.length - 1 - i:=by omega
 refine Au (As A0 3 [] O (Av O (fun c=>?_) (fun c=>?_)))
 ·(try simp only[sd,se] at c);refine A1 (Au (A8 (Ks (i:=0) O AY fun b hb=>?_)));subst hb;refine B6 (fun k=>false) EO (Bb A0 6 [] O (BL O (fun _=>Cn Bg O O An AX) Ap ?_));obtain⟨y,hy⟩:=A6 (l:=ys) (i:=((xs.length:Int) - 1 - (i:Int):Int).toNat) An;refine Cc (j:=0) O O O (fun H i hi=>Eb (i:=i) BQ O hi (Bd hy)) AB Ap (Bb A0 2 [] O (BL O (fun _=>Cn Bg O O An AX) Ap ?_));obtain⟨y1,hy1⟩:=A6 (l:=ys) (i:=i) An;refine Cc (j:=0) O O O (fun H i hi=>Eb (i:=i) BQ O hi (Bd hy1)) AB Ap (BL O (fun _=>Cn Bg O O An AX) Ap (Hu O O (D5 (i:=0) (j:=i) BQ O O O AK O (JW _) (BB _) (FT _) (R2 ys i y)) AB Ap (BL O (fun _=>Cn Bg O O An AX) Ap (Hu O O (D5 (i:=0) (j:=(((xs.length:Int) - 1 - (i:Int):Int).toNat)) BQ O O O AK O (JW _) (BB _) (FT _) (R2 ((ys).set i y) (((xs.length:Int) - 1 - (i:Int):Int).toNat) y1)) AB Ap (IX O Aj (A3 (Ar A0 6 [] O ?_)))))));refine⟨⟨i+1,(ys.set i y).set (xs.length - 1 - i) y1,(some b),cp⟩,AT,⟨by omega,Wo hR An hy1 (hjn▸hy),ho,hcp⟩,BY ⟨we (C5 ys Ao),we rfl,we (pI An),trivial⟩ (leH (is:=[0]) rfl (wl (Mm (((ys).set i y).set (((xs.length:Int) - 1 - (i:Int):Int).toNat) y1) (by rw[hjn])) (DO)))⟩
 (try simp only[sd,se] at c);refine Bh ⟨O,_,_,O,(CH (is:=[0]) O),?_⟩;refine⟨O,?_⟩;show ([.vec o 5 (BC ys) cp]:List BD)=_;rw[Wi hR An,ho,hcp]
theorem _root_.Go.AZ {α:Prop}(h:α:=by simp only[De];omega):α:=h
theorem Km:∀(t:Tm),(Nd t)→(size t<De)→E4 Tryz.prog 72 [.agg ((BK t).map .p)] (.tup [.agg ((BK ((A9 t).1)).map .p),.p (.lst (BC ((A9 t).2)))]):=by
 intro t h1 h2;simp only[De] at h2;refine A4 Tryz.func72 O ot (n:=29) O O (Aw (BG O (BO O) fun b1=>BG O (A7 Bw O) fun b2=>Ar A0 1 [] O (As A0 1 [] O (Au (A8 (BN (Fo (t:=4) (sz:=5) O) ?_))))));refine Be (α:=Tm×List Tm×Option Nat×Nat) (fun(tt,ys,o,cp)=>⟨29,mk [(1,.ptr b1 0),(2,.ptr b2 0),(4,.vs o (BC ys).length cp)],[.vec o 5 (BC ys) cp,.box b2 [.p (I 0),.p (I 0),.p (.str ⟨#[]⟩),.p (.nils),.p (.nils)],.box b1 ((BK tt).map .p)],[]⟩) (fun(tt,ys,o,cp)=>size tt) (fun(tt,ys,o,cp)=>A9 t=((A9 tt).1,(A9 tt).2++ys.reverse)∧Nd tt∧size tt+ys.length≤size t) ⟨t,[],none,0⟩ (⟨by simp,h1,by simp⟩) ?_ ?_
 ·exact BY ⟨we O,we O,we O,Ap⟩ (leH (is:=[0,1,2]) O (wl (oe O) (wl (oe O) (wl (oe O) (DO)))))
 rintro⟨tt,ys,o,cp⟩ hC
 try simp only at hC
 obtain⟨hS,hN,hL⟩:=hC;refine Au (Au ?_);obtain⟨ttk,tti,ttn,ttl,tts⟩:=tt;simp only[size] at hL;refine BU [1,2,4] 13 (fun y=>y= .p (.bool (((ttk:Int)==(4:Int))&&(((tts.length:Nat):Int)==(2:Int))))) ?_ ?_
 ·refine A3 (Ay A0 4 [2] O (BI 8 O (fun g=>?_) (fun g=>?_)))
  ·(try simp only[sd,se] at g);exact Ay A0 2 [2] O (BA O (BM Bg O (BR _)) (Ar A0 2 [] O (⟨O,O,AJ,AH,⟨O,O,O,Ap⟩⟩)))
  (try simp only[sd,se] at g);exact Ar A0 5 [] O (⟨O,O,AJ,AH,⟨O,O,O,Ap⟩⟩)
 rintro _ rfl;refine Av O (fun c=>?_) (fun c=>?_)
 ·(try simp only[sd,se] at c);refine A1 (A8 (Aw (Ay A0 3 [2] O ?_)));obtain⟨x,hx⟩:=A6 (l:=tts) (i:=1) An;refine Aq O (A5 Bg O O An (Bd hx) (BB _)) (Aq O (BJ BQ O (BB _)) ?_);obtain⟨xk,xi,xn,xl,xs⟩:=x;refine Aq O (Bx Bg Bw O O O O O) (Ih O O (Cs (i:=0) (rows':=BC [(.mk xk xi xn xl xs:Tm)]) Bg Bg Bw O O O O O O (Bu _) AD (Nl ys [(.mk xk xi xn xl xs:Tm)])) fun o1 cp1=>Ar A0 1 [] O (A3 (Ay A0 2 [2] O ?_)));obtain⟨x1,hx1⟩:=A6 (l:=tts) (i:=0) An;refine Aq O (A5 Bg O O An (Bd hx1) (BB _)) (Ar A0 2 [2,1] O ?_);refine⟨⟨x1,ys++[.mk xk xi xn xl xs],o1,cp1⟩,(by have:=Cb hx1;simp only[size];omega),⟨by rw[hS,Y0 c hx1 hx];simp,DK hN.2.2.2.2.1 hx1,by have:=Cb hx1;simp;omega⟩,BY ⟨we rfl,we rfl,we rfl,trivial⟩ (leH (is:=[0,1,2]) rfl (wl (oe rfl) (wl (oe rfl) (wl (oe rfl) (DO)))))⟩
 (try simp only[sd,se] at c);refine Bh (Aw (Br O (Aq O (CW [0] O (.inl ⟨O,O,O⟩) (dq ys o cp AZ) ⟨_,_,O,O,O⟩ Am O (.inl O)) (Bf O (As A0 4 [2,1,0] O (BN (Ct (t:=4) (x:= .vs o (BC ys.reverse).length cp) (C5 ys (l':=ys.reverse) Ao)) (BN (Ct (t:=25) (x:= .vs o (BC ys.reverse).length cp) (C5 ys (l':=ys.reverse) Ao)) (BN (Ct (t:=28) (x:= .vs o (BC ys.reverse).length cp) (C5 ys (l':=ys.reverse) Ao)) (BN (Ct (t:=3) (x:= .vs o (BC ys.reverse).length cp) (C5 ys (l':=ys.reverse) Ao)) (BN (Cw (i:=0) [4,25,28,3] O (Eh ⟨O,O,O,O,Ap⟩)) (Az (⟨O,_,_,⟨_,_,O,(BE (i:=0) BQ O O O),⟨_,_,O,O,O⟩⟩,(List.nil_sublist _),?_⟩))))))))))));rw[hS,P9 (Classical.or_iff_not_imp_left.2 fun h=>by simp at h;exact fun e=>absurd (c h) (by simp[e]))]
 all_goals exact⟨rfl,rfl⟩
theorem Po:∀(e:Int),Bl Tryz.prog 174 [.p (I e)] [] (Tu (.p (.iface 223 (I e))) []):=by
 intro e;exact A4 Tryz.func174 O ly (n:=4) O O (A3 (Br O (Aq O (Ra iW (by intro ms h;cases h) O) (NT O O (LZ O) (⟨O,_,List.nil_sublist _,⟨O,O⟩⟩)))))
theorem SV:∀(e:Int),E4 Tryz.prog 154 [.p (.iface 223 (I e))] (.p (I e)):=by
 intro e;refine A4 Tryz.func154 O nW (n:=14) O O (As A0 1 [] O (Aw (Br O (Aq O (P7 iW O O) (Ar A0 5 [] O (Au (As A0 2 [] O ?_)))))));refine Av O (fun c=>by cases c) (fun c=>?_);refine A1 (As A0 2 [] O (Az (⟨O,_,_,⟨_,_,O,O,O⟩,(List.nil_sublist _),?_⟩)))
 all_goals exact⟨rfl,rfl⟩
theorem dr:∀(k i:Int),E4 Tryz.prog 175 [.p (I k),.p (I i)] (.p (I (below k i))):=by
 intro k i;refine A4 Tryz.func175 O m4 (n:=26) O O (As A0 1 [] O (Au (A8 (Au (Au (BU [0,1] 5 (fun y=>y= .p (.bool (((i:Int)==(1:Int))&&((((k:Int)==(5:Int))||((k:Int)==(6:Int)))||((k:Int)==(7:Int)))))) ?_ ?_))))))
 ·refine A3 (Ay A0 3 [] O (BI 8 O (fun g=>?_) (fun g=>?_)))
  ·(try simp only[sd,se] at g);refine Ay A0 3 [] O (BI 11 O (fun g1=>?_) (fun g1=>?_))
   ·(try simp only[sd,se] at g1);exact Ar A0 9 [] O (⟨O,O,AJ,AH,⟨O,O,Ap⟩⟩)
   (try simp only[sd,se] at g1);refine Ay A0 4 [] O (BI 15 O (fun g2=>?_) (fun g2=>?_))
   ·(try simp only[sd,se] at g2);exact Ar A0 5 [] O (⟨O,O,AJ,AH,⟨O,O,Ap⟩⟩)
   (try simp only[sd,se] at g2);exact Ar A0 5 [] O (⟨O,O,AJ,AH,⟨O,O,Ap⟩⟩)
  (try simp only[sd,se] at g);exact Ar A0 12 [] O (⟨O,O,AJ,AH,⟨O,O,Ap⟩⟩)
 rintro _ rfl;refine Av O (fun c=>?_) (fun c=>?_)
 ·(try simp only[sd,se] at c);refine A1 (Av O (fun c1=>?_) (fun c1=>?_))
  ·(try simp only[sd,se] at c1);refine As A0 1 [] O (Az (⟨O,_,_,⟨_,_,O,O,O⟩,(List.nil_sublist _),?_⟩))
   all_goals exact⟨pI (by unfold below;simp_all),rfl⟩
  (try simp only[sd,se] at c1);refine A1 (As A0 1 [] O (Az (⟨O,_,_,⟨_,_,O,O,O⟩,(List.nil_sublist _),?_⟩)))
  all_goals exact⟨pI (by unfold below;simp_all),rfl⟩
 (try simp only[sd,se] at c);refine BU [] 5 (fun y=>y= .p (.bool (((i:Int)==(2:Int))&&((k:Int)==(11:Int))))) ?_ ?_
 ·refine A3 (Ay A0 3 [] O (BI 22 O (fun g=>?_) (fun g=>?_)))
  ·(try simp only[sd,se] at g);exact Ar A0 4 [] O ⟨O,O,AJ,AH,Ap⟩
  (try simp only[sd,se] at g);exact Ar A0 4 [] O ⟨O,O,AJ,AH,Ap⟩
 rintro _ rfl;refine Av O (fun c1=>?_) (fun c1=>?_)
 ·(try simp only[sd,se] at c1);refine As A0 1 [] O (Az (⟨O,_,_,⟨_,_,O,O,O⟩,(List.nil_sublist _),?_⟩))
  all_goals exact⟨pI (by unfold below;simp_all),rfl⟩
 (try simp only[sd,se] at c1);refine A1 (As A0 1 [] O (Az (⟨O,_,_,⟨_,_,O,O,O⟩,(List.nil_sublist _),?_⟩)))
 all_goals exact⟨pI (by unfold below;simp_all),rfl⟩
theorem VS:∀(i:Int),Bl Tryz.prog 163 [.p (I i)] [] (J5 (fun(r:Tm)=>TV r) (fun e=> .p (.iface 223 (I e))) (fun r H'=>H'=[]) (H7 i)):=by
 intro i;refine A4 Tryz.func163 O ki (n:=8) O O (Aw (BG O (A7 Bw O) fun b2=>Bf O (Au (As A0 2 [] O (Av O (fun c=>?_) (fun c=>?_))))))
 ·(try simp only[sd,se] at c);refine A3 (NM O O O (.inl ⟨O,O,O⟩) (Po 24) (aw (we O) (Eg)) ?_);exact⟨O,_,List.nil_sublist _,⟨_,by unfold H7;rw[if_pos An],rfl⟩⟩
 (try simp only[sd,se] at c);refine A1 (As A0 3 [0,0] O (BN (Bc (i:=0) O) (Az (⟨O,_,_,⟨_,_,O,(BE (i:=0) BQ O O O),O⟩,(List.nil_sublist _),?_⟩))));exact⟨(.mk 0 i ⟨#[]⟩ [] []:Tm),by unfold H7;rw[if_neg An];rfl,rfl,rfl⟩
theorem aZ:∀(bc:Nat) (n m:Int),Bl Tryz.prog 157 [.ptr bc 0,.p (I m)] [.box bc [.p (I n)]] (J5 (fun(r:Int)=> .tup []) (fun e=> .p (.iface 223 (I e))) (fun r H'=>H'=[.box bc [.p (I r)]]) (Ua n m)):=by
 intro bc n m;refine A4 Tryz.func157 O m5 (n:=18) O O (Aw (Ay A0 5 [0] O (Aq O (EX O O) (Ar A0 3 [0,0] O (As A0 5 [0] O (Av O (fun c=>?_) (fun c=>?_)))))))
 ·(try simp only[sd,se] at c);refine A3 (NM O O O (.inl ⟨O,O,O⟩) (Po 5) (aw (we O) (Eg)) ?_);exact⟨O,_,List.nil_sublist _,⟨_,by unfold Ua;rw[if_pos An],rfl⟩⟩
 (try simp only[sd,se] at c);refine A1 ⟨O,_,_,O,(CH (is:=[0]) O),?_⟩;exact⟨(wr (n+m)),by unfold Ua;rw[if_neg An],rfl,rfl⟩
theorem _root_.Go.AI {α:Prop}(h:α:=by simp only[List.length_map,List.length_take,List.length_cons,List.length_nil];omega):α:=h
theorem P1:∀(t:Tm),(Nd t)→E4 Tryz.prog 162 [.agg ((BK t).map .p)] (.agg ((BK (OT t)).map .p)):=by
 intro t h1;obtain⟨tk,ti,tn,tl,ts⟩:=t;simp only[Nd,De] at h1;refine A4 Tryz.func162 O iQ (n:=33) O O (Aw (BG O (BO O) fun b1=>BG O (A7 Bw O) fun b2=>Bf O (Aw (Ay A0 7 [1,1,1] O (BG O (A7 Bw O) fun b3=>Ar A0 1 [0,0] O (Au (Aw (CD (Ll (i:=0) O (eG (aw (we O) (aw (we O) (aw (we O) (aw (OV) (aw (we O) (Eg)))))))) (CD (MS (sz:=2)) (Ay A0 2 [3] O (Aq O (BM FQ O (List.length_map _)) (Ar A0 1 [] O (A8 ?_)))))))))))));refine Be (α:=Nat×Option Nat×Nat) (fun(i,o,cp)=>⟨33,mk [(2,.ptr b2 0),(3,.ptr b3 0),(14,.p (.lst (List.map B5 tl))),(15,.p (I (tl.length:Nat))),(16,.p (I (i:Int)))],[.vec o 2 (List.map B5 (tl.take i)) cp,.box b3 [.p (I tk),.p (I ti),.p (.str tn),.vs o (List.map B5 (tl.take i)).length cp,.p (.nils)],.box b2 [.p (I 0),.p (I 0),.p (.str ⟨#[]⟩),.p (.nils),.p (.nils)]],[]⟩) (fun(i,o,cp)=>tl.length - i) (fun(i,o,cp)=>i≤tl.length) ⟨0,none,0⟩ AO ?_ ?_
 ·exact BY ⟨we O,we O,we O,we O,we O,Ap⟩ (leH (is:=[0,1,2]) O (wl (oe O) (wl (oe O) (wl (oe O) (DO)))))
 rintro⟨i,o,cp⟩ hC
 try simp only at hC
 have hi:=hC;refine As A0 1 [] O (Au (Av O (fun c=>?_) (fun c=>?_)))
 ·(try simp only[sd,se] at c);refine A1 (Au (A8 (Aw ?_)));obtain⟨x,hx⟩:=A6 (l:=tl) (i:=i) An;refine Aq O (A5 FQ O O An (G3 hx) (Dx _)) (Aq O (BJ FW O (Dx _)) (BG O (A7 Hi O) fun b5=>Ar A0 1 [0,0] O (B6 (fun k=>Nat.beq k 9) EO (Bb A0 6 [2,0,0] O (BL O (fun _=>LA (rows':=List.map Ge x.vars) D4 D4 L5 O O (fun _ _ _ h=>TL h) O (ME _) (by have:=h1.2.2.1 x (List.mem_of_getElem? hx);have:=this.1;simp only[De] at this;simp only[List.length_map];omega)) Ap (BL O (fun _=>CJ cO Hi O) Ap (BL O (fun _=>Bx FQ Hi O O O O O) Ap (OO [] O O (Cs (i:=1) (rows':=List.map B5 [(CX.mk x.const x.vars)]) FQ FQ Hi O O O O O O (S6 _) AI (JL (f:=B5) (tl.take i) [(CX.mk x.const x.vars)])) Aj fun o1 cp1=>⟨AB,Ap,?_⟩))))))));refine B4 A0 2 [2,0] O (A3 (Ar A0 2 [] O ?_));refine⟨⟨i+1,o1,cp1⟩,AT,by omega,BY ⟨we rfl,we rfl,we rfl,we rfl,we rfl,trivial⟩ (leH (is:=[1,2,3]) rfl (wl (Fl (f:=B5) (tl.take i++[(CX.mk x.const x.vars)]) (by rw[List.take_add_one,hx];rfl)) (wl (eG (aw (we rfl) (aw (we rfl) (aw (we rfl) (aw (we (G2 (f:=B5) (tl.take i++[(CX.mk x.const x.vars)]) (by rw[List.take_add_one,hx];rfl))) (aw (we rfl) (Eg))))))) (wl (oe rfl) (DO)))))⟩
 (try simp only[sd,se] at c);refine Bh (Aw (CD (Ec (i:=0) (j:=1) (q:=3) [] O O O (Eh Ap)) (Ar A0 2 [0,1,0] O (BN (Bc (i:=1) O) (Az (⟨O,_,_,⟨_,_,O,(BE (i:=1) BQ O O O),O⟩,(List.nil_sublist _),?_⟩))))))
 all_goals exact⟨by show (.agg [.p (I tk),.p (I ti),.p (.str tn),.p (.lst (List.map B5 (tl.take i))),.p (.lst [])]:AV)=_;rw[show i=tl.length by omega,List.take_length];rfl,rfl⟩
theorem NU:∀{σ:Type}(vis:σ→Tm→Int→Except Int ((Tm×Bool)×σ)) (HP:σ→List BD→Prop) (fid:Nat) (caps:List AV) (hv:∀(s:σ) (t:Tm) (d:Int) (T:List BD),Nd t→Vp t→0≤d→d<De→HP s T→Bl Tryz.prog fid ([TV t,.p (I d)]++caps) T (J5 (fun(r:(Tm×Bool)×σ)=> .tup [TV r.1.1,.p (.bool r.1.2)]) (fun e=> .p (.iface 223 (I e))) (fun r=>HP r.2) (vis s t d))) (n:Nat) (t:Tm) (d:Int) (s:σ) (T0:List BD),size t≤n→Nd t→Vp t→0≤d→d+size t<De→HP s T0→Bl Tryz.prog 158 [.agg [.fn (.func fid) [] caps],TV t,.p (I d)] T0 (J5 (fun(r:Tm×σ)=>TV r.1) (fun e=> .p (.iface 223 (I e))) (fun r=>HP r.2) (Di vis t d s)):=by
 intro σ vis HP fid caps hv n
 induction n with
 | zero=>intro t d s T0 h1;exact absurd h1 (by have:=size_pos t;omega)
 | succ n ih =>
  intro t d s T0 h1 h2 h3 h4 h5 h6;simp only[De] at h5;refine A4 Tryz.func158 O mD (n:=54) O O (Aw (BG O (BO O) fun b3=>BG O (BO O) fun b4=>BG O (A7 Bw O) fun b6=>Bf O (Aw (Ay A0 4 [2,1] O (ig [_,_,_] O O O (.inr O) (hv s t d T0 h2 h3 h4 (by simp only[De];have:=size_pos t;omega) h6) (DD _) ?_ ?_)))))
  rotate_left
  ·intro e _ he;exact⟨O,_,List.nil_sublist _,⟨_,HM he,O⟩⟩
  rintro⟨⟨z,dn⟩,q⟩ T hz hT;refine Ay A0 3 [] O (BG O (A7 Bw O) fun b7=>Ar A0 2 [0,1] O (Au (As A0 1 [] O (Av O (fun c=>?_) (fun c=>?_)))))
  ·(try simp only[sd,se] at c);refine As A0 2 [0,1,1] O (Az (⟨O,_,_,⟨_,_,O,(BE (i:=1) BQ O O Ag),O⟩,(GG [] [_,_,_,_] O),?_⟩));exact⟨⟨z,q⟩,Fa (by rw[hz,c]),O,hT⟩
  (try simp only[sd,se] at c);refine A1 (Aw (Aq O (Ax Gi O O) ?_));obtain⟨zk,zi,zn,zl,zs⟩:=z;refine Ar A0 1 [0,0] O (Au (Aw (Aq O (Ax Gi O O) ?_)));obtain⟨tk,ti,tn,tl,ts⟩:=t;simp only[size] at h1 h5;have hn2:=h2;simp only[Nd,De] at hn2;refine Aq O (B0 (i:=2) GY O O O) (Aq O (BM Bg O (BR _)) (Ar A0 1 [] O (Av O (fun c1=>?_) (fun c1=>?_))))
  ·(try simp only[sd,se] at c1);refine Aw (Ay A0 2 [2] O (Aq O (BM Bg O (BR _)) (QW O O (LM Bg Bw O O Am O O O An An An (nk (((ts.length:Nat):Int).toNat) (.mk 0 0 ⟨#[]⟩ [] []:Tm))) fun b29 cp=>Ar A0 2 [1,0] O (Aw (Ay A0 2 [3] O (Aq O (BM Bg O (BR _)) (Ar A0 1 [] O (A8 ?_))))))));refine Be (α:=Nat×List Tm×σ×List BD×Option Nat×Nat) (fun(i,ys,q1,U,o,cp1)=>⟨54,mk [(2,.p (I d)),(3,.ptr b3 0),(4,.ptr b4 0),(6,.ptr b6 0),(7,.ptr b7 0),(32,.p (.lst (BC ts))),(33,.p (I (ts.length:Nat))),(34,.p (I (i:Int)))],(.vec o 5 (BC (ys++List.replicate (ts.length - i) BZ)) cp1:: .box b7 [.p (I zk),.p (I zi),.p (.str zn),.p (.lst (List.map B5 zl)),.vs o (BC (ys++List.replicate (ts.length - i) BZ)).length cp1]:: .box b6 [.p (I 0),.p (I 0),.p (.str ⟨#[]⟩),.p (.nils),.p (.nils)]:: .box b4 [.p (I tk),.p (I ti),.p (.str tn),.p (.lst (List.map B5 tl)),.p (.lst (BC ts))]:: .box b3 [.fn (.func fid) [] caps]::U),[]⟩) (fun(i,ys,q1,U,o,cp1)=>ts.length - i) (fun(i,ys,q1,U,o,cp1)=>i≤ts.length∧(QD vis tk ts d q i ys q1∧HP q1 U)) ⟨0,[],q,T,(some b29),cp⟩ (⟨by omega,QD.zero _ _ _ _,hT⟩) ?_ ?_
   ·exact BY ⟨we O,we O,we O,we O,we O,we O,we O,we O,Ap⟩ (YE [0,1,2,3,4] [_,_,_,_,_] (l':=[_,_,_,_,_]) O (wl (oe O) (wl (oe O) (wl (oe O) (wl (oe O) (wl (oe O) (DO)))))))
   rintro⟨i,ys,q1,U,o,cp1⟩ hC
   try simp only at hC
   obtain⟨hi,hB,hU⟩:=hC;have hbl:=Cj tk i;refine As A0 1 [] O (Au (Av O (fun c2=>?_) (fun c2=>?_)))
   ·(try simp only[sd,se] at c2);refine A1 (Au (A8 (Aw (Br O ?_))));obtain⟨x,hx⟩:=A6 (l:=ts) (i:=i) An;refine Aq O (A5 Bg O O An (Bd hx) (BB _)) (Aq O (BJ BQ O (BB _)) (BG O (A7 Bw O) fun b10=>Ar A0 2 [0,1] O (Ks (i:=1) O AY fun b hb=>?_)));subst hb;refine B6 (fun k=>Nat.beq k 11) EO (Bb A0 9 [2,5,0,4] O (BL O (fun _=>BF O O (dr tk (i:Int)) O) Ap (Bb A0 1 [] O (kx [_,_,_,_,_,_] O O O (.inl ⟨O,O,O⟩) (ih x (d+below tk i) q1 U (by have:=Cb hx;omega) (DK h2.2.2.2.2.1 hx) (LP h3.2 hx) (by have:=(Cj tk i).1;omega) (by have:=Cb hx;have:=Cj tk i;simp only[De];omega) hU) (DD _) Aj Aj O AB ?_ ?_))))
    rotate_left
    ·intro e he _ _ hτ;exact⟨O,_,List.nil_sublist _,⟨_,JC (by rw[hz,c]) (hB.err hx he),O⟩⟩
    rintro⟨y,q2⟩ T1 hz1 hT1;refine⟨AB,Ap,?_⟩;refine BL O (fun _=>Cn Bg O O An (by simp only[BR,List.length_append,List.length_replicate,hB.1];omega)) Ap (Hu O O (D5 (i:=1) (j:=i) BQ O O O (by simp only[BR,List.length_append,List.length_replicate,hB.1];omega) O (JW _) (BB _) (FT _) (R2 (ys++List.replicate (ts.length - i) BZ) i y)) AB Ap (IX O Aj (A3 (Ar A0 2 [] O ?_))));refine⟨⟨i+1,ys++[y],q2,T1,(some b),cp1⟩,AT,⟨by omega,⟨hB.succ hx hz1,hT1⟩⟩,BY ⟨we rfl,we rfl,we rfl,we rfl,we rfl,we rfl,we rfl,we rfl,trivial⟩ (YE [1,2,3,4,5] [_,_,_,_,_,_] (l':=[_,_,_,_,_]) rfl (wl (Mm ((ys++List.replicate (ts.length - i) BZ).set i y) (by rw[dM hB.1 An];congr 2)) (wl (eG (aw (we rfl) (aw (we rfl) (aw (we rfl) (aw (we rfl) (aw (we (C5 (ys++List.replicate (ts.length - i) BZ) Ai)) (Eg))))))) (wl (oe rfl) (wl (oe rfl) (wl (oe rfl) (DO)))))))⟩
   (try simp only[sd,se] at c2);refine Bh (Aw (CD (Ec (i:=0) (j:=1) (q:=4) [] O O O (Eh Ap)) (Ar A0 2 [0,1,0] O (Az (⟨O,_,_,⟨_,_,O,(BE (i:=1) BQ O O O),O⟩,(GG [] [_,_,_,_] O),?_⟩)))));rw[show ts.length - i=0 by omega,List.replicate_zero,List.append_nil];exact⟨⟨.mk zk zi zn zl ys,q1⟩,HY (by rw[hz,c]) (hB.fin An),O,hU⟩
  (try simp only[sd,se] at c1);refine A1 (As A0 2 [0,1,0] O (BN (Bc (i:=1) O) (Az (⟨O,_,_,⟨_,_,O,(BE (i:=1) BQ O O O),O⟩,(GG [] [_,_,_,_] O),?_⟩))));exact⟨⟨.mk zk zi zn zl [],q⟩,HY (o:= .mk zk zi zn zl zs) (q:=q) (ys:=[]) (by rw[hz,c]) (by rw[show ts=[] by (cases ts with | nil=>rfl | cons a b=>simp at c1;omega)];rfl),O,hT⟩
theorem eB:∀(t:Tm),(Nd t)→Bl Tryz.prog 162 [.agg ((BK t).map .p)] [] (gQ (fun p:Option Nat×Nat=> .agg [.p (I t.kind),.p (I t.index),.p (.str t.name),.vs p.1 (List.map B5 t.levels).length p.2,.p (.lst [])]) (fun p=>[.vec p.1 2 (List.map B5 t.levels) p.2])):=by
 intro t h1;obtain⟨tk,ti,tn,tl,ts⟩:=t;simp only[Nd,De] at h1;refine A4 Tryz.func162 O iQ (n:=33) O O (Aw (BG O (BO O) fun b1=>BG O (A7 Bw O) fun b2=>Bf O (Aw (Ay A0 7 [1,1,1] O (BG O (A7 Bw O) fun b3=>Ar A0 1 [0,0] O (Au (Aw (CD (Ll (i:=0) O (eG (aw (we O) (aw (we O) (aw (we O) (aw (OV) (aw (we O) (Eg)))))))) (CD (MS (sz:=2)) (Ay A0 2 [3] O (Aq O (BM FQ O (List.length_map _)) (Ar A0 1 [] O (A8 ?_)))))))))))));refine Be (α:=Nat×Option Nat×Nat) (fun(i,o,cp)=>⟨33,mk [(2,.ptr b2 0),(3,.ptr b3 0),(14,.p (.lst (List.map B5 tl))),(15,.p (I (tl.length:Nat))),(16,.p (I (i:Int)))],[.vec o 2 (List.map B5 (tl.take i)) cp,.box b3 [.p (I tk),.p (I ti),.p (.str tn),.vs o (List.map B5 (tl.take i)).length cp,.p (.nils)],.box b2 [.p (I 0),.p (I 0),.p (.str ⟨#[]⟩),.p (.nils),.p (.nils)]],[]⟩) (fun(i,o,cp)=>tl.length - i) (fun(i,o,cp)=>i≤tl.length) ⟨0,none,0⟩ AO ?_ ?_
 ·exact BY ⟨we O,we O,we O,we O,we O,Ap⟩ (leH (is:=[0,1,2]) O (wl (oe O) (wl (oe O) (wl (oe O) (DO)))))
 rintro⟨i,o,cp⟩ hC
 try simp only at hC
 have hi:=hC;refine As A0 1 [] O (Au (Av O (fun c=>?_) (fun c=>?_)))
 ·(try simp only[sd,se] at c);refine A1 (Au (A8 (Aw ?_)));obtain⟨x,hx⟩:=A6 (l:=tl) (i:=i) An;refine Aq O (A5 FQ O O An (G3 hx) (Dx _)) (Aq O (BJ FW O (Dx _)) (BG O (A7 Hi O) fun b5=>Ar A0 1 [0,0] O (B6 (fun k=>Nat.beq k 9) EO (Bb A0 6 [2,0,0] O (BL O (fun _=>LA (rows':=List.map Ge x.vars) D4 D4 L5 O O (fun _ _ _ h=>TL h) O (ME _) (by have:=h1.2.2.1 x (List.mem_of_getElem? hx);have:=this.1;simp only[De] at this;simp only[List.length_map];omega)) Ap (BL O (fun _=>CJ cO Hi O) Ap (BL O (fun _=>Bx FQ Hi O O O O O) Ap (OO [] O O (Cs (i:=1) (rows':=List.map B5 [(CX.mk x.const x.vars)]) FQ FQ Hi O O O O O O (S6 _) AI (JL (f:=B5) (tl.take i) [(CX.mk x.const x.vars)])) Aj fun o1 cp1=>⟨AB,Ap,?_⟩))))))));refine B4 A0 2 [2,0] O (A3 (Ar A0 2 [] O ?_));refine⟨⟨i+1,o1,cp1⟩,AT,by omega,BY ⟨we rfl,we rfl,we rfl,we rfl,we rfl,trivial⟩ (leH (is:=[1,2,3]) rfl (wl (Fl (f:=B5) (tl.take i++[(CX.mk x.const x.vars)]) (by rw[List.take_add_one,hx];rfl)) (wl (eG (aw (we rfl) (aw (we rfl) (aw (we rfl) (aw (we (G2 (f:=B5) (tl.take i++[(CX.mk x.const x.vars)]) (by rw[List.take_add_one,hx];rfl))) (aw (we rfl) (Eg))))))) (wl (oe rfl) (DO)))))⟩
 (try simp only[sd,se] at c);refine Bh (As A0 2 [1,2,0] O (BN (Bc (i:=2) O) (Az (⟨O,_,_,⟨_,_,O,(BE (i:=2) BQ O O O),O⟩,(CH (is:=[0]) O),?_⟩))));have htk:tl.take i=tl:=List.take_of_length_le An;exact⟨(o,cp),by rw[htk];simp[Tm.kind,Tm.index,Tm.name,Tm.levels,splice,dn],by rw[htk];rfl⟩
theorem bQ:∀(tk ti:Int) (tn:ByteArray) (tl:List CX) (ts:List Tm),Nd (.mk tk ti tn tl ts)→Bl Tryz.prog 162 [TV (.mk tk ti tn tl ts)] [] (gQ (fun p:Option Nat×Nat=> .agg [.p (I tk),.p (I ti),.p (.str tn),.vs p.1 (List.map B5 tl).length p.2,.p (.lst [])]) (fun p=>[.vec p.1 2 (List.map B5 tl) p.2])):=fun tk ti tn tl ts h=>eB _ h
theorem kH:∀(l:CX) (ps:List CX),(RU l)→(ps.length<De)→(∀p∈ps,RU p)→E4 Tryz.prog 165 [.agg ((B5 l).map .p),.ref [.lst (List.map B5 ps)]] (.tup [.agg ((B5 ((EC l ps).1)).map .p),.p (I ((EC l ps).2))]):=by
 intro l ps h1 h2 h3;refine A4 Tryz.func165 O lj (n:=10) O O (Aw (BG O (BO O) fun b2=>BG O (A7 Hi O) fun b3=>Ar A0 1 [] O (Aw (Ay A0 2 [1] O (Aq O (BF O O (Yc l ps h1 h2 h3) O) (Ar A0 4 [0,1] O (Az (⟨O,_,_,⟨_,_,O,(BE (i:=0) FW O O Af),⟨_,_,O,O,O⟩⟩,(List.nil_sublist _),?_⟩))))))))
 all_goals exact⟨by show (.tup [.agg ((B5 ((Ht l ps).1)).map .p),.p (I ((Ht l ps).2))]:AV)=_;rw[Zn],rfl⟩
theorem jD:∀(bR:Nat) (ps:List CX) (s:Unit) (t:Tm) (d:Int),(Nd t)→(ps.length<De)→(∀p∈ps,RU p)→Bl Tryz.prog 179 [.agg ((BK t).map .p),.p (I d),.ptr bR 0] [.box bR [.fn (.func 165) [] [.ref [.lst (List.map B5 ps)]]]] (J5 (fun(r:(Tm×Bool)×Unit)=> .tup [TV r.1.1,.p (.bool r.1.2)]) (fun e=> .p (.iface 223 (I e))) (fun r H'=>H'=[.box bR [.fn (.func 165) [] [.ref [.lst (List.map B5 ps)]]]]) (Ts ps s t d)):=by
 intro bR ps s t d h1 h2 h3;obtain⟨tk,ti,tn,tl,ts⟩:=t;have hn:=h1;simp only[Nd,De] at hn;refine A4 Tryz.func179 O lh (n:=39) O O (Aw (BG O (BO O) fun b3=>BG O (A7 Bw O) fun b5=>Ar A0 1 [] O (Aw (Aq O (BP (i:=1) BQ O O O) (XQ O O O (.inl ⟨O,O,O⟩) (bQ tk ti tn tl ts h1) (DD _) fun vv=>?_)))));obtain⟨ov,cv⟩:=vv;refine BG O (A7 Bw O) fun b7=>Ar A0 1 [0,0] O (Au (Aw (Ay A0 2 [3] O (Aq O (BM FQ O (List.length_map _)) (Ar A0 1 [] O (A8 ?_))))));refine Be (α:=Nat×List CX×Option Nat×Nat) (fun(i,ys,o,cp)=>⟨39,mk [(2,.ptr bR 0),(5,.ptr b5 0),(7,.ptr b7 0),(15,.p (.lst (List.map B5 tl))),(16,.p (I (tl.length:Nat))),(17,.p (I (i:Int)))],[.box b7 [.p (I tk),.p (I ti),.p (.str tn),.vs o (List.map B5 (ys++tl.drop i)).length cp,.p (.lst (BC []))],.vec o 2 (List.map B5 (ys++tl.drop i)) cp,.box b5 [.p (I 0),.p (I 0),.p (.str ⟨#[]⟩),.p (.nils),.p (.nils)],.box bR [.fn (.func 165) [] [.ref [.lst (List.map B5 ps)]]]],[]⟩) (fun(i,ys,o,cp)=>tl.length - i) (fun(i,ys,o,cp)=>i≤tl.length∧(ys.length=i∧IA ps tl=Mw ys (IA ps (tl.drop i)))) ⟨0,[],ov,cv⟩ (⟨by omega,rfl,Zp _⟩) ?_ ?_
 ·exact BY ⟨we O,we O,we O,we O,we O,we O,Ap⟩ (leH (is:=[0,1,2,4]) O (wl (oe O) (wl (oe O) (wl (oe O) (wl (oe O) (DO))))))
 rintro⟨i,ys,o,cp⟩ hC
 try simp only at hC
 obtain⟨hi,hl,hC⟩:=hC;refine As A0 1 [] O (Au (Av O (fun c=>?_) (fun c=>?_)))
 ·(try simp only[sd,se] at c);refine A1 (Au (A8 (Aw (Br O ?_))));obtain⟨x,hx⟩:=A6 (l:=tl) (i:=i) An;refine Aq O (A5 FQ O O An (G3 hx) (Dx _)) (Aq O (BJ FW O (Dx _)) (BG O (A7 Hi O) fun b9=>Ar A0 2 [0,1] O (Aw (Ay A0 2 [4,0] O (Aq O (Nc O O (kH x ps (hn.2.2.1 _ (List.mem_of_getElem? hx)) h2 h3) (.inl O)) (Ay A0 3 [] O (BG O (A7 Hi O) fun b10=>Ar A0 2 [0,1] O (Au (As A0 2 [] O (Av O (fun c1=>?_) (fun c1=>?_)))))))))))
  ·(try simp only[sd,se] at c1);exact A3 (Br O (NM O O O (.inl ⟨O,O,O⟩) (Po ((EC x ps).2)) (aw (we O) (Eg)) (⟨O,_,List.nil_sublist _,⟨_,gF (hC.trans (iz hx An)),O⟩⟩)))
  (try simp only[sd,se] at c1);refine A1 (A3 (Ay A0 4 [2,0] O (M4 (i:=3) O AY fun b hb=>?_)));subst hb;refine Aq O (Cn FQ O O An (by first | omega | (simp;omega))) (Aq O (D5 (i:=3) (j:=i) FW O O O (by first | omega | (simp;omega)) O (ZY _) (Dx _) (gS _) (bU (f:=B5) (ys++tl.drop i) i ((EC x ps).1))) (Bf O (A3 (Ar A0 2 [] O (⟨⟨i+1,ys++[(EC x ps).1],(some b),cp⟩,AT,⟨by omega,⟨by simp[hl],hC.trans (jU hx An)⟩⟩,BY ⟨we rfl,we rfl,we rfl,we rfl,we rfl,we rfl,trivial⟩ (leH (is:=[2,3,4,5]) rfl (wl (eG (aw (we rfl) (aw (we rfl) (aw (we rfl) (aw (we (Sm (f:=B5) (ys++tl.drop i) Ai)) (aw (we rfl) (Eg))))))) (wl (Fl (f:=B5) ((ys++tl.drop i).set i ((EC x ps).1)) (by rw[set_drop hl hx])) (wl (oe rfl) (wl (oe rfl) (DO))))))⟩)))))
 (try simp only[sd,se] at c);refine Bh (Aw (CD (Ec (i:=1) (j:=0) (q:=3) [] O O O (Eh Ap)) (Ar A0 3 [0,1,0] O (Az (⟨O,_,_,⟨_,_,O,(BE (i:=1) BQ O O O),⟨_,_,O,O,O⟩⟩,(CH (is:=[2]) O),?_⟩)))));rw[List.drop_eq_nil_of_le An,List.append_nil];exact⟨⟨⟨.mk tk ti tn ys [],false⟩,()⟩,jv (kN hC An),O,O⟩
theorem fQ:∀(bo be:Nat) (co ce:List AV),EM Tryz.prog 178 [.ptr bo 0,.ptr be 0] (.ret) [.box bo co,.box be ce] (fun H'=>H'=[.box bo co,.box be ce]):=by
 intro bo be co ce;refine HJ (ty2:=0) Tryz.func178 O iU (n:=9) O O O O O O (Aw (Br O (Aq O (Gd Ze O O O) (Bf O ?_))));refine Av O (fun c=>by cases c) (fun c=>?_);exact A1 ⟨.inl O,O,_,(CH (is:=[0,1]) O),O⟩
theorem e8:∀(bo be:Nat) (e:Int),EM Tryz.prog 178 [.ptr bo 0,.ptr be 0] (.pan (.p (.iface 223 (I e)))) [.box bo [.p (I 0),.p (I 0),.p (.str ⟨#[]⟩),.p (.nils),.p (.nils)],.box be [.p (I 0)]] (fun H'=>H'=[.box bo [.p (I 0),.p (I 0),.p (.str ⟨#[]⟩),.p (.lst []),.p (.lst [])],.box be [.p (I e)]]):=by
 intro bo be e;refine HJ (ty2:=0) Tryz.func178 O iU (n:=9) O O O O O O (Aw (Br O (Aq O (Gd Ze O O O) (CD (Bc (i:=0) O) (Bf O ?_)))));refine Av O (fun c=>?_) (fun c=>by cases c);exact A3 (Ay A0 2 [] O (Aq O (BF O O (SV _) O) (Ay A0 2 [0,0,1,0] O (CD (Bc (i:=0) O) (Bf O ⟨.inl O,O,_,(CH (is:=[0,1]) O),O⟩)))))
set_option maxHeartbeats 2000000 in
theorem WC:∀(t:Tm) (ps:List CX),(Nd t)→(Vp t)→(size t<1099511627776)→(ps.length<De)→(∀p∈ps,RU p)→E4 Tryz.prog 164 [.agg ((BK t).map .p),.fn (.func 165) [] [.ref [.lst (List.map B5 ps)]]] (.tup [.agg ((BK ((By t ps).1)).map .p),.p (I ((By t ps).2))]):=by
 intro t ps h1 h2 h3 h4 h5;refine E2 Tryz.func164 O mu (n:=11) O O (Aw (BG O (BO O) fun b2=>BG O (BO O) fun b3=>BG O (A7 Bw O) fun b4=>BG O (A7 df O) fun b5=>Bf O (Aw (Aq O (EH O O) (Nu O O O O (Bf O (Aw (Ay A0 3 [3] O ?_))))))));refine DX [2] O O O (.inl ⟨O,O,O⟩) (NU (Ts ps) (fun _ T=>T=[.box b3 [.fn (.func 165) [] [.ref [.lst (List.map B5 ps)]]]]) 179 [.ptr b3 0] (fun s t d T hn hp h0 hb hT=>by subst hT;exact jD b3 ps s t d hn h4 h5) _ t 0 () _ (Nat.le_refl _) h1 h2 An AZ rfl) ⟨_,_,rfl,rfl,rfl⟩ Am (DD _) (fun _ _ h=>(congrArg List.length h).trans rfl) ?_ ?_
 rotate_left
 ·intro e _ he;refine⟨_,_,_,O,Lo (is:=[1,0]) _ Am ⟨_,_,O,O,⟨_,_,O,O,O⟩⟩,EM.eq (e8 b4 b5 _) ?_⟩;refine⟨_,[],⟨_,_,O,(BE (i:=0) BQ O O O),⟨_,_,O,(GD (i:=1) Rh O O),O⟩⟩,(List.nil_sublist _),?_⟩;rw[VY ((OI t 0).symm.trans he)];exact⟨O,O⟩
 rintro⟨z,_⟩ _ hz rfl;refine Ar A0 2 [1,1,0,0] O (Az (⟨_,_,_,O,DA (is:=[1,0]) Am ⟨_,_,O,O,⟨_,_,O,O,O⟩⟩,EM.eq (fQ b4 b5 _ _) ?_⟩));refine⟨_,_,⟨_,_,O,(BE (i:=0) BQ O O Ag),⟨_,_,O,(GD (i:=1) Rh O O),O⟩⟩,(List.nil_sublist _),?_⟩;rw[V6 ((OI t 0).symm.trans hz)]
 all_goals exact⟨rfl,rfl⟩
theorem Lj:∀(t:Tm) (ps:List CX),(Nd t)→(Vp t)→(size t<1099511627776)→(ps.length<De)→(∀p∈ps,RU p)→E4 Tryz.prog 138 [.agg ((BK t).map .p),.p (.lst (List.map B5 ps))] (.tup [.agg ((BK ((By t ps).1)).map .p),.p (I ((By t ps).2))]):=by
 intro t ps h1 h2 h3 h4 h5;refine A4 Tryz.func138 O l4 (n:=11) O O (Aw (BG O (BO O) fun b2=>BG O (BO O) fun b3=>BG O (A7 Bw O) fun b4=>Ar A0 1 [] O (Aw (CD (Jb (i:=1) (cs:=[.lst (List.map B5 ps)]) [3] O (Eh ⟨O,Ap⟩)) (Ay A0 2 [1] O (Aq O (BF O O (WC t ps h1 h2 h3 h4 h5) O) (Ar A0 4 [0,1] O (Az (⟨O,_,_,⟨_,_,O,(BE (i:=0) BQ O O Ag),⟨_,_,O,O,O⟩⟩,(List.nil_sublist _),?_⟩)))))))))
 all_goals exact⟨rfl,rfl⟩
theorem Xl:∀(t:Tm),(Nd t)→(size t<1000000)→E4 Tryz.prog 117 [.agg ((BK t).map .p)] (.tup [.p (.lst (BC ((Hk t).1))),.agg ((BK ((Hk t).2)).map .p)]):=by
 intro t h1 h2;refine A4 Tryz.func117 O lO (n:=27) O O (Aw (BG O (BO O) fun b1=>bg O (BG O (A7 Bw O) fun b3=>Bf O (As A0 1 [] O (Au (A8 (BN (Fo (t:=4) (sz:=5) O) ?_)))))));refine Be (α:=Tm×List Tm×Option Nat×Nat) (fun(y,l,o,cp)=>⟨27,mk [(1,.ptr b1 0),(3,.ptr b3 0),(4,.vs o (BC l).length cp)],[.vec o 5 (BC l) cp,.box b3 [.p (I 0),.p (I 0),.p (.str ⟨#[]⟩),.p (.nils),.p (.nils)],.box b1 ((BK y).map .p)],[]⟩) (fun(y,l,o,cp)=>size y) (fun(y,l,o,cp)=>Nd y∧l.length+size y≤size t∧(l++(Hk y).1,(Hk y).2)=Hk t) ⟨t,[],none,0⟩ (⟨h1,by simp,by simp⟩) ?_ ?_
 ·exact BY ⟨we O,we O,we O,Ap⟩ (leH (is:=[0,1,2]) O (wl (oe O) (wl (oe O) (wl (oe O) (DO)))))
 rintro⟨y,l,o,cp⟩ hC
 try simp only at hC
 have hl0:l.length<1000000:=by have:=hC.2.1;omega
 refine Au (Au ?_);obtain⟨yk,yi,yn,yl,ys⟩:=y;refine BU [1,3,4] 13 (fun y=>y= .p (.bool (((yk:Int)==(6:Int))&&(((ys.length:Nat):Int)==(2:Int))))) ?_ ?_
 ·refine A3 (Ay A0 4 [2] O (BI 8 O (fun g=>?_) (fun g=>?_)))
  ·(try simp only[sd,se] at g);exact Ay A0 2 [2] O (BA O (BM Bg O (BR _)) (Ar A0 2 [] O (⟨O,O,AJ,AH,⟨O,O,O,Ap⟩⟩)))
  (try simp only[sd,se] at g);exact Ar A0 5 [] O (⟨O,O,AJ,AH,⟨O,O,O,Ap⟩⟩)
 rintro _ rfl;refine Av O (fun c=>?_) (fun c=>?_)
 ·(try simp only[sd,se] at c);refine A1 (A8 (Aw (Ay A0 3 [2] O ?_)));obtain⟨x,hx⟩:=A6 (l:=ys) (i:=0) (by first | omega | (simp at c;omega));refine Aq O (A5 Bg O O An (Bd hx) (BB _)) (Aq O (BJ BQ O (BB _)) ?_);obtain⟨xk,xi,xn,xl,xs⟩:=x;refine Aq O (Bx Bg Bw O O O O O) (Ih O O (Cs (i:=0) (rows':=BC [(.mk xk xi xn xl xs:Tm)]) Bg Bg Bw O O O O O O (Bu _) AD (Nl l [(.mk xk xi xn xl xs:Tm)])) fun o1 cp1=>Ar A0 1 [] O (A3 (Ay A0 2 [2] O ?_)));obtain⟨x1,hx1⟩:=A6 (l:=ys) (i:=1) (by first | omega | (simp at c;omega));refine Aq O (A5 Bg O O An (Bd hx1) (BB _)) (Ar A0 2 [2,1] O ?_);refine⟨⟨x1,l++[(.mk xk xi xn xl xs:Tm)],o1,cp1⟩,(by have:=Cb hx1;simp only[size];omega),⟨DK hC.1.2.2.2.2.1 hx1,by have:=Cb hx1;have:=hC.2.1;simp only[size] at *;simp only[List.length_append,List.length_cons,List.length_nil];omega,ZF c hx hx1 hC.2.2⟩,BY ⟨we rfl,we rfl,we rfl,trivial⟩ (leH (is:=[0,1,2]) rfl (wl (oe rfl) (wl (oe rfl) (wl (oe rfl) (DO)))))⟩
 (try simp only[sd,se] at c);refine Bh (Au (B6 (fun k=>false) EO (B4 A0 4 [2,1,0] O (BN (Cw (i:=0) [4,25,2] O (Eh ⟨O,O,O,Ap⟩)) (Az (⟨O,_,_,⟨_,_,O,O,⟨_,_,O,(BE (i:=0) BQ O O O),O⟩⟩,(List.nil_sublist _),?_⟩))))))
 all_goals exact⟨by show (.tup [.p (.lst (BC l)),.agg [.p (I yk),.p (I yi),.p (.str yn),.p (.lst (List.map B5 yl)),.p (.lst (BC ys))]]:AV)=_;rw[dw An hC.2.2];rfl,rfl⟩
theorem Nh:∀(d:CC),(OB d)→(0≤d.fixed∧d.fixed≤1000000)→E4 Tryz.prog 90 [.agg ((Bj d).map .p)] (.p (I (CU d))):=by
 intro d h1 h2;have hir:=Ha h1 h2;have hcl:=h1.cl;have htl:=Jq d.type;have hsz:=h1.ty.sz;refine A4 Tryz.func90 O oX (n:=25) O O (Aw (BG O (BO O) fun b1=>Ar A0 1 [] O (Aw (Aq O (Ax C3 O O) (Aq O (Bv (i:=0) BQ O O (FI _) (BB _)) (Aq O (BF O O (Xl d.type h1.ty.nd h1.ty.sz) O) (Ay A0 3 [] O (BG O (A7 Bw O) fun b4=>Ar A0 2 [0,1] O (Aw (Aq O (Ax C3 O O) (Aq O (A2 (i:=1) Df O O (DR _)) (Ay A0 2 [] O (Aq O (A2 (i:=1) IH O O (CF _)) (Aq O (BM Hh O (List.length_map _)) (Ay A0 2 [] O (Aq O (BM Bg O (BR _)) (Aq O (Ax C3 O O) (Aq O (A2 (i:=1) Df O O (DR _)) (Aq O (Pk O O An An) (Aq O (Iy O O) (Ar A0 2 [] O (Az ?_))))))))))))))))))))));refine⟨O,_,_,⟨_,_,O,O,O⟩,(List.nil_sublist _),?_⟩
 all_goals exact⟨pI rfl,rfl⟩
end Go.Proofs.YtboammbpdaoojaaGreat
namespace Go.Eu
open Go.Abs
def Out.ex {α:Type}:Out α→Except Int α
 | .ok a=> .ok a
 | .stuck=> .error 0
 | .fail=> .error 0
section
variable {α β σ:Type}
theorem He {o:Out α}{a:α}(h:o.ex= .ok a):o= .ok a:=by
 cases o<;>simp[Out.ex] at h;rw[h]
theorem C6 {o:Out α}{a:α}(h:o= .ok a):o.ex= .ok a:=by rw[h];rfl
theorem iv {o:Out α}{e:Int}(hs:o≠ .stuck) (h:o.ex= .error e):o= .fail∧e=0:=by
 cases o with
 | stuck=>exact absurd rfl hs
 | fail=>simp[Out.ex] at h;exact⟨rfl,h.symm⟩
 | ok a=>simp[Out.ex] at h
theorem gD {o:Out α}(h:o= .fail):o.ex= .error 0:=by rw[h];rfl
theorem NX {o:Out α}{k:α→Out β}{b:β}(h:o.bind k= .ok b):∃a,o= .ok a∧k a= .ok b:=by
 cases o with
 | stuck=>simp[Out.bind] at h
 | fail=>simp[Out.bind] at h
 | ok a=>exact⟨a,rfl,h⟩
theorem Iw {o:Out α}{k:α→Out β}(h:o.bind k≠ .stuck):o≠ .stuck:=fun e=>h (by rw[e];rfl)
theorem Lc {o:Out α}{k:α→Out β}{a:α}(h:o.ex= .ok a):o.bind k=k a:=by rw[He h];rfl
theorem KH {o:Out α}{k:α→Out β}{e:Int}(h:o.bind k≠ .stuck) (he:o.ex= .error e):(o.bind k).ex= .error e:=by
 obtain⟨h1,h2⟩:=iv (Iw h) he;subst h2;rw[h1];rfl
theorem LG {o:Out (Tm×σ)}{k:Tm×σ→Out β}{b:β}(h:o.chk k= .ok b):∃r,o= .ok r∧okB r.1=true∧k r= .ok b:=by
 obtain⟨r,h1,h2⟩:=NX h;split at h2
 ·rename_i hr;exact⟨r,h1,hr,h2⟩
 cases h2
theorem Tz {o:Out (Tm×σ)}{k:Tm×σ→Out β}(h:o.chk k≠ .stuck):o≠ .stuck:=Iw h
theorem TM {o:Out (Tm×σ)}{k:Tm×σ→Out β}{r:Tm×σ}(hs:o.chk k≠ .stuck) (h:o.ex= .ok r):okB r.1=true∧o.chk k=k r:=by
 have h1:=He h;subst h1;simp only[Out.chk,Out.bind] at hs ⊢;split at hs
 ·rename_i hr;exact⟨hr,by rw[if_pos hr]⟩
 exact absurd O hs
theorem Tb {o:Out (Tm×σ)}{k:Tm×σ→Out β}{e:Int}(h:o.chk k≠ .stuck) (he:o.ex= .error e):(o.chk k).ex= .error e:=KH h he
theorem UL {s:Int}{x:Tm×Int}{k:Tm→Int→Out α}(h:Bo.put s x k≠ .stuck):okB x.1=true∧Bo.put s x k=if s - 1<0∨x.2≠0 then .fail else k x.1 (s - 1):=by
 unfold Sys.put at h ⊢;split at h
 ·rename_i hx;refine⟨hx,?_⟩;rw[if_pos hx];simp only[Bo];by_cases c:s - 1<0∨x.2≠0
  ·rw[if_pos c,if_pos c]
  rw[if_neg c,if_neg c]
 exact absurd O h
end
section
variable {E:List CC}{σ:Type}{S:Sys σ}{W:σ→Tm→Out (Tm×σ)}{n:Nat}{t:E3}{v:List Tm}{l:Tm}{s:σ}{x:Tm}
def Q4 (E:List CC) (S:Sys σ) (W:σ→Tm→Out (Tm×σ)) (n:Nat) (t:E3) (v:List Tm) (r:Tm×σ):Out ((Option (Tm×List Tm)×Tm)×σ):=match C8 E r.1 with
 | none=> .ok ((none,r.1),r.2)
 | some (d,j,fields)=>match Cl (Ev d j).name t.branches with
  | none=> .ok ((none,r.1),r.2)
  | some t'=>Dm E S W n t' (v++fields) r.1 r.2
theorem ZI {X:Out ((Option (Tm×List Tm)×Tm)×σ)}(h:Dm E S W n t v l s=X) (hX:X≠ .stuck):∃k,n=k+1:=by
 cases n with
 | zero=>rw[Dm] at h;exact absurd h.symm hX
 | succ k=>exact⟨k,rfl⟩
theorem Jh (h:t.kind≠1):Dm E S W (n+1) t v l s= .ok ((some (t.body,v),BZ),s):=by rw[Dm,if_neg h]
theorem Kl (h:t.kind=1) (hb:t.var<0∨t.var≥(v.length:Int)∨S.over s=true):Dm E S W (n+1) t v l s= .ok ((none,l),s):=by rw[Dm,if_pos h,if_pos hb]
theorem NA (h:t.kind=1) (hb:¬(t.var<0∨t.var≥(v.length:Int)∨S.over s=true)) (hx:v[t.var.toNat]?=some x):Dm E S W (n+1) t v l s=(W s x).chk (Q4 E S W n t v):=by
 rw[Dm,if_pos h,if_neg hb,CR hx];rfl
theorem Ik {r:Tm×σ}(h:C8 E r.1=none):Q4 E S W n t v r= .ok ((none,r.1),r.2):=by unfold Q4;rw[h]
theorem Kq {r:Tm×σ}{d:CC}{j:Int}{f:List Tm}(h:C8 E r.1=some (d,j,f)) (hb:Cl (Ev d j).name t.branches=none):Q4 E S W n t v r= .ok ((none,r.1),r.2):=by unfold Q4;rw[h];simp only[hb]
theorem Kr {r:Tm×σ}{d:CC}{j:Int}{f:List Tm}{t':E3}(h:C8 E r.1=some (d,j,f)) (hb:Cl (Ev d j).name t.branches=some t'):Q4 E S W n t v r=Dm E S W n t' (v++f) r.1 r.2:=by unfold Q4;rw[h];simp only[hb]
end
section
variable {E:List CC}{σ:Type}{S:Sys σ}{W:σ→Tm→Out (Tm×σ)}{n:Nat}{h m:Tm}{a:List Tm}{s:σ}{d:CC}{x:Fk}
theorem Rz (he:(By d.value h.levels).2≠0):Ek S d h a s= .ok (none,s):=by rw[Ek,if_pos he]
theorem Qs (he:(By d.value h.levels).2=0):Ek S d h a s=S.put s ((By d.value h.levels).1,0) fun t s'=> .ok (some (apply t a),s'):=by rw[Ek,if_neg An]
theorem Sf (hc:C8 E m=none):Et E S d h a m s= .ok (none,s):=by unfold Et;rw[hc]
theorem XY {e:CC}{j:Int}{f:List Tm}(hc:C8 E m=some (e,j,f)) (hn:e.name≠d.name∨j≥(d.recs.rules.length:Int)):Et E S d h a m s= .ok (none,s):=by unfold Et;rw[hc];simp only[if_pos hn]
theorem VQ {e:CC}{j:Int}{f:List Tm}{r:Tm}(hc:C8 E m=some (e,j,f)) (hn:¬(e.name≠d.name∨j≥(d.recs.rules.length:Int))) (hr:d.recs.rules[j.toNat]?=some r) (he:(By r h.levels).2≠0):Et E S d h a m s= .ok (none,s):=by
 unfold Et;rw[hc];simp only[if_neg hn,To,CR hr,if_pos he]
theorem TD {e:CC}{j:Int}{f:List Tm}{r:Tm}(hc:C8 E m=some (e,j,f)) (hn:¬(e.name≠d.name∨j≥(d.recs.rules.length:Int))) (hr:d.recs.rules[j.toNat]?=some r) (he:(By r h.levels).2=0) :
  Et E S d h a m s=S.put s (apply (apply (By r h.levels).1 (a.take (d.fixed+1+d.ctors.length).toNat)) f,0) fun t s'=> .ok (some (apply t (a.drop (CU d+1).toNat)),s'):=by
 unfold Et;rw[hc];simp only[if_neg hn,To,CR hr,if_neg (show ¬(By r h.levels).2≠0 by omega)]
theorem Pp {b:Tm}{vars rest:List Tm}(he:(By b h.levels).2≠0):HW S h b vars rest s= .ok (none,s):=by rw[HW,if_pos he]
theorem YG {b:Tm}{vars rest:List Tm}(hs:HW S h b vars rest s≠ .stuck) (he:(By b h.levels).2=0):okB (By b h.levels).1=true∧(∀v∈vars,okB v=true)∧BS vars<1125899906842624∧HW S h b vars rest s=S.put s (CI (By b h.levels).1 vars.reverse 0) fun t s'=> .ok (some (apply t rest),s'):=by
 rw[HW,if_neg An] at hs ⊢;split at hs
 ·exact absurd O hs
 rename_i hc;have hn:=hc;simp only[not_or,Bool.not_eq_false] at hc;exact⟨hc.1,fun v hv=>List.all_eq_true.1 hc.2.1 v hv,by omega,by rw[if_neg hn]⟩
def N3 (S:Sys σ) (f:Gh) (h:Tm) (a:List Tm) (q:(Option (Tm×List Tm)×Tm)×σ):Out (Option Tm×σ):=match q.1.1 with
 | none=> .ok (none,q.2)
 | some (b,vars)=>if S.over q.2=true then .ok (none,q.2) else HW S h b vars (a.drop f.arity.toNat) q.2
theorem SN {f:Gh}(hl:(a.length:Int)<f.arity):H4 E S W n f h a s= .ok (none,s):=by rw[H4,if_pos hl]
theorem Ud {f:Gh}(hl:¬(a.length:Int)<f.arity):H4 E S W n f h a s=(Dm E S W n f.tree (a.take f.arity.toNat) BZ s).bind (N3 S f h a):=by rw[H4,if_neg hl];rfl
theorem Xo (hl:(a.length:Int)≤CU d):PJ E S W d h a s= .ok (none,s):=by rw[PJ,if_pos hl]
theorem cm {y:Tm}(hl:¬(a.length:Int)≤CU d) (hy:a[(CU d).toNat]?=some y):PJ E S W d h a s=(W s y).chk fun r=>Et E S d h a r.1 r.2:=by rw[PJ,if_neg hl,CR hy]
theorem QL (hu:V1 E h=false):Dy E S W n h a s= .ok (none,s):=by
 unfold Dy;rw[Cx,hu];simp
section
variable (hu:V1 E h=true) (hd:E[(Bq E h.name).1.decl.toNat]?=some d)
include hu hd
theorem SE (hk:(Bq E h.name).1.kind=1):Dy E S W n h a s=Ek S d h a s:=by
 unfold Dy;rw[Cx,hu,if_pos rfl];simp only[if_pos hk,CQ,CR hd]
theorem Si (hk:(Bq E h.name).1.kind=5):Dy E S W n h a s=PJ E S W d h a s:=by
 unfold Dy;rw[Cx,hu,if_pos rfl];simp only[hk,CQ,CR hd];rfl
theorem Sg {f:Gh}(hk:(Bq E h.name).1.kind=6) (hf:d.funs[(Bq E h.name).1.item.toNat]?=some f):Dy E S W n h a s=H4 E S W n f h a s:=by
 unfold Dy;rw[Cx,hu,if_pos rfl];simp only[hk,CQ,CR hd,Fv,CR hf];rfl
omit hd
theorem K1 (h1:(Bq E h.name).1.kind≠1) (h5:(Bq E h.name).1.kind≠5) (h6:(Bq E h.name).1.kind≠6):Dy E S W n h a s= .ok (none,s):=by
 unfold Dy;rw[Cx,hu,if_pos rfl];simp only[if_neg h1,if_neg h5,if_neg h6]
end
end
section
variable {E:List CC}{σ:Type}{S:Sys σ}{n:Nat}{t:Tm}{s:σ}{X:Out (Tm×σ)}
theorem iB (h:DJ E S n s t=X) (hX:X≠ .stuck):∃k,n=k+1:=by
 cases n with
 | zero=>rw[DJ] at h;exact absurd h.symm hX
 | succ k=>exact⟨k,rfl⟩
theorem jl (h:DJ E S (n+1) s t=X) (hX:X≠ .stuck):okB t=true:=by
 rw[DJ] at h;split at h
 ·exact absurd h.symm hX
 rename_i hc;simpa using hc
theorem gA (ho:okB t=true) (h:S.over s=true):DJ E S (n+1) s t= .ok (t,s):=by rw[DJ,if_neg (by simp[ho]),if_pos h]
theorem YB (ho:okB t=true) (h:S.over s=false) (hm:S.many (A9 t).2.length=true):DJ E S (n+1) s t= .fail:=by rw[DJ,if_neg (by simp[ho]),if_neg (by simp[h]),if_pos hm]
section
variable (ho:okB t=true) (h:S.over s=false) (hm:S.many (A9 t).2.length=false)
include ho h hm
theorem YT (hk:(A9 t).1.kind=5) (hl:(A9 t).2.length=0):DJ E S (n+1) s t= .ok (t,s):=by
 rw[DJ,if_neg (by simp[ho]),if_neg (by simp[h]),if_neg (by simp[hm]),if_pos hk,if_pos hl]
theorem W5 {b:Tm}(hk:(A9 t).1.kind=5) (hl:(A9 t).2.length≠0) (hb:(A9 t).1.kids[1]?=some b) :
  DJ E S (n+1) s t=S.put s (CI b ((A9 t).2.take 1) 0) fun x s'=>DJ E S n s' (apply x ((A9 t).2.drop 1)):=by
 rw[DJ,if_neg (by simp[ho]),if_neg (by simp[h]),if_neg (by simp[hm]),if_pos hk,if_neg hl,KT,hb]
theorem XO {v b:Tm}(hk:(A9 t).1.kind=11) (hv:(A9 t).1.kids[1]?=some v) (hb:(A9 t).1.kids[2]?=some b) :
  DJ E S (n+1) s t=S.put s (CI b [v] 0) fun x s'=>DJ E S n s' (apply x (A9 t).2):=by
 rw[DJ,if_neg (by simp[ho]),if_neg (by simp[h]),if_neg (by simp[hm]),if_neg An,if_pos hk,PE,hv,hb]
def QH (E:List CC) (S:Sys σ) (n:Nat) (h:Tm) (a:List Tm) (r:Tm×σ):Out (Tm×σ) :=
 if r.1.kind≠8 then .ok (apply (Je h.kind r.1) a,r.2) else JU S h r.1 a r.2 fun x s'=>DJ E S n s' x
theorem T5 {p:Tm}(hk:(A9 t).1.kind=9∨(A9 t).1.kind=10) (hp:(A9 t).1.kids[0]?=some p) :
  DJ E S (n+1) s t=(DJ E S n s p).chk (QH E S n (A9 t).1 (A9 t).2):=by
 rw[DJ,if_neg (by simp[ho]),if_neg (by simp[h]),if_neg (by simp[hm]),if_neg An,if_neg An,if_pos hk,hp];rfl
def YN (E:List CC) (S:Sys σ) (n:Nat) (t:Tm) (r:Option Tm×σ):Out (Tm×σ):=match r.1 with
 | none=> .ok (t,r.2)
 | some x=>DJ E S n r.2 x
theorem Vg (hk:(A9 t).1.kind=3):DJ E S (n+1) s t=(Dy E S (DJ E S n) n (A9 t).1 (A9 t).2 s).bind (YN E S n t):=by
 rw[DJ,if_neg (by simp[ho]),if_neg (by simp[h]),if_neg (by simp[hm]),if_neg An,if_neg An,if_neg An,if_pos hk];rfl
theorem dA (h1:(A9 t).1.kind≠5) (h2:(A9 t).1.kind≠11) (h3:(A9 t).1.kind≠9) (h4:(A9 t).1.kind≠10) (h5:(A9 t).1.kind≠3):DJ E S (n+1) s t= .ok (t,s):=by
 rw[DJ,if_neg (by simp[ho]),if_neg (by simp[h]),if_neg (by simp[hm]),if_neg h1,if_neg h2,if_neg An,if_neg h5]
end
theorem Va {h:Tm}{a:List Tm}{r:Tm×σ}(hk:r.1.kind≠8):QH E S n h a r= .ok (apply (Je h.kind r.1) a,r.2):=by rw[QH,if_pos hk]
theorem U1 {h:Tm}{a:List Tm}{r:Tm×σ}{q:Tm}(hk:r.1.kind=8) (hq:r.1.kids[(1+h.kind - 9).toNat]?=some q):QH E S n h a r=S.put r.2 (q,0) fun x s'=>DJ E S n s' (apply x a):=by
 rw[QH,if_neg An,JU,hq]
end
theorem GA {vs:List Tm}(h:∀v∈vs,okB v=true):Ld vs∧Mo vs∧R1 vs:=Mh vs (Ib.2 fun t ht=>Hp (h t ht))
theorem YJ {vs:List Tm}(h:∀v∈vs,okB v=true) (hl:vs.length<549755813888):PF vs 0 :=
 ⟨(GA h).2.1,(GA h).2.2,fun x hx=>by have:=Gx (h x hx);omega,by omega,by omega,by omega⟩
theorem Ip {b:Tm}{vs:List Tm}(hb:okB b=true) (hv:∀v∈vs,okB v=true):size (CI b vs 0).1≤4096 :=
 VJ b vs 0 (CY.1 hb).wt (GA hv).2.1 fun x hx=>by have:=Gx (hv x hx);omega
theorem Lk {b:Tm}{vs:List Tm}(hb:okB b=true) (hv:∀v∈vs,okB v=true) (hl:vs.length<549755813888):okB (CI b vs 0).1=true:=by
 have o:=CY.1 hb;obtain⟨h1,h2,h3⟩:=GA hv;have:=Ip hb hv;exact CY.2 ⟨Zl b vs 0 o.nd h1,Zj b vs 0 o.wt h2,ZA (YJ hv hl) o.vp (by have:=o.sz;omega),by omega⟩
theorem Lg.zero:Lg Gy:=Lg.num (n:=0) An
theorem N4 {ps:List CX}(hp:∀p∈ps,CP p=true):∀(vs:List CK) (out:CX),Lg out→(∀v∈vs,(0≤v.plus∧v.plus≤100)∧ -65536≤v.index∧v.index<8)→Lg (RE ps out vs).1
 | [],out,h,_=>h
 | v::vs,out,h,hv=>by
  have h1:=hv v Ao;have h2:∀u∈vs,(0≤u.plus∧u.plus≤100)∧ -65536≤u.index∧u.index<8:=fun u hu=>hv u (by simp[hu]);rw[RE];split
  ·rename_i hi;split
   ·exact Lg.zero
   rename_i he;refine N4 hp vs _ (h.join ?_) h2;have hlt:v.index.toNat<ps.length:=by omega
   have hg:ps.getD v.index.toNat default∈ps:=by rw[CR (List.getElem?_eq_getElem hlt)];exact List.getElem_mem hlt
   exact Lg.plus (hp _ hg) h1.1.1 h1.1.2 (Decidable.not_not.1 he)
  exact N4 hp vs _ (h.join (Lg.one h1)) h2
theorem XF (l:CX) (ps:List CX):Lg (EC l ps).1:=by
 unfold EC;split
 ·exact Lg.zero
 rename_i h;simp only[not_or,Bool.not_eq_false,List.all_eq_true] at h;split
 ·exact Lg.zero
 have hl:=Lg.of h.1;exact N4 h.2 l.vars _ (Lg.num hl.c) hl.rg
theorem Ss (ps:List CX):∀(ls:List CX) (er:Int),(Hc ps er ls).1.length=ls.length∧(Hc ps er ls).1.all WM=true
 | [],er=>⟨rfl,rfl⟩
 | l::ls,er=>by
  obtain⟨h1,h2⟩:=Ss ps ls (GC er (EC l ps).2);simp only[Hc,List.length_cons,List.all_cons,Bool.and_eq_true];exact⟨by rw[h1],Xu (XF l ps).nd,h2⟩
mutual
theorem RB (ps:List CX):∀(t:Tm) (er:Int),Rq t=true→Rq (Ky ps er t).1=true∧size (Ky ps er t).1=size t
 | .mk k i n ls ks,er,h=>by
  rw[KQ,Bool.and_eq_true] at h;obtain⟨h1,h2⟩:=Ss ps ls er;obtain⟨h3,h4,h5⟩:=Rp ps ks (Hc ps er ls).2 h.2;simp only[Ky,KQ,size,Bool.and_eq_true];refine⟨⟨?_,h4⟩,by rw[h5]⟩;have g:=h.1;simp only[kW,Bool.and_eq_true] at g ⊢;rw[h1,h3];exact⟨⟨⟨⟨⟨⟨⟨⟨g.1.1.1.1.1.1.1.1,g.1.1.1.1.1.1.1.2⟩,h2⟩,g.1.1.1.1.1.2⟩,g.1.1.1.1.2⟩,g.1.1.1.2⟩,g.1.1.2⟩,g.1.2⟩,g.2⟩
theorem Rp (ps:List CX):∀(ts:List Tm) (er:Int),Kd ts=true→(Iz ps er ts).1.length=ts.length∧Kd (Iz ps er ts).1=true∧BS (Iz ps er ts).1=BS ts
 | [],er,_=>⟨rfl,rfl,rfl⟩
 | t::ts,er,h=>by
  simp only[Kd,Bool.and_eq_true] at h;obtain⟨h1,h2⟩:=RB ps t er h.1;obtain⟨h3,h4,h5⟩:=Rp ps ts (Ky ps er t).2 h.2;simp only[Iz,List.length_cons,Kd,Bool.and_eq_true,BS];exact⟨by rw[h3],⟨h1,h4⟩,by rw[h2,h5]⟩
end
theorem bX:Rq BZ=true:=by decide
theorem Ho:okB BZ=true:=by decide
theorem K0 {t:Tm}(ps:List CX) (h:okB t=true):size (By t ps).1≤size t:=by
 unfold By;split
 ·exact size_pos t
 exact Nat.le_of_eq (RB ps t 0 (Hp h)).2
theorem Nz {t:Tm}(ps:List CX) (h:okB t=true):okB (By t ps).1=true:=by
 have:=K0 ps h;have:=Gx h;refine KO ?_ An;unfold By;split
 ·exact bX
 exact(RB ps t 0 (Hp h)).1
theorem Jd {f:Tm}{xs:List Tm}(h:okB f=true) (hx:∀x∈xs,okB x=true) (hs:size f+BS xs+xs.length<549755813888):okB (apply f xs)=true :=
 KO (IN (Hp h) fun x hx'=>Hp (hx x hx')) (by rw[EB];exact hs)
theorem eJ {k:Int}{p:Tm}(hk:k=9∨k=10) (h:okB p=true) (hs:size p+1<549755813888):okB (Je k p)=true:=by
 refine KO ?_ (by simp only[Je,size,BS];omega);rw[Je,KQ,Bool.and_eq_true];refine⟨?_,by simp[Kd,Hp h]⟩;rcases hk with rfl | rfl<;>rfl
theorem FO (l:List Tm) (k:Nat):BS (l.take k)+BS (l.drop k)=BS l:=by rw[←IC,List.take_append_drop]
theorem Ie:∀(t:Tm),size (A9 t).1+BS (A9 t).2+(A9 t).2.length=size t
 | .mk k i n l [f,a]=>by
  unfold A9;split
  ·have:=Ie f;simp only[IC,BS,size,List.length_append,List.length_cons,List.length_nil];omega
  ·simp[BS]
 | .mk k i n l []=>by simp[A9,BS]
 | .mk k i n l [_]=>by simp[A9,BS]
 | .mk k i n l (_::_::_::_)=>by simp[A9,BS]
mutual
def DY:E3→Nat
 | .mk _ _ _ l=>1+KC l
def XN:F7→Nat
 | .mk _ _ t=>DY t
def KC:List F7→Nat
 | []=>0
 | b::l=>max (XN b) (KC l)
end
theorem WU:∀t:E3,1≤DY t
 | .mk k b v l=>by simp only[DY];omega
structure HE (E:List CC):Prop where
 g:Lz E
 vl:∀d∈E,size d.value≤400
 ru:∀d∈E,∀t∈d.recs.rules,size t≤400
 fu:∀d∈E,∀f∈d.funs,DY f.tree≤50
theorem Vu {nm:ByteArray}:∀{l:List F7}{t:E3},Cl nm l=some t→QY l→Ew t∧DY t≤KC l
 | .mk c a q::l,t,h,ho=>by
  simp only[QY,iT] at ho;rw[Cl] at h;simp only[KC,XN];split at h
  ·split at h
   ·cases h
   cases h;exact⟨ho.1,by simp only[F7.tree];omega⟩
  obtain⟨h1,h2⟩:=Vu h ho.2;exact⟨h1,by omega⟩
theorem Wx {nm:ByteArray}{t t':E3}(h:Cl nm t.branches=some t') (ho:Ew t):Ew t'∧DY t' < DY t:=by
 obtain⟨k,b,v,l⟩:=t;simp only[Ew] at ho;obtain⟨h1,h2⟩:=Vu h ho.2;exact⟨h1,by simp only[DY,E3.branches] at *;omega⟩
theorem NI {E:List CC}{h:Tm}(hu:V1 E h=true):∃(i:Nat) (d:CC),E[i]?=some d∧Xh d i (Bq E h.name).1∧d∈E∧E[(Bq E h.name).1.decl.toNat]?=some d:=by
 simp only[V1,Bool.and_eq_true,decide_eq_true_eq] at hu;obtain⟨i,d,h1,h2⟩:=Ps hu.1;exact⟨i,d,h1,h2,List.mem_of_getElem? h1,by rw[h2.decl];simpa using h1⟩
theorem S7 {E:List CC}{nm:ByteArray}{d:CC}{j:Int}(h:Gm E nm=some (d,j)):d∈E∧(0≤j→j<d.ctors.length):=by
 unfold Gm at h;split at h
 ·cases h
 rename_i h0;obtain⟨i,d',h1,h2⟩:=Ps (Decidable.not_not.1 h0);have hd:CQ E (Bq E nm).1.decl=d':=CR (by rw[h2.decl];simpa using h1);have hm:=List.mem_of_getElem? h1;rw[hd] at h;split at h
 ·cases h;exact⟨hm,fun q=>by omega⟩
 split at h
 ·rename_i h4;obtain⟨k,c,h5,h6⟩:=h2.ctor h4;cases h;exact⟨hm,fun _=>by have:=(List.getElem?_eq_some_iff.1 h5).1;omega⟩
 split at h
 ·cases h;exact⟨hm,fun q=>by omega⟩
 cases h
structure j7 (E:List CC) (t:Tm) (d:CC) (j:Int) (f:List Tm):Prop where
 mem:d∈E
 lo:0≤j
 hi:j<d.ctors.length
 fs:f=(A9 t).2.drop d.fixed.toNat
 len:((A9 t).2.length:Int)=d.fixed+Gk d j
 kind:(A9 t).1.kind=3
theorem GR {E:List CC}{t:Tm}{d:CC}{j:Int}{f:List Tm}(h:C8 E t=some (d,j,f)):j7 E t d j f:=by
 unfold C8 at h;split at h
 ·cases h
 rename_i hk;split at h
 ·cases h
 rename_i d' j' hf;obtain⟨h1,h2⟩:=S7 hf;split at h
 ·cases h
 split at h
 ·cases h
 rename_i h3 h4;cases h;exact⟨h1,by omega,h2 An,rfl,Decidable.not_not.1 h4,Decidable.not_not.1 hk⟩
theorem K4 {E:List CC}{t:Tm}{d:CC}{j:Int}{f:List Tm}(h:C8 E t=some (d,j,f)) (ho:okB t=true):(∀x∈f,okB x=true∧size x<size t)∧BS f+f.length<size t:=by
 have c:=GR h;have hs:=Ie t;have hp:=size_pos (A9 t).1;have hd:=FO (A9 t).2 d.fixed.toNat;rw[c.fs];refine⟨fun x hx=>⟨(Jk ho).2 x (List.mem_of_mem_drop hx),?_⟩,by rw[List.length_drop];omega⟩;have:=HH (List.mem_of_mem_drop hx);omega
theorem LK {E:List CC}{t:Tm}{d:CC}{j:Int}{f:List Tm}(hE:Lz E) (h:C8 E t=some (d,j,f)):f.length≤1000000:=by
 have c:=GR h;have hd:=hE.all d c.mem;have hlo:=c.lo;have hhi:=c.hi;have hlt:j.toNat<d.ctors.length:=by omega
 have hx:=List.getElem?_eq_getElem hlt;have hs:=(hd.din.cs _ (List.getElem_mem hlt)).ty.sz;have hl:=Jq d.ctors[j.toNat].type;have hfx:=hd.fx;have hlen:=c.len;rw[c.fs,List.length_drop];unfold Gk ZC Ev at hlen;rw[CR hx] at hlen;omega
def DB {α:Type}(o:Out α) (p:α→Prop):Prop:=match o with
 | .stuck=>False
 | .fail=>True
 | .ok a=>p a
section
variable {α β σ:Type}
theorem DB.ok {a:α}{p:α→Prop}(h:p a):DB (.ok a) p:=h
theorem DB.ns {o:Out α}{p:α→Prop}(h:DB o p):o≠ .stuck:=fun e=>by rw[e] at h;exact h
theorem DB.get {o:Out α}{p:α→Prop}{a:α}(h:DB o p) (e:o= .ok a):p a:=by rw[e] at h;exact h
theorem DB.mono {o:Out α}{p q:α→Prop}(h:DB o p) (hpq:∀a,p a→q a):DB o q:=by
 cases o with
 | stuck=>exact h
 | fail=>trivial
 | ok a=>exact hpq a h
theorem DB.bind {o:Out α}{k:α→Out β}{p:α→Prop}{q:β→Prop}(h:DB o p) (hk:∀a,p a→DB (k a) q):DB (o.bind k) q:=by
 cases o with
 | stuck=>exact h
 | fail=>trivial
 | ok a=>exact hk a h
theorem DB.chk {o:Out (Tm×σ)}{k:Tm×σ→Out β}{p:Tm×σ→Prop}{q:β→Prop}(h:DB o p) (hk:∀a,p a→okB a.1=true∧DB (k a) q):DB (o.chk k) q :=
 DB.bind h fun a ha=>by rw[if_pos (hk a ha).1];exact(hk a ha).2
theorem DB.put {S:Sys σ}{s:σ}{x:Tm×Int}{k:Tm→σ→Out β}{q:β→Prop}(ho:okB x.1=true) (hk:∀s',S.res s x.1 x.2=some s'→DB (k x.1 s') q):DB (S.put s x k) q:=by
 unfold Sys.put;rw[if_pos ho];cases h:S.res s x.1 x.2 with
 | none=>trivial
 | some s'=>exact hk s' h
end
structure Yy {σ:Type} (S:Sys σ) (J:σ→Prop) (cnt:σ→Nat) (C:Nat):Prop where
 nov:∀s,J s→S.over s=false→cnt s≤C
 res:∀s t e s',J s→cnt s<1152921504606846976→okB t=true→S.res s t e=some s'→J s'∧cnt s'=cnt s+1
 hC:C≤20000
section
variable {σ:Type}(S:Sys σ) (J:σ→Prop) (cnt:σ→Nat) (C:Nat)
structure Sn (s:σ) (t:Tm) (r:Tm×σ):Prop where
 j:J r.2
 ok:okB r.1=true
 le:cnt s≤cnt r.2
 sz:size r.1≤size t+(cnt r.2 - cnt s)*4500
 ub:S.over s=false→cnt r.2≤C+1+size t+(C - cnt s)*4500
 st:S.over s=true→r.2=s
structure oK (n:Nat) (s:σ) (t:Tm):Prop where
 j:J s
 ok:okB t=true
 pm:S.over s=false→size t+(C - cnt s)*4500≤90100000
 fu:S.over s=false→size t+(C - cnt s)*4501+100≤n
 n1:1≤n
def kU (n:Nat) (W:σ→Tm→Out (Tm×σ)):Prop:=∀s t,oK S J cnt C n s t→DB (W s t) (Sn S J cnt C s t)
end
section
variable {σ:Type}{S:Sys σ}{J:σ→Prop}{cnt:σ→Nat}{C:Nat}{E:List CC}{n:Nat}{W:σ→Tm→Out (Tm×σ)}
variable (hS:Yy S J cnt C) (hE:HE E) (hW:kU S J cnt C n W)
structure qE (S:Sys σ) (J:σ→Prop) (cnt:σ→Nat) (C n V Z:Nat) (s:σ) (vars:List Tm) (last:Tm):Prop where
 j:J s
 ok:∀v∈vars,okB v=true
 lok:okB last=true
 pm:S.over s=false→∀v∈vars,size v+(C - cnt s)*4500≤V
 fu:S.over s=false→∀v∈vars,size v+(C - cnt s)*4501+100≤n
 lm:S.over s=false→size last+(C - cnt s)*4500≤V∧size last+(C - cnt s)*4501+100≤n
 zs:∀v∈vars,size v≤Z
 lz:size last≤Z
structure iY (S:Sys σ) (J:σ→Prop) (cnt:σ→Nat) (C n V L Z:Nat) (s:σ) (q:(Option (Tm×List Tm)×Tm)×σ):Prop where
 j:J q.2
 le:cnt s≤cnt q.2
 ub:S.over s=false→cnt q.2≤C+1+V
 st:S.over s=true→q.2=s
 ok:∀b vars,q.1.1=some (b,vars)→okB b=true∧∀v∈vars,okB v=true
 vl:∀b vars,q.1.1=some (b,vars)→vars.length≤L∧BS vars<1125899906842624
 lok:okB q.1.2=true
 lz:q.1.1=none→size q.1.2≤Z+(cnt q.2 - cnt s)*4500
 lm:S.over q.2=false→q.1.1=none→size q.1.2+(C - cnt q.2)*4500≤V∧size q.1.2+(C - cnt q.2)*4501+100≤n
include hS hE hW
theorem VH {V L:Nat}(hV:V≤90100000):∀(m:Nat) (t:E3) (vars:List Tm) (last:Tm) (s:σ) (Z:Nat),DY t≤m→Ew t→1≤n→vars.length+DY t*1000000≤L→BS vars+DY t*549755813888<1125899906842624→qE S J cnt C n V Z s vars last→DB (Dm E S W m t vars last s) (iY S J cnt C n V L Z s)
 | 0,t,vars,last,s,Z,h,_,_,_,_,_=>absurd h (by have:=WU t;omega)
 | m+1,t,vars,last,s,Z,h,ht,hn,hL,hM,hp=>by
  by_cases hk:t.kind=1
  ·by_cases hb:t.var<0∨t.var≥(vars.length:Int)∨S.over s=true
   ·rw[Kl hk hb];exact DB.ok ⟨hp.j,Nat.le_refl _,fun h=>by have:=hS.nov s hp.j h;simp only;omega,fun _=>rfl,fun b v e=>by simp at e,fun b v e=>by simp at e,hp.lok,fun _=>by have:=hp.lz;simp only;omega,fun h _=>hp.lm h⟩
   have hlt:t.var.toNat<vars.length:=by omega
   have ho:S.over s=false:=by simpa using fun e=>hb (.inr (.inr e))
   have hx:=List.getElem?_eq_getElem hlt;have hm:=List.getElem_mem hlt;rw[NA hk hb hx];have hcs:=hS.nov s hp.j ho;refine DB.chk (hW s _ ⟨hp.j,hp.ok _ hm,fun _=>by have:=hp.pm ho _ hm;omega,fun _=>hp.fu ho _ hm,hn⟩) fun r hr=>⟨hr.ok,?_⟩;have hpm:=hp.pm ho _ hm;have hfu:=hp.fu ho _ hm;have hub:=hr.ub ho;have hle:=hr.le;have hsz:=hr.sz;have hlm:S.over r.2=false→size r.1+(C - cnt r.2)*4500≤V∧size r.1+(C - cnt r.2)*4501+100≤n:=fun h=>by have:=hS.nov _ hr.j h;omega
   have hstop:DB (.ok ((none,r.1),r.2)) (iY S J cnt C n V L Z s) :=
    DB.ok ⟨hr.j,hr.le,fun _=>by simp only;omega,fun e=>absurd (ho.symm.trans e) Ao,fun b v e=>by simp at e,fun b v e=>by simp at e,hr.ok,fun _=>by have:=hp.zs _ hm;simp only;omega,fun h _=>hlm h⟩
   cases hc:C8 E r.1 with
   | none=>rw[Ik hc];exact hstop
   | some q =>
    obtain⟨d,j,f⟩:=q;cases hbr:Cl (Ev d j).name t.branches with
    | none=>rw[Kq hc hbr];exact hstop
    | some t' =>
     rw[Kr hc hbr];obtain⟨h1,h2⟩:=Wx hbr ht;obtain⟨h3,h4⟩:=K4 hc hr.ok;have h5:=Gx hr.ok;refine DB.mono (VH (L:=L) hV m t' (vars++f) r.1 r.2 (Z+(cnt r.2 - cnt s)*4500) An h1 hn (by have:=LK hE.g hc;rw[List.length_append];omega) (by rw[IC];omega) ⟨hr.j,fun v hv=>?_,hr.ok,fun h v hv=>?_,fun h v hv=>?_,hlm,fun v hv=>?_,by have:=hp.zs _ hm;omega⟩) fun q hq=>?_
     ·rcases List.mem_append.1 hv with hv | hv
      ·exact hp.ok v hv
      exact(h3 v hv).1
     ·have:=hS.nov _ hr.j h;rcases List.mem_append.1 hv with hv | hv
      ·have:=hp.pm ho v hv;omega
      have:=(h3 v hv).2;omega
     ·have:=hS.nov _ hr.j h;rcases List.mem_append.1 hv with hv | hv
      ·have:=hp.fu ho v hv;omega
      have:=(h3 v hv).2;omega
     ·have hzm:=hp.zs _ hm;rcases List.mem_append.1 hv with hv | hv
      ·have:=hp.zs v hv;omega
      have:=(h3 v hv).2;omega
     refine⟨hq.j,by have:=hq.le;omega,fun _=>?_,fun e=>absurd (ho.symm.trans e) Ao,hq.ok,hq.vl,hq.lok,fun e=>by have:=hq.lz e;have:=hq.le;omega,hq.lm⟩;cases hov:S.over r.2 with
     | true=>rw[hq.st hov];omega
     | false=>exact hq.ub hov
  rw[Jh hk];refine DB.ok ⟨hp.j,Nat.le_refl _,fun h=>by have:=hS.nov s hp.j h;simp only;omega,fun _=>rfl,fun b v e=>?_,fun b v e=>?_,Ho,fun e=>by simp at e,fun h e=>by simp at e⟩
  ·simp only[Option.some.injEq,Prod.mk.injEq] at e;obtain⟨rfl,rfl⟩:=e;refine⟨?_,hp.ok⟩;obtain⟨k,b,v,l⟩:=t;simp only[Ew] at ht;exact ht.1
  simp only[Option.some.injEq,Prod.mk.injEq] at e;obtain⟨rfl,rfl⟩:=e;omega
end
section
variable {σ:Type}{S:Sys σ}{J:σ→Prop}{cnt:σ→Nat}{C:Nat}{E:List CC}{n:Nat}{W:σ→Tm→Out (Tm×σ)}
structure Xs (S:Sys σ) (J:σ→Prop) (cnt:σ→Nat) (C:Nat) (s:σ) (z:Nat) (r:Option Tm×σ):Prop where
 j:J r.2
 le:cnt s≤cnt r.2
 ub:cnt r.2≤C+1+z+(C - cnt s)*4500
 ok:∀x,r.1=some x→okB x=true∧cnt s+1≤cnt r.2∧size x≤z+(cnt r.2 - cnt s)*4500
variable (hS:Yy S J cnt C)
include hS
theorem Zt {d:CC}{h:Tm}{a:List Tm}{s:σ}(hj:J s) (hc:cnt s≤C) (hv:okB d.value=true) (hs:size d.value≤400) (ha:∀x∈a,okB x=true) (hz:size h+BS a+a.length≤90100000):DB (Ek S d h a s) (Xs S J cnt C s (size h+BS a+a.length)):=by
 have hC:=hS.hC;by_cases he:(By d.value h.levels).2=0
 ·rw[Qs he];have h1:=K0 h.levels hv;have h2:=Nz h.levels hv;refine DB.put h2 fun s' hs'=>?_;obtain⟨h3,h4⟩:=hS.res _ _ _ _ hj An h2 hs';have h5:=EB a (By d.value h.levels).1;refine DB.ok ⟨h3,by simp only;omega,by simp only;omega,fun x hx=>?_⟩;simp only[Option.some.injEq] at hx;subst hx;exact⟨Jd h2 ha An,by simp only;omega,by simp only;omega⟩
 rw[Rz he];exact DB.ok ⟨hj,Nat.le_refl _,by simp only;omega,fun x hx=>by cases hx⟩
theorem dH {b h:Tm}{vars rest:List Tm}{s:σ}{z:Nat}(hj:J s) (hc:cnt s≤C) (hb:okB b=true) (hv:∀v∈vars,okB v=true) (hl:vars.length<549755813888) (hsv:BS vars<1125899906842624) (hr:∀x∈rest,okB x=true) (hz:BS rest+rest.length≤z) (hz2:z≤90100000):DB (HW S h b vars rest s) (fun r=>J r.2∧cnt s≤cnt r.2∧cnt r.2≤cnt s+1∧∀x,r.1=some x→okB x=true∧cnt r.2=cnt s+1∧size x≤z+4096):=by
 have hC:=hS.hC;by_cases he:(By b h.levels).2=0
 ·have h1:=Nz h.levels hb;have hvr:∀v∈vars.reverse,okB v=true:=fun v hm=>hv v (List.mem_reverse.1 hm);have h2:=Lk h1 hvr (by rw[List.length_reverse];exact hl);have h3:=Ip h1 hvr;rw[HW,if_neg An,if_neg (by simp only[not_or,Bool.not_eq_false];exact⟨h1,List.all_eq_true.2 hv,by omega⟩)];refine DB.put h2 fun s' hs'=>?_;obtain⟨h4,h5⟩:=hS.res _ _ _ _ hj An h2 hs';have h6:=EB rest (CI (By b h.levels).1 vars.reverse 0).1;refine DB.ok ⟨h4,by simp only;omega,by simp only;omega,fun x hx=>?_⟩;simp only[Option.some.injEq] at hx;subst hx;exact⟨Jd h2 hr An,by simp only;omega,by omega⟩
 rw[Pp he];exact DB.ok ⟨hj,Nat.le_refl _,by simp only;omega,fun x hx=>by cases hx⟩
variable (hE:HE E)
include hE
theorem bH {d:CC}{h m:Tm}{a:List Tm}{s:σ}(hd:d∈E) (hj:J s) (hc:cnt s≤90200000) (hm:okB m=true) (ha:∀x∈a,okB x=true) {z:Nat}{y:Tm}(hy:a[(CU d).toNat]?=some y) (hz:BS a+a.length+size m≤z+size y) (hz2:z≤500000000000) :
  DB (Et E S d h a m s) (fun r=>J r.2∧cnt s≤cnt r.2∧cnt r.2≤cnt s+1∧∀x,r.1=some x→okB x=true∧cnt r.2=cnt s+1∧size x≤z+4500):=by
 have hg:=hE.g.all d hd;have hnone:DB (.ok (none,s)) (fun r:Option Tm×σ=>J r.2∧cnt s≤cnt r.2∧cnt r.2≤cnt s+1∧∀x,r.1=some x→okB x=true∧cnt r.2=cnt s+1∧size x≤z+4500) :=
  DB.ok ⟨hj,Nat.le_refl _,by simp only;omega,fun x hx=>by cases hx⟩
 cases hcw:C8 E m with
 | none=>rw[Sf hcw];exact hnone
 | some q =>
  obtain⟨e,j,f⟩:=q;by_cases hn:e.name≠d.name∨j≥(d.recs.rules.length:Int)
  ·rw[XY hcw hn];exact hnone
  have hcf:=GR hcw;have hlo:=hcf.lo;have hlt:j.toNat<d.recs.rules.length:=by omega
  have hr:=List.getElem?_eq_getElem hlt;have hrm:=List.getElem_mem hlt;by_cases he:(By d.recs.rules[j.toNat] h.levels).2=0
  ·rw[TD hcw hn hr he];have h1:=hg.ru _ hrm;have h2:=Nz h.levels h1;have h3:=K0 h.levels h1;have h4:=hE.ru d hd _ hrm;obtain⟨h5,h6⟩:=K4 hcw hm;have hni:=(Ha hg.din hg.fx).1;have hf0:=hg.fx.1;have hk:(d.fixed+1+d.ctors.length).toNat≤(CU d).toNat:=by unfold CU;omega
   have hnn:(CU d+1).toNat=(CU d).toNat+1:=by unfold CU;omega
   have t1:=FO a (CU d).toNat;have t2:=FO (a.take (CU d).toNat) (d.fixed+1+d.ctors.length).toNat;rw[List.take_take,Nat.min_eq_left hk] at t2;rw[Cm hy] at t1;simp only[BS] at t1;have hlen:=(List.getElem?_eq_some_iff.1 hy).1;have u1:=EB (a.take (d.fixed+1+d.ctors.length).toNat) (By d.recs.rules[j.toNat] h.levels).1;have u2:=EB f (apply (By d.recs.rules[j.toNat] h.levels).1 (a.take (d.fixed+1+d.ctors.length).toNat));have hl1:(a.take (d.fixed+1+d.ctors.length).toNat).length≤(CU d).toNat:=by rw[List.length_take];omega
   have hl2:(a.drop ((CU d).toNat+1)).length+(CU d).toNat+1=a.length:=by rw[List.length_drop];omega
   have h7:okB (apply (apply (By d.recs.rules[j.toNat] h.levels).1 (a.take (d.fixed+1+d.ctors.length).toNat)) f)=true :=
    KO (IN (IN (Hp h2) fun x hx=>Hp (ha x (List.mem_of_mem_take hx))) fun x hx=>Hp (h5 x hx).1) (by rw[u2,u1];omega)
   refine DB.put h7 fun s' hs'=>?_;obtain⟨h8,h9⟩:=hS.res _ _ _ _ hj An h7 hs';have u3:=EB (a.drop (CU d+1).toNat) (apply (apply (By d.recs.rules[j.toNat] h.levels).1 (a.take (d.fixed+1+d.ctors.length).toNat)) f);rw[hnn] at u3;refine DB.ok ⟨h8,by simp only;omega,by simp only;omega,fun x hx=>?_⟩;simp only[Option.some.injEq] at hx;subst hx;rw[hnn];exact⟨KO (IN (Hp h7) fun x hx=>Hp (ha x (List.mem_of_mem_drop hx))) An,h9,by omega⟩
  rw[VQ hcw hn hr he];exact hnone
variable (hW:kU S J cnt C n W)
include hW
theorem Zr {h:Tm}{a:List Tm}{s:σ}(hn:100≤n) (hj:J s) (ho:S.over s=false) (ha:∀x∈a,okB x=true) (hz:size h+BS a+a.length+(C - cnt s)*4500≤90100000) (hf:size h+BS a+a.length+(C - cnt s)*4501+100≤n+1) :
  DB (Dy E S W n h a s) (Xs S J cnt C s (size h+BS a+a.length)):=by
 have hC:=hS.hC;have hc:=hS.nov s hj ho;have hh:=size_pos h;have hnone:DB (.ok (none,s)) (Xs S J cnt C s (size h+BS a+a.length)):=DB.ok ⟨hj,Nat.le_refl _,by simp only;omega,fun x hx=>by cases hx⟩;cases hu:V1 E h with
 | false=>rw[QL hu];exact hnone
 | true =>
  obtain⟨i,d,h1,h2,hd,h3⟩:=NI hu;have hg:=hE.g.all d hd;by_cases k1:(Bq E h.name).1.kind=1
  ·rw[SE hu h3 k1];exact Zt hS hj hc hg.vl (hE.vl d hd) ha An
  by_cases k5:(Bq E h.name).1.kind=5
  ·rw[Si hu h3 k5];by_cases hl:(a.length:Int)≤CU d
   ·rw[Xo hl];exact hnone
   have hni:=(Ha hg.din hg.fx).1;have hf0:=hg.fx.1;have hlt:(CU d).toNat<a.length:=by unfold CU at *;omega
   have hy:=List.getElem?_eq_getElem hlt;have hym:=List.getElem_mem hlt;have hys:=HH hym;rw[cm hl hy];refine DB.chk (hW s _ ⟨hj,ha _ hym,fun _=>by omega,fun _=>by omega,by omega⟩) fun r hr=>⟨hr.ok,?_⟩;have hub:=hr.ub ho;have hsz:=hr.sz;have hle:=hr.le;refine DB.mono (bH hS hE hd hr.j An hr.ok ha (z:=BS a+a.length+(cnt r.2 - cnt s)*4500) hy An An) fun q hq=>?_;obtain⟨q1,q2,q3,q4⟩:=hq;exact⟨q1,by omega,by omega,fun x hx=>by obtain⟨q5,q6,q7⟩:=q4 x hx;exact⟨q5,by omega,by omega⟩⟩
  by_cases k6:(Bq E h.name).1.kind=6
  ·obtain⟨k,f,h4,h5⟩:=h2.func k6;have hf3:d.funs[(Bq E h.name).1.item.toNat]?=some f:=by rw[h5];simpa using h4
   have hfm:=List.mem_of_getElem? h4;obtain⟨f1,f2,f3⟩:=hg.fu f hfm;rw[Sg hu h3 k6 hf3];by_cases hl:(a.length:Int)<f.arity
   ·rw[SN hl];exact hnone
   rw[Ud hl];have hts:=FO a f.arity.toNat;refine DB.bind (VH hS hE hW (V:=size h+BS a+a.length - 1+(C - cnt s)*4500) (L:=60000000) An n f.tree (a.take f.arity.toNat) BZ s (size h+BS a+a.length) (by have:=hE.fu d hd f hfm;omega) f3 An (by have:=hE.fu d hd f hfm;rw[List.length_take];omega) (by have:=hE.fu d hd f hfm;omega)
    ⟨hj,fun v hv=>ha v (List.mem_of_mem_take hv),Ho,fun _ v hv=>by have:=HH (List.mem_of_mem_take hv);omega,fun _ v hv=>by have:=HH (List.mem_of_mem_take hv);omega,fun _=>?_,fun v hv=>by have:=HH (List.mem_of_mem_take hv);omega,by have:size BZ=1:=rfl;omega⟩) fun q hq=>?_
   ·have:size BZ=1:=rfl;have:1≤a.length:=by omega
    omega
   have hub:=hq.ub ho;have hle:=hq.le;have hstop:DB (.ok (none,q.2)) (Xs S J cnt C s (size h+BS a+a.length)):=DB.ok ⟨hq.j,hq.le,by simp only;omega,fun x hx=>by cases hx⟩;unfold N3;cases hq1:q.1.1 with
   | none=>exact hstop
   | some bv =>
    obtain⟨b,vars⟩:=bv;obtain⟨o1,o2⟩:=hq.ok b vars hq1;simp only;cases hov:S.over q.2 with
    | true=>rw[if_pos rfl];exact hstop
    | false =>
     rw[if_neg Ao];have hc2:=hS.nov _ hq.j hov;refine DB.mono (dH hS (z:=BS a+a.length) hq.j hc2 o1 o2 (by have:=(hq.vl b vars hq1).1;omega) (hq.vl b vars hq1).2 (fun x hx=>ha x (List.mem_of_mem_drop hx)) (by rw[List.length_drop];omega) An) fun r hr=>?_;obtain⟨q1,q2,q3,q4⟩:=hr;exact⟨q1,by omega,by omega,fun x hx=>by obtain⟨q5,q6,q7⟩:=q4 x hx;exact⟨q5,by omega,by omega⟩⟩
  rw[K1 hu k1 k5 k6];exact hnone
end
theorem It {h:Tm}(ho:okB h=true) {i:Nat}(hi:(i:Int)<arity h.kind):∃x,h.kids[i]?=some x∧okB x=true∧size x<size h:=by
 obtain⟨k,j,n,l,ks⟩:=h;have hw:=(CY.1 ho).wt;simp only[Wt] at hw;simp only[Tm.kind] at hi;have hlt:i<ks.length:=by have:=hw.1;omega
 have hx:(Tm.mk k j n l ks).kids[i]?=some ks[i]:=List.getElem?_eq_getElem hlt;exact⟨ks[i],hx,HS ho hx,by have:=Cb (List.getElem?_eq_getElem hlt);simp only[size];omega⟩
section
variable {σ:Type}{S:Sys σ}{J:σ→Prop}{cnt:σ→Nat}{C:Nat}{E:List CC}
variable (hS:Yy S J cnt C) (hE:HE E)
include hS
theorem j5 {β:Type}{s:σ}{x:Tm×Int}{k:Tm→σ→Out β}{q:β→Prop}(hj:J s) (hc:cnt s<1152921504606846976) (ho:okB x.1=true) (hk:∀s',J s'→cnt s'=cnt s+1→DB (k x.1 s') q):DB (S.put s x k) q :=
 DB.put ho fun s' hs'=>by obtain⟨h1,h2⟩:=hS.res _ _ _ _ hj hc ho hs';exact hk s' h1 h2
theorem kc {β:Type}{h:Tm}{a:List Tm}{s:σ}{k:Tm→σ→Out β}{q:β→Prop}(hj:J s) (hc:cnt s<1152921504606846976) (hh:okB h=true) (ha:∀x∈a,okB x=true) (hk:h.kind=5) (hl:a.length≠0) (hz:BS a+a.length<500000000000)
  (hq:∀x s',J s'→cnt s'=cnt s+1→okB x=true→size x≤4096+BS a+a.length→DB (k x s') q):DB (KT S h a s k) q:=by
 obtain⟨b,hb,ho,hs⟩:=It hh (i:=1) (by rw[hk];decide);rw[KT,hb];simp only;have hv:∀v∈a.take 1,okB v=true:=fun v hv=>ha v (List.mem_of_mem_take hv);have h1:=Lk ho hv (by rw[List.length_take];omega);have h2:=Ip ho hv;refine j5 hS hj hc h1 fun s' g1 g2=>?_;have h3:=FO a 1;have h4:=EB (a.drop 1) (CI b (a.take 1) 0).1;have h5:(a.drop 1).length≤a.length:=by rw[List.length_drop];omega
 exact hq _ s' g1 g2 (Jd h1 (fun x hx=>ha x (List.mem_of_mem_drop hx)) An) An
theorem pQ {β:Type}{h:Tm}{a:List Tm}{s:σ}{k:Tm→σ→Out β}{q:β→Prop}(hj:J s) (hc:cnt s<1152921504606846976) (hh:okB h=true) (ha:∀x∈a,okB x=true) (hk:h.kind=11) (hz:BS a+a.length<500000000000)
  (hq:∀x s',J s'→cnt s'=cnt s+1→okB x=true→size x≤4096+BS a+a.length→DB (k x s') q):DB (PE S h a s k) q:=by
 obtain⟨v,hv,ho,hs⟩:=It hh (i:=1) (by rw[hk];decide);obtain⟨b,hb,ho2,hs2⟩:=It hh (i:=2) (by rw[hk];decide);rw[PE,hv,hb];simp only;have hvs:∀x∈[v],okB x=true:=fun x hx=>by rw[List.mem_singleton.1 hx];exact ho
 have h1:=Lk ho2 hvs Ao;have h2:=Ip ho2 hvs;refine j5 hS hj hc h1 fun s' g1 g2=>?_;have h4:=EB a (CI b [v] 0).1;exact hq _ s' g1 g2 (Jd h1 ha An) An
theorem nI {β:Type}{h p:Tm}{a:List Tm}{s:σ}{k:Tm→σ→Out β}{q:β→Prop}(hj:J s) (hc:cnt s<1152921504606846976) (hp:okB p=true) (ha:∀x∈a,okB x=true) (hk:h.kind=9∨h.kind=10) (h8:p.kind=8) (hz:size p+BS a+a.length<540000000000)
  (hq:∀x s',J s'→cnt s'=cnt s+1→okB x=true→size x<size p+BS a+a.length→DB (k x s') q):DB (JU S h p a s k) q:=by
 have har:arity 8=3:=rfl;obtain⟨y,hy,ho,hs⟩:=It hp (i:=(1+h.kind - 9).toNat) (by rw[h8,har];omega);rw[JU,hy];simp only;refine j5 hS hj hc ho fun s' g1 g2=>?_;have h4:=EB a y;exact hq (apply y a) s' g1 g2 (Jd ho ha An) An
include hE
theorem WJ:∀n,kU S J cnt C n (DJ E S n)
 | 0=>fun s t hp=>absurd hp.n1 An
 | n+1=>fun s t hp=>by
  have ih:=WJ n;have hC:=hS.hC;cases ho:S.over s with
  | true=>rw[gA hp.ok ho];exact DB.ok ⟨hp.j,hp.ok,Nat.le_refl _,by simp,fun h=>absurd (ho.symm.trans h) Ao,fun _=>rfl⟩
  | false =>
   have hc:=hS.nov s hp.j ho;have hpm:=hp.pm ho;have hfu:=hp.fu ho;have hst:=size_pos t;have hss:=Ie t;obtain⟨oh,oa⟩:=Jk hp.ok;have hsame:∀s',J s'→cnt s≤cnt s'→cnt s'≤C+1+size t+(C - cnt s)*4500→DB (.ok (t,s')) (Sn S J cnt C s t):=fun s' g1 g2 g3 =>
    DB.ok ⟨g1,hp.ok,g2,by simp only;omega,fun _=>g3,fun e=>absurd (ho.symm.trans e) Ao⟩
   have cont:∀(x:Tm) (s':σ),J s'→okB x=true→cnt s+1≤cnt s'→size x≤size t+(cnt s' - cnt s)*4500→cnt s'≤C+1+size t+(C - cnt s)*4500→DB (DJ E S n s' x) (Sn S J cnt C s t):=by
    intro x s' g1 g2 g3 g4 g5;refine DB.mono (ih s' x ⟨g1,g2,fun h=>by have:=hS.nov _ g1 h;omega,fun h=>by have:=hS.nov _ g1 h;omega,by omega⟩) fun r hr=>?_;have hle:=hr.le;have hsz:=hr.sz;refine⟨hr.j,hr.ok,by omega,by omega,fun _=>?_,fun e=>absurd (ho.symm.trans e) Ao⟩;cases hov:S.over s' with
    | true=>rw[hr.st hov];exact g5
    | false=>have:=hr.ub hov;have:=hS.nov _ g1 hov;omega
   cases hm:S.many (A9 t).2.length with
   | true=>rw[YB hp.ok ho hm];trivial
   | false =>
    by_cases k5:(A9 t).1.kind=5
    ·by_cases hl:(A9 t).2.length=0
     ·rw[YT hp.ok ho hm k5 hl];exact hsame s hp.j (Nat.le_refl _) An
     obtain⟨b,hb,_⟩:=It oh (i:=1) (by rw[k5];decide);have e:=W5 (E:=E) (n:=n) hp.ok ho hm k5 hl hb;rw[e];have hbt:=kc hS (k:=fun x s'=>DJ E S n s' x) (q:=Sn S J cnt C s t) hp.j An oh oa k5 hl An fun x s' g1 g2 g3 g4=>cont x s' g1 g3 An An An;rw[KT,hb] at hbt;exact hbt
    by_cases k11:(A9 t).1.kind=11
    ·obtain⟨v,hv,_⟩:=It oh (i:=1) (by rw[k11];decide);obtain⟨b,hb,_⟩:=It oh (i:=2) (by rw[k11];decide);rw[XO (E:=E) (n:=n) hp.ok ho hm k11 hv hb];have hbt:=pQ hS (k:=fun x s'=>DJ E S n s' x) (q:=Sn S J cnt C s t) hp.j An oh oa k11 An fun x s' g1 g2 g3 g4=>cont x s' g1 g3 An An An;rw[PE,hv,hb] at hbt;exact hbt
    by_cases k9:(A9 t).1.kind=9∨(A9 t).1.kind=10
    ·obtain⟨p,hpk,op,sp⟩:=It oh (i:=0) (by rcases k9 with h | h<;>rw[h]<;>decide);rw[T5 (E:=E) (n:=n) hp.ok ho hm k9 hpk];refine DB.chk (ih s p ⟨hp.j,op,fun _=>by omega,fun _=>by omega,by omega⟩) fun r hr=>⟨hr.ok,?_⟩;have hub:=hr.ub ho;have hsz:=hr.sz;have hle:=hr.le;by_cases k8:r.1.kind=8
     ·have e:QH E S n (A9 t).1 (A9 t).2 r=JU S (A9 t).1 r.1 (A9 t).2 r.2 fun x s'=>DJ E S n s' x:=by rw[QH,if_neg An]
      rw[e];exact nI hS hr.j An hr.ok oa k9 k8 An fun x s' g1 g2 g3 g4=>cont x s' g1 g3 An An An
     rw[Va k8];have h4:=EB (A9 t).2 (Je (A9 t).1.kind r.1);have h5:size (Je (A9 t).1.kind r.1)=1+size r.1:=by simp only[Je,size,BS];omega
     have h6:1+size p≤size (A9 t).1:=by omega
     exact DB.ok ⟨hr.j,Jd (eJ k9 hr.ok An) oa An,hle,by simp only;omega,fun _=>by simp only;omega,fun e=>absurd (ho.symm.trans e) Ao⟩
    by_cases k3:(A9 t).1.kind=3
    ·rw[Vg (E:=E) (n:=n) hp.ok ho hm k3];refine DB.bind (Zr hS hE ih An hp.j ho oa An An) fun r hr=>?_;have hub:=hr.ub;unfold YN;cases hr1:r.1 with
     | none=>exact hsame r.2 hr.j hr.le An
     | some x =>
      obtain⟨g1,g2,g3⟩:=hr.ok x hr1;exact cont x r.2 hr.j g1 g2 An An
    rw[dA (E:=E) (n:=n) hp.ok ho hm k5 k11 (fun h=>k9 (.inl h)) (fun h=>k9 (.inr h)) k3];exact hsame s hp.j (Nat.le_refl _) An
end
def Tt:Tm→List Int→Tm→Prop
 | t,[],v=>t=v
 | t,p::ps,v=>∃y,(A9 t).2[p.toNat]?=some y∧Tt y ps v
theorem SO {k:Int}{w:Tm}:∀{ps:List Int}{t v:Tm},Tt t ps v→(A9 v).2[k.toNat]?=some w→Tt t (ps++[k]) w
 | [],t,v,h,hw=>by cases h;exact⟨w,hw,rfl⟩
 | p::ps,t,v,⟨y,h1,h2⟩,hw=>⟨y,h1,SO h2 hw⟩
structure dF (a vars:List Tm) (pl:List (Int×List Int)):Prop where
 len:pl.length=vars.length
 at_:∀(i:Nat) v,vars[i]?=some v→∃j path y,pl[i]?=some (j,path)∧a[j.toNat]?=some y∧Tt y path v
theorem J8 (p:Int×List Int) (fx:Int) (n:Nat):(EI p fx n).length=n:=by simp[EI]
theorem dF.more {a vars:List Tm}{pl:List (Int×List Int)}(h:dF a vars pl) {i:Nat}{v:Tm}{p:Int×List Int}(hv:vars[i]?=some v) (hp:pl[i]?=some p) {fx:Int}(hfx:0≤fx):dF a (vars++(A9 v).2.drop fx.toNat) (pl++EI p fx ((A9 v).2.drop fx.toNat).length):=by
 refine⟨by rw[List.length_append,List.length_append,h.len,J8],fun q w hw=>?_⟩;by_cases hq:q<vars.length
 ·rw[List.getElem?_append_left hq] at hw;rw[List.getElem?_append_left (by rw[h.len];exact hq)];exact h.at_ q w hw
 rw[List.getElem?_append_right An] at hw;rw[List.getElem?_append_right (by rw[h.len];omega),h.len];obtain⟨j,path,y,h1,h2,h3⟩:=h.at_ i v hv;rw[hp] at h1;cases h1;have hlt:=(List.getElem?_eq_some_iff.1 hw).1;rw[List.getElem?_drop] at hw;refine⟨j,path++[fx+((q - vars.length:Nat):Int)],y,?_,h2,SO h3 (by rw[show (fx+((q - vars.length:Nat):Int)).toNat=fx.toNat+(q - vars.length) by omega];exact hw)⟩;rw[EI,List.getElem?_map,List.getElem?_range hlt];rfl
theorem ZB (a:List Tm) (n:Nat) (hn:n≤a.length):dF a (a.take n) ((List.range n).map fun i:Nat=>((i:Int),[])):=by
 refine⟨by simp;omega,fun i v hv=>?_⟩;have hlt:=(List.getElem?_eq_some_iff.1 hv).1;rw[List.length_take] at hlt;rw[List.getElem?_take_of_lt An] at hv;exact⟨(i:Int),[],v,by rw[List.getElem?_map,List.getElem?_range An];rfl,by simpa using hv,rfl⟩
section
variable {σ:Type}{S:Sys σ}{J:σ→Prop}{cnt:σ→Nat}{C:Nat}{E:List CC}
structure qW (S:Sys σ) (J:σ→Prop) (cnt:σ→Nat) (s:σ) (z:Nat) (r:Option Tm×σ):Prop where
 j:J r.2
 le:cnt s≤cnt r.2
 ub:cnt r.2≤cnt s+1
 ok:∀x,r.1=some x→okB x=true∧size x≤z+4500
variable (hS:Yy S J cnt C) (hE:HE E)
omit hS hE in
include hS
include hE
end
section
variable {σ:Type}{S:Sys σ}{J:σ→Prop}{cnt:σ→Nat}{C:Nat}{E:List CC}
variable (hS:Yy S J cnt C) (hE:HE E)
include hS hE
end
def qm (c:IV):Prop:=c.limit=1000∧0≤c.steps∧(c.over=false→c.steps≤1000)
def F8 (n:Int):Prop:=0≤n∧n≤20000
theorem Xq:Yy Bo F8 (fun n=>(20000 - n).toNat) 20000:=by
 refine⟨fun n h _=>?_,fun n t e n' h hc ho hr=>?_,by omega⟩
 ·have:=h.1;omega
 simp only[Bo] at hr;split at hr
 ·cases hr
 cases hr;unfold F8 at *;omega
theorem NQ {E:List CC}{nm:ByteArray}(h:(Ds E nm).2.2=true):Gm E nm=some ((Ds E nm).1,(Ds E nm).2.1):=by
 unfold Ds at h ⊢;split at h
 ·rename_i d j e;rw[e]
 cases h
theorem gU {E:List CC}{nm:ByteArray}(h:(Ds E nm).2.2=false):Gm E nm=none:=by
 unfold Ds at h;split at h
 ·cases h
 rename_i e;exact e
theorem iq {E:List CC}{nm:ByteArray}(hE:Lz E) (h:(Ds E nm).2.2=true) (hj:¬(Ds E nm).2.1<0):OB (Ds E nm).1∧(0≤(Ds E nm).1.fixed∧(Ds E nm).1.fixed≤1000000)∧0≤(Ds E nm).2.1∧(Ds E nm).2.1<(Ds E nm).1.ctors.length:=by
 obtain⟨h1,h2⟩:=S7 (NQ h);exact⟨(hE.all _ h1).din,(hE.all _ h1).fx,by omega,h2 An⟩
section
variable {E:List CC}{t:Tm}{k i:Int}{n:ByteArray}{ls:List CX}{ks:List Tm}
theorem eQ (hz:(A9 t).1= .mk k i n ls ks) (h:k≠3):C8 E t=none:=by
 have hk:(A9 t).1.kind=k:=by rw[hz];rfl
 unfold C8;rw[if_pos An]
theorem eW (hz:(A9 t).1= .mk k i n ls ks) (h3:k=3) (h:(Ds E n).2.2=false∨(Ds E n).2.1<0):C8 E t=none:=by
 have hk:(A9 t).1.kind=k:=by rw[hz];rfl
 have hnm:(A9 t).1.name=n:=by rw[hz];rfl
 unfold C8;rw[if_neg An,hnm];cases hf:(Ds E n).2.2 with
 | false=>rw[gU hf]
 | true =>
  rw[NQ hf];rcases h with h | h
  ·rw[hf] at h;cases h
  simp only[if_pos h]
theorem fP (hz:(A9 t).1= .mk k i n ls ks) (h3:k=3) (hf:(Ds E n).2.2=true) (hj:¬(Ds E n).2.1<0) (h:((A9 t).2.length:Int)≠(Ds E n).1.fixed+Gk (Ds E n).1 (Ds E n).2.1):C8 E t=none:=by
 have hk:(A9 t).1.kind=k:=by rw[hz];rfl
 have hnm:(A9 t).1.name=n:=by rw[hz];rfl
 unfold C8;rw[if_neg An,hnm,NQ hf];simp only[if_neg hj,if_pos h]
theorem jB (hz:(A9 t).1= .mk k i n ls ks) (h3:k=3) (hf:(Ds E n).2.2=true) (hj:¬(Ds E n).2.1<0) (h:((A9 t).2.length:Int)=(Ds E n).1.fixed+Gk (Ds E n).1 (Ds E n).2.1):C8 E t=some ((Ds E n).1,(Ds E n).2.1,(A9 t).2.drop (Ds E n).1.fixed.toNat):=by
 have hk:(A9 t).1.kind=k:=by rw[hz];rfl
 have hnm:(A9 t).1.name=n:=by rw[hz];rfl
 unfold C8;rw[if_neg An,hnm,NQ hf];simp only[if_neg hj,if_neg (show ¬((A9 t).2.length:Int)≠(Ds E n).1.fixed+Gk (Ds E n).1 (Ds E n).2.1 by omega)]
end
theorem WV {d:CC}{j:Int}(h:OB d) (h0:0≤j) (h1:j<d.ctors.length) (hf:0≤d.fixed):0≤Gk d j∧Gk d j≤1000000:=by
 have hlt:j.toNat<d.ctors.length:=by omega
 have hx:=List.getElem?_eq_getElem hlt;have hs:=(h.cs _ (List.getElem_mem hlt)).ty.sz;have hl:=Jq d.ctors[j.toNat].type;unfold Gk ZC Ev;rw[CR hx];omega
section
variable {E:List CC}{t:Tm}{k i:Int}{n:ByteArray}{ls:List CX}{ks:List Tm}
end
theorem QJ {d:CC}{j:Int}{x:Hq}(hx:d.ctors[j.toNat]?=some x) (hf:0≤d.fixed):d.fixed+Gk d j=max d.fixed (((Hk x.type).1.length:Nat):Int):=by
 unfold Gk ZC Ev;rw[CR hx];omega
def CN (E:List CC) (t:Tm):CC×Int×List Tm×Bool:=match C8 E t with
 | some (d,j,l)=>(d,j,l,true)
 | none=>(Uz,0,[],false)
theorem PR {E:List CC}{t:Tm}(h:C8 E t=none):CN E t=(Uz,0,[],false):=by unfold CN;rw[h]
theorem TR {E:List CC}{t:Tm}{d:CC}{j:Int}{l:List Tm}(h:C8 E t=some (d,j,l)):CN E t=(d,j,l,true):=by unfold CN;rw[h]
theorem Mt {E:List CC}{t:Tm}(h:(CN E t).2.2.2=true):C8 E t=some ((CN E t).1,(CN E t).2.1,(CN E t).2.2.1):=by
 cases e:C8 E t with
 | none=>rw[PR e] at h;cases h
 | some q=>obtain⟨d,j,l⟩:=q;rw[TR e]
theorem PW {E:List CC}{t:Tm}(h:(CN E t).2.2.2=false):C8 E t=none:=by
 cases e:C8 E t with
 | none=>rfl
 | some q=>obtain⟨d,j,l⟩:=q;rw[TR e] at h;cases h
end Go.Eu
namespace Go.Eu
def Lv (nm:ByteArray):List F7→Int→Int
 | [],_=> -1
 | b::l,i=>if b.ctor=nm then i else Lv nm l (i+1)
theorem fW {nm:ByteArray}{l:List F7}{i:Nat}{x:F7}{k:Int}(h:l[i]?=some x) (e:x.ctor.toList=nm.toList):Lv nm (l.drop i) k=k:=by
 rw[Cm h,Lv,if_pos (G1 e)]
theorem j0 {nm:ByteArray}{l:List F7}{i:Nat}{x:F7}{k:Int}(h:l[i]?=some x) (e:¬x.ctor.toList=nm.toList):Lv nm (l.drop i) k=Lv nm (l.drop (i+1)) (k+1):=by
 rw[Cm h,Lv,if_neg (fun q=>e (by rw[q]))]
theorem XH {nm:ByteArray}:∀(l:List F7) (k:Int),0≤k→Lv nm l k<0∧Cl nm l=none∨∃(j:Nat) (x:F7),Lv nm l k=k+j∧l[j]?=some x∧Cl nm l=if x.absurd=true then none else some x.tree
 | [],k,h=> .inl ⟨by simp[Lv],rfl⟩
 | b::l,k,h=>by
  rw[Lv,Cl];split
  ·exact .inr ⟨0,b,by simp,rfl,rfl⟩
  rcases XH l (k+1) An with h1 | ⟨j,x,h1,h2,h3⟩
  ·exact .inl h1
  exact .inr ⟨j+1,x,by rw[h1];push_cast;omega,by simpa using h2,h3⟩
theorem dz {nm:ByteArray}{l:List F7}(h:Lv nm l 0<0):Cl nm l=none:=by
 rcases XH (nm:=nm) l 0 An with h1 | ⟨j,x,h1,h2,h3⟩
 ·exact h1.2
 omega
theorem jo {nm:ByteArray}{l:List F7}(h:¬Lv nm l 0<0):∃x,l[(Lv nm l 0).toNat]?=some x∧Cl nm l=if x.absurd=true then none else some x.tree:=by
 rcases XH (nm:=nm) l 0 An with h1 | ⟨j,x,h1,h2,h3⟩
 ·exact absurd h1.1 h
 exact⟨x,by rw[h1];simpa using h2,h3⟩
end Go.Eu
namespace Go.Eu
open Go.Abs
theorem dj {nm:ByteArray}:∀{l:List F7}{t:E3},Cl nm l=some t→Me l→Gj t
 | .mk c a q::l,t,h,ho=>by
  simp only[Me,Qe] at ho;rw[Cl] at h;split at h
  ·split at h
   ·cases h
   cases h;exact ho.1.2
  exact dj h ho.2
theorem nA {nm:ByteArray}{t t':E3}(h:Cl nm t.branches=some t') (ho:Gj t):Gj t':=dj h ho.bs
def N0 (q:Option (Tm×List Tm)×Tm):Tm:=match q.1 with
 | some (b,_)=>b
 | none=>BZ
def SU (q:Option (Tm×List Tm)×Tm):List Tm:=match q.1 with
 | some (_,v)=>v
 | none=>[]
structure VO (y:E3) (us:List Tm):Prop where
 tin:Gj y
 tok:Ew y
 len:us.length+DY y*1000000≤100000000
 ok:∀v∈us,okB v=true
theorem VO.next {E:List CC}{y q:E3}{us f:List Tm}{x:Tm}{nm:ByteArray}{d:CC}{j:Int}(h:VO y us) (hE:Lz E) (hx:okB x=true) (hc:C8 E x=some (d,j,f)) (hb:Cl nm y.branches=some q):VO q (us++f):=by
 obtain⟨h1,h2⟩:=Wx hb h.tok;have h3:=LK hE hc;have h4:=h.len;refine⟨nA hb h.tin,h1,by rw[List.length_append];omega,fun v hv=>?_⟩;rcases List.mem_append.1 hv with hv | hv
 ·exact h.ok v hv
 exact((K4 hc hx).1 v hv).1
def Wr:E3:= .mk 0 BZ 0 []
def rS (nm:ByteArray):List F7→E3×Bool
 | []=>(Wr,false)
 | b::l=>if b.ctor=nm then (b.tree,!b.absurd) else rS nm l
def Z2 (nm:ByteArray) (l:List F7):E3×Bool:=match Cl nm l with
 | some q=>(q,true)
 | none=>(Wr,false)
theorem bF {nm:ByteArray}{l:List F7}(h:Cl nm l=none):Z2 nm l=(Wr,false):=by unfold Z2;rw[h]
theorem bj {nm:ByteArray}{l:List F7}{q:E3}(h:Cl nm l=some q):Z2 nm l=(q,true):=by unfold Z2;rw[h]
theorem US {nm:ByteArray}{l:List F7}(h:(Z2 nm l).2=true):Cl nm l=some (Z2 nm l).1:=by
 cases e:Cl nm l with
 | none=>rw[bF e] at h;cases h
 | some q=>rw[bj e]
theorem Vf {nm:ByteArray}{l:List F7}(h:(Z2 nm l).2=false):Cl nm l=none:=by
 cases e:Cl nm l with
 | none=>rfl
 | some q=>rw[bj e] at h;cases h
end Go.Eu
namespace Go.Proofs.YtboammbpdaoojaaGreat
open Go.Abs Go.Eu
theorem jb:∀(l b1 b2:Nat) (d:CC) (at_:Int) (nm:ByteArray) (TA:Fk→List BD) (T0:List BD),(d.kind=0∨OB d)→(∀s e,(s,e)∈Ep d at_→Kz Tryz.prog l [.p (.str s),.agg ((Db e).map .p)] T0 (Vr (.p (.bool (!decide (s=nm)))) (fun T=>T=if s=nm then TA e else T0)))→Bl Tryz.prog 170 [.fn (.yield l) [] [],.ptr b2 0,.ptr b1 0] (.box b1 ((Bj d).map .p):: .box b2 [.p (I at_)]::T0) (Vr (.tup []) (fun H=>∃T,T=H8 TA T0 nm (Ep d at_)∧H= .box b1 ((Bj d).map .p):: .box b2 [.p (I at_)]::T)):=by
 intro l b1 b2 d at_ nm TA T0 h1 h2;refine A4 Tryz.func170 O np (n:=98) O O (Aw (Ay A0 2 [1] O (Aq O (A2 (i:=0) Df O O (Ca _)) (Aq O (Ax C3 O O) (Aq O (Bv (i:=0) BQ O O (FI _) (BB _)) (Aq O (CJ GU IZ (ay O O O)) (BG O (A7 IZ O) fun b4=>Ar A0 1 [0,1] O (Aw (Aq O (Ax C3 O O) (Aq O (A2 (i:=1) Df O O (Dh _)) (Bf O (A8 (Au (As A0 2 [] O (BU [0,1,2,4,16] 17 (fun y=>y= .p (.bool (decide (d.kind=0∨d.kind=1∨d.kind=2)))) ?_ ?_)))))))))))))))
 ·refine Av O (fun c=>?_) (fun c=>?_)
  ·(try simp only[sd,se] at c);exact A1 (⟨O,O,(List.Sublist.refl _),(by refine pB (Bool.eq_iff_iff.2 ?_);simp only[beq_iff_eq,decide_eq_true_eq];omega),⟨O,O,O,O,O,Ap⟩⟩)
  (try simp only[sd,se] at c);refine As A0 2 [] O (Av O (fun c1=>?_) (fun c1=>?_))
  ·(try simp only[sd,se] at c1);exact A1 (⟨O,O,(List.Sublist.refl _),(by refine pB (Bool.eq_iff_iff.2 ?_);simp only[beq_iff_eq,decide_eq_true_eq];omega),⟨O,O,O,O,O,Ap⟩⟩)
  (try simp only[sd,se] at c1);exact A3 (Ar A0 2 [] O (⟨O,O,(List.Sublist.refl _),(by refine pB (Bool.eq_iff_iff.2 ?_);simp only[beq_iff_eq,decide_eq_true_eq];omega),⟨O,O,O,O,O,Ap⟩⟩))
 rintro _ rfl;refine Av O (fun c=>?_) (fun c=>?_)
 ·(try simp only[sd,se] at c);have hx0:([0,1,2]:List Int)[d.kind.toNat]?=some d.kind:=by
   have:d.kind=0∨d.kind=1∨d.kind=2:=by simpa using c
   rcases this with e | e | e<;>rw[e]<;>rfl
  have hk0:0≤d.kind∧d.kind<3:=by
   have:d.kind=0∨d.kind=1∨d.kind=2:=by simpa using c
   omega
  refine Aw (Aq O (Bx G8 eM O O O O O) (Aq O (Ax C3 O O) (Aq O (A2 (i:=1) Df O O (Dh _)) (Aq O (A5 G8 O O An (LH hx0) (O)) (Ay A0 2 [] O (Aq O (Dg (i:=0) (ds:=(Db (Fk.mk d.kind at_ 0 d.params d.type)).map .p) Df O O O O O O O) (Bf O (A3 (Ay A0 2 [] O (Aq O (A2 (i:=1) MR O O (DV _)) (Aq O (BP (i:=0) Ls O O Ae) (IL [_,_,_] O O O O (h2 _ _ (bq (by simpa using c))) O ?_ (fun _ _ h=>h.elim)))))))))))));rintro _ T ⟨rfl,hT⟩;refine Bf O ⟨O,_,_,O,(GG [1,2] [_,_,_] O),?_⟩;exact⟨O,_,(hT.trans (W8 (by simpa using c)).symm),O⟩
 (try simp only[sd,se] at c);have hD:OB d:=by
  rcases h1 with h | h
  ·exact absurd (show d.kind=0∨d.kind=1∨d.kind=2 from .inl h) (by simpa using c)
  exact h
 have hcl:=hD.cl;have hfl:=hD.fl;refine As A0 2 [] O (Av O (fun c1=>?_) (fun c1=>?_))
 ·(try simp only[sd,se] at c1);refine Aw (Aq O (Ax GU O O) (Aq O (Dg (i:=0) (ds:=(Db (Fk.mk 3 at_ 0 d.params d.type)).map .p) Df O O O O O O O) (Bf O (Au (Aw (Ay A0 2 [] O (Aq O (A2 (i:=1) MR O O (DV _)) (Aq O (BP (i:=0) Ls O O Ae) (IL [_,_,_] O O O O (h2 _ _ (eY (by simpa using c1))) O ?_ (fun _ _ h=>h.elim))))))))));rintro _ T ⟨rfl,hT⟩;refine Ar A0 1 [] O (Av O (fun c2=>?_) (fun c2=>?_))
  ·(try simp only[sd,se] at c2);refine Az ⟨O,_,_,O,(GG [1,2] [_,_,_] O),?_⟩;exact⟨O,_,(hT.trans ((if_pos (by simpa using c2)).trans (ZZ (by simpa using c1) (by simpa using c2)).symm)),O⟩
  (try simp only[sd,se] at c2);have qc2:¬(d.name=nm):=by simpa using c2
  rw[if_neg qc2] at hT;have hT:=hT.symm;subst hT;refine A1 (Au (Aw (Aq O (Ax C3 O O) (Aq O (A2 (i:=1) IH O O (CF _)) (Aq O (BM Hh O (List.length_map _)) (Ar A0 1 [] O (A8 ?_)))))));refine Be (α:=Nat) (fun i=>⟨98,mk [(0,.fn (.yield l) [] []),(1,.ptr b2 0),(2,.ptr b1 0),(42,.p (.lst (List.map GL d.ctors))),(43,.p (I (d.ctors.length:Nat))),(44,.p (I (i:Int)))],(.box b1 ((Bj d).map .p):: .box b2 [.p (I at_)]::T0),[]⟩) (fun i=>d.ctors.length - i) (fun i=>i≤d.ctors.length∧(∀j,j<i→∀y,d.ctors[j]?=some y→y.name≠nm)) 0 (⟨by omega,fun j h=>by omega⟩) ?_ ?_
  ·exact BY ⟨we O,we O,we O,we O,we O,we O,Ap⟩ (YE [1,2] [_,_,_] (l':=[_,_]) O (wl (oe O) (wl (oe O) (DO))))
  rintro i hC
  try simp only at hC
  obtain⟨hi,hC⟩:=hC;refine As A0 1 [] O (Au (Av O (fun c3=>?_) (fun c3=>?_)))
  ·(try simp only[sd,se] at c3);refine A1 (Au (A8 (Aw (Br O ?_))));obtain⟨x,hx⟩:=A6 (l:=d.ctors) (i:=i) An;refine Aq O (A5 Hh O O An (EZ hx) (D7 _)) (Aq O (BJ ng O (D7 _)) (BG O (A7 YL O) fun b6=>Ar A0 2 [0,1] O (Aw (Ay A0 2 [] O (Aq O (A2 (i:=0) MR O O (Fm _)) (Ay A0 3 [2] O (Aq O (A2 (i:=1) Df O O (Ca _)) (Aq O (Ax I2 O O) (Aq O (Bv (i:=0) BQ O O (FH _) (BB _)) (Aq O (CJ GU IZ (NH O O O O O)) (IL [_,_,_] O O O O (h2 _ _ (ck (by simpa using c1) hx)) O ?_ (fun _ _ h=>h.elim))))))))))));rintro _ T1 ⟨rfl,hT1⟩;refine Ar A0 1 [] O (Av O (fun c4=>?_) (fun c4=>?_))
   ·(try simp only[sd,se] at c4);refine Az ⟨O,_,_,O,(GG [1,2] [_,_,_] O),?_⟩;exact⟨O,_,(hT1.trans ((if_pos (by simpa using c4)).trans (XM (by simpa using c1) qc2 hx (by simpa using c4) hC).symm)),O⟩
   (try simp only[sd,se] at c4);have qc4:¬(x.name=nm):=by simpa using c4
   rw[if_neg qc4] at hT1;have hT1:=hT1.symm;subst hT1;refine A1 (A3 (Ar A0 2 [] O (⟨(i+1),AT,⟨by omega,Cu (p:=fun _ (y:Hq)=>y.name≠nm) hC hx qc4⟩,BY ⟨we rfl,we rfl,we rfl,we rfl,we rfl,we rfl,trivial⟩ (YE [1,2] [_,_,_] (l':=[_,_]) rfl (wl (oe rfl) (wl (oe rfl) (DO))))⟩)))
  (try simp only[sd,se] at c3);refine Bh (A3 (Ay A0 2 [] O (Aq O (A2 (i:=0) MR O O (DV _)) (Aq O (Qy O O (by have:(⟨#[46,114,101,99]⟩:ByteArray).size=4:=rfl;have:=hD.nm;omega)) (Ay A0 3 [1] O (Aq O (A2 (i:=0) Df O O (DE _)) (Ay A0 2 [] O (Aq O (Bv (i:=0) BQ O O (Ea _) (BB _)) (Aq O (CJ GU IZ (XS O O O O)) (IL [_,_] O O O O (h2 _ _ (hO (by simpa using c1))) O ?_ (fun _ _ h=>h.elim)))))))))));rintro _ T1 ⟨rfl,hT1⟩;refine Bf O ⟨O,_,_,O,(GG [0,1] [_,_] O),?_⟩;exact⟨O,_,(hT1.trans (Yw (by simpa using c1) qc2 fun j hj=>hC j An).symm),O⟩
 (try simp only[sd,se] at c1);refine As A0 2 [] O (Av O (fun c2=>?_) (fun c2=>?_))
 ·(try simp only[sd,se] at c2);refine Aw (Aq O (Ax C3 O O) (Aq O (A2 (i:=1) HI O O (CA _)) (Aq O (BM Gp O (List.length_map _)) (Ar A0 1 [] O (A8 ?_)))));refine Be (α:=Nat) (fun i=>⟨98,mk [(0,.fn (.yield l) [] []),(1,.ptr b2 0),(2,.ptr b1 0),(78,.p (.lst (List.map FR d.funs))),(79,.p (I (d.funs.length:Nat))),(80,.p (I (i:Int)))],(.box b1 ((Bj d).map .p):: .box b2 [.p (I at_)]::T0),[]⟩) (fun i=>d.funs.length - i) (fun i=>i≤d.funs.length∧(∀j,j<i→∀y,d.funs[j]?=some y→y.name≠nm)) 0 (⟨by omega,fun j h=>by omega⟩) ?_ ?_
  ·exact BY ⟨we O,we O,we O,we O,we O,we O,Ap⟩ (YE [1,2] [_,_,_] (l':=[_,_]) O (wl (oe O) (wl (oe O) (DO))))
  rintro i hC
  try simp only at hC
  obtain⟨hi,hC⟩:=hC;refine As A0 1 [] O (Au (Av O (fun c3=>?_) (fun c3=>?_)))
  ·(try simp only[sd,se] at c3);refine A1 (Au (A8 (Aw (Br O ?_))));obtain⟨x,hx⟩:=A6 (l:=d.funs) (i:=i) An;refine Aq O (A5 Gp O O An (ET hx) (Da _)) (Aq O (BJ gV O (Da _)) (BG O (A7 ao O) fun b8=>Ar A0 2 [0,1] O (Aw (Ay A0 2 [] O (Aq O (A2 (i:=0) MR O O (II _)) (Ay A0 3 [2] O (Aq O (A2 (i:=1) Df O O (Ca _)) (Aq O (Ax G4 O O) (Aq O (Bv (i:=0) BQ O O (IE _) (BB _)) (Aq O (CJ GU IZ (NH O O O O O)) (IL [_,_,_] rfl rfl rfl rfl (h2 _ _ (gq (by simpa using c2) hx)) rfl ?_ (fun _ _ h=>h.elim))))))))))));rintro _ T ⟨rfl,hT⟩;refine Ar A0 1 [] O (Av O (fun c4=>?_) (fun c4=>?_))
   ·(try simp only[sd,se] at c4);refine Az ⟨O,_,_,O,(GG [1,2] [_,_,_] O),?_⟩;exact⟨O,_,(hT.trans ((if_pos (by simpa using c4)).trans (Zs (by simpa using c2) hx (by simpa using c4) hC).symm)),O⟩
   (try simp only[sd,se] at c4);have qc4:¬(x.name=nm):=by simpa using c4
   rw[if_neg qc4] at hT;have hT:=hT.symm;subst hT;refine A1 (A3 (Ar A0 2 [] O (⟨(i+1),AT,⟨by omega,Cu (p:=fun _ (y:Gh)=>y.name≠nm) hC hx qc4⟩,BY ⟨we rfl,we rfl,we rfl,we rfl,we rfl,we rfl,trivial⟩ (YE [1,2] [_,_,_] (l':=[_,_]) rfl (wl (oe rfl) (wl (oe rfl) (DO))))⟩)))
  (try simp only[sd,se] at c3);refine Bh ⟨O,_,_,O,(GG [0,1] [_,_] O),?_⟩;exact⟨O,_,(WE (by simpa using c2) fun j hj=>hC j An).symm,O⟩
 (try simp only[sd,se] at c2);refine A1 ⟨O,_,_,O,(GG [1,2] [_,_,_] O),?_⟩;exact⟨O,_,(XD (by simpa using c) (by simpa using c1) (by simpa using c2)).symm,O⟩
theorem jT:∀(d:CC) (at_:Int),Bl Tryz.prog 144 [.agg ((Bj d).map .p),.p (I at_)] [] (fun r H'=>∃b1 b2,r= .val (.fn (.func 170) [] [.ptr b2 0,.ptr b1 0])∧H'=[.box b2 [.p (I at_)],.box b1 ((Bj d).map .p)]):=by
 intro d at_;refine A4 Tryz.func144 O ny (n:=6) O O (Aw (BG O (BO O) fun b2=>BG O (BO O) fun b3=>Ar A0 1 [] O (As A0 2 [] O (Az (⟨O,_,_,⟨_,_,O,O,O⟩,(CH (is:=[0,1]) O),?_⟩)))));exact⟨_,_,O,O⟩
theorem YM:∀(ds:List CC) (nm:ByteArray),(ds.length<De)→(oO ds)→E4 Tryz.prog 116 [.p (.lst (List.map Bj ds)),.p (.str nm)] (.tup [.agg ((Db ((Bq ds nm).1)).map .p),.p (I ((Bq ds nm).2))]):=by
 intro ds nm h1 h2;simp only[De] at h1;refine E2 Tryz.func116 O mO (n:=28) O O (Aw (BG O (BO O) fun b3=>BG O (A7 IZ O) fun b4=>BG O (A7 df O) fun b5=>Bf O (Au (Aw (Br O (Aq O (BM Ic O (List.length_map _)) (Ar A0 1 [] O (A8 ?_))))))));refine Be (α:=Nat×List Nat) (fun(i,U)=>⟨28,mk [(3,.ptr b3 0),(4,.ptr b4 0),(5,.ptr b5 0),(10,.p (.lst (List.map Bj ds))),(11,.p (I (ds.length:Nat))),(12,.p (I (i:Int)))],(.box b5 [.p (I 0)]:: .box b4 [.p (I 0),.p (I 0),.p (I 0),.p (I 0),.p (I 0),.p (I 0),.p (.str ⟨#[]⟩),.p (.nils),.p (.nils)]:: .box b3 [.p (.str nm)]::(U.map BD.dfr)),(U.map Dw.mark)⟩) (fun(i,U)=>ds.length - i) (fun(i,U)=>i≤ds.length∧(∀j,j<i→∀y,ds[j]?=some y→Cd nm (Ep y j)=none)) ⟨0,[]⟩ (⟨by omega,fun j h=>by omega⟩) ?_ ?_
 ·exact BY ⟨we O,we O,we O,we O,we O,we O,Ap⟩ (YE [0,1,2] [_,_,_] (l':=[_,_,_]) O (wl (oe O) (wl (oe O) (wl (oe O) (DO)))))
 rintro⟨i,U⟩ hC
 try simp only at hC
 obtain⟨hi,hC⟩:=hC;refine As A0 1 [] O (Au (Av O (fun c=>?_) (fun c=>?_)))
 ·(try simp only[sd,se] at c);refine A1 (Au (A8 (Aw (Br O ?_))));obtain⟨x,hx⟩:=A6 (l:=ds) (i:=i) An;have hx0:=h2 _ (List.mem_of_getElem? hx);refine Aq O (A5 Ic O O An (Ed hx) (Cr _)) (Aq O (BJ Gg O (Cr _)) (BG O (A7 Ml O) fun b7=>Ar A0 2 [0,1] O (Aw (Ay A0 2 [0] O ?_))));refine IG (Hs:=[]) O O O (.inl ⟨O,O,O⟩) (List.Perm.refl _) ((jT x ((i:Int))).args (aw (we O) (aw (we O) Eg))) (.inl O) ?_ (fun _ _ ⟨_,_,h,_⟩=>by cases h);rintro _ _ ⟨bd,ba,h,rfl⟩;cases h;refine Bf O (A8 (QK (.inr O) fun dd l L hL=>⟨_,_,Rk (is:=[3,2,0,4,5,6,7]) (base:=[_,_,_,_,_,_,_,_]) (rest:=[.dfr dd]) Am ⟨_,_,O,O,⟨_,_,O,O,⟨_,_,O,O,⟨_,_,O,O,⟨_,_,O,O,⟨_,_,O,O,⟨_,_,O,O,O⟩⟩⟩⟩⟩⟩⟩ O,?_⟩));have hy:∀(sn:ByteArray) (en:Fk),(sn,en)∈Ep x ((i:Int))→Kz Tryz.prog l [.p (.str sn),.agg ((Db en).map .p)] [.loop l L,.box b7 ((Bj x).map .p),.box b5 [.p (I 0)],.box b4 [.p (I 0),.p (I 0),.p (I 0),.p (I 0),.p (I 0),.p (I 0),.p (.str ⟨#[]⟩),.p (.nils),.p (.nils)],.box b3 [.p (.str nm)]] (Vr (.p (.bool (!decide (sn=nm)))) (fun T:List BD=>T=if sn=nm then [.loop l { L with state:= .done,pending:=some .ret },.box b7 ((Bj x).map .p),.box b5 [.p (I 0)],.box b4 ((Db en).map .p),.box b3 [.p (.str nm)]] else [.loop l L,.box b7 ((Bj x).map .p),.box b5 [.p (I 0)],.box b4 [.p (I 0),.p (I 0),.p (I 0),.p (I 0),.p (I 0),.p (I 0),.p (.str ⟨#[]⟩),.p (.nils),.p (.nils)],.box b3 [.p (.str nm)]])):=by
   intro sn en hm;obtain⟨LB,hLB⟩:∃x,x=BD.loop l { L with state:= .busy }:=⟨_,rfl⟩;subst hL;refine S5 (i:=0) O O O O (As A0 1 [] O (A3 (BG O (A7 IZ O) fun b9=>Ar A0 1 [0,1] O ⟨O,1,O,?_⟩)));rw[←hLB];refine A8 (Aw (Ay A0 2 [5] O (Aq O (Fu O O) (Bf O (Av O (fun c1=>?_) (fun c1=>?_))))))
   ·(try simp only[sd,se] at c1);refine As A0 3 [0,4,1,3,0] O (Az ?_);subst hLB;refine⟨1,_,O,CH (is:=[1,2,3,4,5]) O,?_⟩;have hcc:sn=nm:=G1 (by simpa using c1);exact⟨by simp[hcc],(if_pos hcc).symm⟩
   (try simp only[sd,se] at c1);refine A1 ?_;subst hLB;refine⟨1,_,O,CH (is:=[1,2,3,4,5]) O,?_⟩;have hcc:¬(sn=nm):=fun h=>by simp[h] at c1
   exact⟨by simp[hcc],(if_neg hcc).symm⟩
  refine(jb l bd ba x ((i:Int)) nm (fun en=>[.loop l { L with state:= .done,pending:=some .ret },.box b7 ((Bj x).map .p),.box b5 [.p (I 0)],.box b4 ((Db en).map .p),.box b3 [.p (.str nm)]]) _ (hx0) hy).mono ?_;rintro(v | v) H' hR
  rotate_left
  ·exact hR.elim
  obtain⟨rfl,_,hT,rfl⟩:=hR;subst hL;unfold H8 at hT;cases hF:Cd nm (Ep x ((i:Int))) with
  | some en =>
   rw[hF] at hT;simp only at hT;subst hT;refine WR (i:=2) (.box bd ((Bj x).map .p):: .box ba [.p (I (i:Int))]:: .box b7 ((Bj x).map .p):: .box b5 [.p (I 0)]:: .box b4 ((Db en).map .p):: .box b3 [.p (.str nm)]::(.dfr dd::U.map BD.dfr)) O Ao O O (Az (Ov (dd::U) (Hs:=[_,_,_,_,_,_]) (⟨_,_,⟨_,_,O,(BE (i:=4) Ls O O Ae),⟨_,_,O,(GD (i:=3) Rh O O),O⟩⟩,(List.nil_sublist _),?_⟩)))
   all_goals exact⟨by show (.tup [.agg ((Db en).map .p),.p (I 0)]:AV)=_;rw[bu hx hC hF],rfl⟩
  | none =>
   rw[hF] at hT;simp only at hT;subst hT;refine VE (i:=2) (.box bd ((Bj x).map .p):: .box ba [.p (I (i:Int))]:: .box b7 ((Bj x).map .p):: .box b5 [.p (I 0)]:: .box b4 [.p (I 0),.p (I 0),.p (I 0),.p (I 0),.p (I 0),.p (I 0),.p (.str ⟨#[]⟩),.p (.nils),.p (.nils)]:: .box b3 [.p (.str nm)]::(.dfr dd::U.map BD.dfr)) O Ao O O (A3 (Ar A0 2 [] O (⟨⟨i+1,dd::U⟩,AT,⟨by omega,Cu (p:=fun j (y:CC)=>Cd nm (Ep y j)=none) hC hx hF⟩,BY ⟨we rfl,we rfl,we rfl,we rfl,we rfl,we rfl,trivial⟩ (YE [3,4,5] [_,_,_,_,_,_] (l':=[_,_,_]) rfl (wl (oe rfl) (wl (oe rfl) (wl (oe rfl) (DO)))))⟩)))
 (try simp only[sd,se] at c);refine Bh (As A0 3 [1,0,0,0] O (BN (Bc (i:=1) O) (Az (Ov U (Hs:=[_,_,_]) (⟨_,_,⟨_,_,O,(BE (i:=1) Ls O O O),⟨_,_,O,(GD (i:=0) Rh O O),O⟩⟩,(List.nil_sublist _),?_⟩)))))
 all_goals exact⟨by show (.tup [.agg [.p (I 0),.p (I 0),.p (I 0),.p (I 0),.p (I 0),.p (I 0),.p (.str ⟨#[]⟩),.p (.lst []),.p (.lst [])],.p (I 9)]:AV)=_;rw[dU fun j hj=>hC j An];rfl,rfl⟩
theorem Zg:∀(ds:List CC) (nm:ByteArray),(Hn ds)→E4 Tryz.prog 127 [.p (.lst (List.map Bj ds)),.p (.str nm)] (.tup [.agg ((Bj ((Ds ds nm).1)).map .p),.p (I ((Ds ds nm).2.1)),.p (.bool ((Ds ds nm).2.2))]):=by
 intro ds nm h1;have hl:=h1.len;refine A4 Tryz.func127 O lp (n:=44) O O (Aw (BG O (A7 Ml O) fun b4=>Ar A0 2 [] O (Aw (Ay A0 2 [] O (Aq rfl (BF rfl rfl (YM ds nm AZ (fun d hd=> .inr (h1.all d hd))) rfl) (Ay A0 3 [] O (BG O (A7 IZ O) fun b7=>Ar A0 2 [0,1] O (Au (As A0 2 [] O (Av O (fun c=>?_) (fun c=>?_)))))))))))
 ·(try simp only[sd,se] at c);refine As A0 4 [1,0] O (BN (Bc (i:=1) O) (Az (⟨O,_,_,⟨_,_,O,(BE (i:=1) Gg O O O),⟨_,_,O,O,⟨_,_,O,O,O⟩⟩⟩,(List.nil_sublist _),?_⟩)))
  all_goals exact⟨by show (.tup [.agg [.p (I 0),.p (.str ⟨#[]⟩),.p (I 0),.p (I 0),.p (I 0),.p (.str ⟨#[]⟩),.p (.lst []),.p (.lst []),.p (I 0),.p (I 0),.p (.str ⟨#[]⟩),.p (.lst []),.p (.lst []),.p (I 0),.p (.lst []),.p (I 0),.p (I 0),.p (I 0),.p (.str ⟨#[]⟩),.p (.lst []),.p (.lst []),.p (.lst []),.p (.lst [])],.p (I 0),.p (.bool false)]:AV)=_;rw[iA An];rfl,rfl⟩
 (try simp only[sd,se] at c);obtain⟨fi,fd,hfi,hfo⟩:=Ps (ds:=ds) (nm:=nm) An;have hdl:=hfo.decl;have hfl:=(List.getElem?_eq_some_iff.1 hfi).1;refine A1 (Au (Aw (Aq O (Ax GU O O) (Aq O (A2 (i:=0) Df O O (Dj _)) (Bf O (A8 (As A0 2 [] O (Av O (fun c1=>?_) (fun c1=>?_)))))))))
 ·(try simp only[sd,se] at c1);refine Aw (Ay A0 2 [] O (Aq O (A2 (i:=0) Df O O (EJ _)) ?_));obtain⟨x,hx⟩:=A6 (l:=ds) (i:=(((Bq ds nm).1).decl:Int).toNat) An;refine Aq O (A5 Ic O O An (Ed hx) (Cr _)) (Ar A0 4 [1,1] O (Az (⟨O,_,_,⟨_,_,O,(BE (i:=1) Gg O O Ad),⟨_,_,O,O,⟨_,_,O,O,O⟩⟩⟩,(List.nil_sublist _),?_⟩)))
  all_goals exact⟨by show (.tup [.agg ((Bj x).map .p),.p (I (-1)),.p (.bool true)]:AV)=_;rw[lI An An hx],rfl⟩
 (try simp only[sd,se] at c1);refine As A0 2 [] O (Av O (fun c2=>?_) (fun c2=>?_))
 ·(try simp only[sd,se] at c2);refine Au (B6 (fun k=>false) EO (Bb A0 2 [] O (Cc (j:=0) O O O (fun H i hi=>A2 (i:=i) Df O hi (EJ _)) AB Ap ?_)));obtain⟨x,hx⟩:=A6 (l:=ds) (i:=(((Bq ds nm).1).decl:Int).toNat) An;refine BL O (fun _=>A5 Ic O O An (Ed hx) (Cr _)) Ap (Bb A0 2 [] O (Cc (j:=0) O O O (fun H i hi=>A2 (i:=i) Df O hi (Gs _)) AB Ap (B4 A0 3 [1,1] O (Az (⟨O,_,_,⟨_,_,O,(BE (i:=1) Gg O O Ad),⟨_,_,O,O,⟨_,_,O,O,O⟩⟩⟩,(List.nil_sublist _),?_⟩)))))
  all_goals exact⟨by show (.tup [.agg ((Bj x).map .p),.p (I (((Bq ds nm).1).item)),.p (.bool true)]:AV)=_;rw[nH An An hx],rfl⟩
 (try simp only[sd,se] at c2);refine As A0 2 [] O (Av O (fun c3=>?_) (fun c3=>?_))
 ·(try simp only[sd,se] at c3);refine Aw (Ay A0 2 [] O (Aq O (A2 (i:=0) Df O O (EJ _)) ?_));obtain⟨x,hx⟩:=A6 (l:=ds) (i:=(((Bq ds nm).1).decl:Int).toNat) An;refine Aq O (A5 Ic O O An (Ed hx) (Cr _)) (Ar A0 4 [1,1] O (Az (⟨O,_,_,⟨_,_,O,(BE (i:=1) Gg O O Ad),⟨_,_,O,O,⟨_,_,O,O,O⟩⟩⟩,(List.nil_sublist _),?_⟩)))
  all_goals exact⟨by show (.tup [.agg ((Bj x).map .p),.p (I (-2)),.p (.bool true)]:AV)=_;rw[kb An An hx],rfl⟩
 (try simp only[sd,se] at c3);refine A1 (As A0 4 [1,0] O (BN (Bc (i:=1) O) (Az (⟨O,_,_,⟨_,_,O,(BE (i:=1) Gg O O O),⟨_,_,O,O,⟨_,_,O,O,O⟩⟩⟩,(List.nil_sublist _),?_⟩))))
 all_goals exact⟨by show (.tup [.agg [.p (I 0),.p (.str ⟨#[]⟩),.p (I 0),.p (I 0),.p (I 0),.p (.str ⟨#[]⟩),.p (.lst []),.p (.lst []),.p (I 0),.p (I 0),.p (.str ⟨#[]⟩),.p (.lst []),.p (.lst []),.p (I 0),.p (.lst []),.p (I 0),.p (I 0),.p (I 0),.p (.str ⟨#[]⟩),.p (.lst []),.p (.lst []),.p (.lst []),.p (.lst [])],.p (I 0),.p (.bool false)]:AV)=_;rw[jq An An An];rfl,rfl⟩
theorem OA:∀(m:Nat) (ds:List CC) (n:Int) (h:Tm),(Hn ds)→Bl Tryz.prog 89 [.ptr m 0,.agg ((BK h).map .p)] [.box m [.p (.lst (List.map Bj ds)),.p (I n)]] (G5 (.tup [.agg ((Db ((Bq ds h.name).1)).map .p),.p (.bool (V1 ds h))]) [.box m [.p (.lst (List.map Bj ds)),.p (I n)]]):=by
 intro m ds n h h1;have hel:=h1.len;obtain⟨hk,hi,hn,hl,hs⟩:=h;refine A4 Tryz.func89 O pv (n:=29) O O (Aw (BG O (BO O) fun b3=>BG O (A7 IZ O) fun b4=>Ar A0 1 [] O (Au (B6 (fun k=>Nat.beq k 10) EO (Bb A0 6 [2,1] O (BL rfl (fun _=>BF rfl rfl (YM ds hn AZ (fun d hd=> .inr (h1.all d hd))) rfl) trivial (Bb A0 3 [] O (J7 [] O O (A7 IZ O) Aj fun b6=>⟨AB,Ap,?_⟩))))))));refine B4 A0 2 [0,1] O (Au (B6 (fun k=>false) EO (Bb A0 4 [0] O (Fs 21 O (fun g=>?_) (fun g=>?_)))))
 ·(try simp only[sd,se] at g);refine Bb A0 2 [2] O (Cq O (fun _=>BM FQ O (List.length_map _)) Ap (Cq O (fun _=>Ax GU O O) Ap (Nq (i:=0) O O O O O (fun H i hi=>A2 (i:=i) Df O hi (IT _)) AB Ap (B4 A0 4 [1,1] O (Az (⟨O,_,_,⟨_,_,O,(BE (i:=1) Ls O O Ae),⟨_,_,O,O,O⟩⟩,(CH (is:=[3]) O),?_⟩))))))
  all_goals exact⟨by show (.tup [.agg ((Db ((Bq ds hn).1)).map .p),.p (.bool (((hl.length:Nat):Int)==(((Bq ds hn).1).params:Int)))]:AV)=_;rw[je (k:=hk) (i:=hi) (ks:=hs) (by first | exact g | omega)];rfl,rfl⟩
 (try simp only[sd,se] at g);refine B4 A0 9 [1,1] O (Az (⟨O,_,_,⟨_,_,O,(BE (i:=1) Ls O O Ae),⟨_,_,O,O,O⟩⟩,(CH (is:=[3]) O),?_⟩))
 all_goals exact⟨by show (.tup [.agg ((Db ((Bq ds hn).1)).map .p),.p (.bool false)]:AV)=_;rw[nN (k:=hk) (i:=hi) (ls:=hl) (ks:=hs) (by first | exact g | omega)];rfl,rfl⟩
theorem _root_.Go.AP {α:Prop}(h:α:=by simp only[BR,List.length_map];omega):α:=h
theorem Pj:∀(m:Nat) (ds:List CC) (n:Int) (t:Tm),(Lz ds)→(okB t=true)→Bl Tryz.prog 96 [.ptr m 0,.agg ((BK t).map .p)] [.box m [.p (.lst (List.map Bj ds)),.p (I n)]] (G5 (.tup [.agg ((Bj ((CN ds t).1)).map .p),.p (I ((CN ds t).2.1)),.p (.lst (BC ((CN ds t).2.2.1))),.p (.bool ((CN ds t).2.2.2))]) [.box m [.p (.lst (List.map Bj ds)),.p (I n)]]):=by
 intro m ds n t h1 h2;have ho:=CY.1 h2;have hosz:=ho.sz;have hoss:=Ie t;have hosl:=Yd t;have hosp:=Jk h2;refine A4 Tryz.func96 O ph (n:=67) O O (Aw (BG O (BO O) fun b3=>BG O (A7 Ml O) fun b4=>Ar A0 3 [] O (Aw (Aq O (BP (i:=1) BQ O O Ag) (Aq O (BF O O (Km t ho.nd AZ) O) (Ay A0 3 [] O (BG O (A7 Bw O) fun b8=>Ar A0 2 [0,1] O (Au (Aw (Aq O (Ax Gi O O) ?_))))))))));generalize hz:(A9 t).1=z;obtain⟨zk,zi,zn,zl,zs⟩:=z;refine Ar A0 2 [0] O (Av O (fun c=>?_) (fun c=>?_))
 ·(try simp only[sd,se] at c);refine As A0 5 [1,0] O (BN (Bc (i:=1) O) (BN (Fh 6) (Az (⟨O,_,_,⟨_,_,O,(BE (i:=1) Gg O O O),⟨_,_,O,O,⟨_,_,O,O,⟨_,_,O,O,O⟩⟩⟩⟩,(CH (is:=[3]) O),?_⟩))))
  all_goals exact⟨by show (.tup [.agg [.p (I 0),.p (.str ⟨#[]⟩),.p (I 0),.p (I 0),.p (I 0),.p (.str ⟨#[]⟩),.p (.lst []),.p (.lst []),.p (I 0),.p (I 0),.p (.str ⟨#[]⟩),.p (.lst []),.p (.lst []),.p (I 0),.p (.lst []),.p (I 0),.p (I 0),.p (I 0),.p (.str ⟨#[]⟩),.p (.lst []),.p (.lst []),.p (.lst []),.p (.lst [])],.p (I 0),.p (.lst (BC [])),.p (.bool false)]:AV)=_;rw[PR (eQ hz c)];rfl,rfl⟩
 (try simp only[sd,se] at c);refine A1 (Au (B6 (fun k=>Nat.beq k 11) EO (Bb A0 6 [3,0] O (BL O (fun _=>BF O O (Zg ds zn h1.env) O) Ap (Bb A0 4 [] O (J7 [] O O (A7 Ml O) Aj fun b10=>⟨AB,Ap,?_⟩))))));refine B4 A0 3 [0,1] O (Au (Au (BU [4,9,10,11] 40 (fun y=>y= .p (.bool ((!((Ds ds zn).2.2))||(decide (((Ds ds zn).2.1:Int)<(0:Int)))))) ?_ ?_)))
 ·refine A3 (Ay A0 3 [] O (BI 37 O (fun g=>?_) (fun g=>?_)))
  ·(try simp only[sd,se] at g);exact Ar A0 3 [] O (⟨O,O,AJ,AH,⟨O,O,O,O,Ap⟩⟩)
  (try simp only[sd,se] at g);exact Ar A0 3 [] O (⟨O,O,AJ,AH,⟨O,O,O,O,Ap⟩⟩)
 rintro _ rfl;refine Av O (fun c1=>?_) (fun c1=>?_)
 ·(try simp only[sd,se] at c1);have hcc:=c1;refine As A0 5 [2,0] O (BN (Bc (i:=2) O) (BN (Fh 6) (Az (⟨O,_,_,⟨_,_,O,(BE (i:=2) Gg O O O),⟨_,_,O,O,⟨_,_,O,O,⟨_,_,O,O,O⟩⟩⟩⟩,(CH (is:=[4]) O),?_⟩))))
  all_goals exact⟨by show (.tup [.agg [.p (I 0),.p (.str ⟨#[]⟩),.p (I 0),.p (I 0),.p (I 0),.p (.str ⟨#[]⟩),.p (.lst []),.p (.lst []),.p (I 0),.p (I 0),.p (.str ⟨#[]⟩),.p (.lst []),.p (.lst []),.p (I 0),.p (.lst []),.p (I 0),.p (I 0),.p (I 0),.p (.str ⟨#[]⟩),.p (.lst []),.p (.lst []),.p (.lst []),.p (.lst [])],.p (I 0),.p (.lst (BC [])),.p (.bool false)]:AV)=_;rw[PR (eW hz (by simpa using c) hcc)];rfl,rfl⟩
 (try simp only[sd,se] at c1);have hcc:(Ds ds zn).2.2=true∧¬(Ds ds zn).2.1<0:=⟨c1.1,by omega⟩;have hfd:=iq h1 hcc.1 hcc.2;have hfr:=WV hfd.1 hfd.2.2.1 hfd.2.2.2 hfd.2.1.1;have hfx:=hfd.2.1;refine A1 (Aw (Aq O (Ax C3 O O) (Aq O (A2 (i:=0) IH O O (CF _)) (Br O ?_))));obtain⟨x,hx⟩:=A6 (l:=((Ds ds zn).1).ctors) (i:=((Ds ds zn).2.1:Int).toNat) An;have hal:=Jq x.type;have hxs:=(hfd.1.cs _ (List.mem_of_getElem? hx)).ty;refine Aq O (A5 Hh O O An (EZ hx) (D7 _)) (Aq O (Bz I2 O O) (Aq O (DL BQ O (FH _) (BB _)) (Aq O (BF O O (Xl x.type hxs.nd hxs.sz) O) (Ay A0 3 [] O (BG O (A7 Bw O) fun b14=>Ar A0 2 [0,1] O (Au (Aw (Br O (Aq O (BM Bg O (BR _)) (Aq O (Ax C3 O O) (Aq O (A2 (i:=1) Df O O (DR _)) (Br O (Aq O (BM Bg O (BR _)) (Aq O (Iy O O) (Ar A0 1 [] O (Av O (fun c2=>?_) (fun c2=>?_)))))))))))))))))
 ·(try simp only[sd,se] at c2);refine As A0 5 [3,0] O (BN (Bc (i:=3) O) (BN (Fh 6) (Az (⟨O,_,_,⟨_,_,O,(BE (i:=3) Gg O O O),⟨_,_,O,O,⟨_,_,O,O,⟨_,_,O,O,O⟩⟩⟩⟩,(CH (is:=[5]) O),?_⟩))))
  all_goals exact⟨by show (.tup [.agg [.p (I 0),.p (.str ⟨#[]⟩),.p (I 0),.p (I 0),.p (I 0),.p (.str ⟨#[]⟩),.p (.lst []),.p (.lst []),.p (I 0),.p (I 0),.p (.str ⟨#[]⟩),.p (.lst []),.p (.lst []),.p (I 0),.p (.lst []),.p (I 0),.p (I 0),.p (I 0),.p (.str ⟨#[]⟩),.p (.lst []),.p (.lst []),.p (.lst []),.p (.lst [])],.p (I 0),.p (.lst (BC [])),.p (.bool false)]:AV)=_;rw[PR (fP hz (by simpa using c) hcc.1 hcc.2 (by rw[QJ hx hfx.1];exact c2))];rfl,rfl⟩
 (try simp only[sd,se] at c2);have hl3:=c2;refine A1 (Au (B6 (fun k=>false) EO (Bb A0 4 [1] O (Cc (j:=1) O O O (fun H i hi=>A2 (i:=i) Df O hi (DR _)) AB Ap (BL O (fun _=>Co (lo:=(((Ds ds zn).1).fixed:Int).toNat) Bg O (CB (Bu _)) ⟨_,pI An⟩ O AP (Nat.le_refl _) (MA ((A9 t).2) ((((Ds ds zn).1).fixed:Int).toNat))) Ap (B4 A0 4 [3,1] O (Az (⟨O,_,_,⟨_,_,O,(BE (i:=3) Gg O O Ad),⟨_,_,O,O,⟨_,_,O,O,⟨_,_,O,O,O⟩⟩⟩⟩,(CH (is:=[5]) O),?_⟩))))))))
 all_goals exact⟨by show (.tup [.agg ((Bj ((Ds ds zn).1)).map .p),.p (I ((Ds ds zn).2.1)),.p (.lst (BC (((A9 t).2).drop ((((Ds ds zn).1).fixed:Int).toNat)))),.p (.bool true)]:AV)=_;rw[TR (jB hz (by simpa using c) hcc.1 hcc.2 (by rw[QJ hx hfx.1];exact c2))],rfl⟩
theorem gO:∀(b0:Nat) (x:F7) (nm:ByteArray),Bl Tryz.prog 129 [.agg ((GM x).map .p),.ptr b0 0] [.box b0 [.p (.str nm)]] (G5 (.p (.bool (x.ctor.toList==nm.toList))) [.box b0 [.p (.str nm)]]):=by
 intro b0 x nm;refine A4 Tryz.func129 O nF (n:=8) O O (Aw (BG O (BO O) fun b2=>Ar A0 1 [] O (Aw (Aq O (Ax JB O O) (Aq O (A2 (i:=0) MR O O (Gv _)) (Aq O (B0 (i:=1) MR O O O) (Aq O (Fu O O) (Ar A0 1 [] O (Az (⟨O,_,_,⟨_,_,O,O,O⟩,(CH (is:=[1]) O),?_⟩))))))))))
 all_goals exact⟨rfl,rfl⟩
theorem kO:∀(b0:Nat) (nm:ByteArray) (l:List F7),(l.length<2000000)→Bl Tryz.prog 128 [.p (.lst (KZ l)),.fn (.func 129) [] [.ptr b0 0]] [.box b0 [.p (.str nm)]] (G5 (.p (I (Lv nm l 0))) [.box b0 [.p (.str nm)]]):=by
 intro b0 nm l h1;refine A4 Tryz.func128 O nM (n:=19) O O (As A0 1 [] O (Au (Aw (Br O (Aq O (BM Kg O (Fq _)) (Ar A0 1 [] O (A8 (Be (α:=Nat) (fun i=>⟨19,mk [(0,.p (.lst (KZ l))),(1,.fn (.func 129) [] [.ptr b0 0]),(7,.p (I (l.length:Nat))),(8,.p (I (i:Int)))],[.box b0 [.p (.str nm)]],[]⟩) (fun i=>l.length - i) (fun i=>i≤l.length∧(Lv nm (l.drop i) (i:Int)=Lv nm l 0)) 0 (⟨by omega,rfl⟩) ?_ ?_))))))))
 ·exact BY ⟨we O,we O,we O,we O,Ap⟩ (leH (is:=[0]) O (wl (oe O) (DO)))
 rintro i hC
 try simp only at hC
 obtain⟨hi,hC⟩:=hC;refine As A0 1 [] O (Au (Av O (fun c=>?_) (fun c=>?_)))
 ·(try simp only[sd,se] at c);refine A1 (Au (A8 (As A0 2 [] O (Aw (Ay A0 3 [] O ?_)))));obtain⟨x,hx⟩:=A6 (l:=l) (i:=i) An;refine Aq O (A5 Kg O O An (Ga hx) (Dc _)) (Aq O (BJ SK O (Dc _)) (Aq O (CW [0] O (.inr O) (gO b0 x nm) ⟨_,_,O,O,O⟩ Am O (.inl O)) (Bf O (Av O (fun c1=>?_) (fun c1=>?_)))))
  ·(try simp only[sd,se] at c1);refine As A0 2 [] O (Az (⟨O,_,_,⟨_,_,O,O,O⟩,(CH (is:=[0]) O),?_⟩))
   all_goals exact⟨pI (by rw[←hC,fW hx (by simpa using c1)]),rfl⟩
  (try simp only[sd,se] at c1);refine A1 (A3 (Ar A0 2 [] O ?_));refine⟨(i+1),AT,⟨by omega,by rw[←hC,j0 hx (by simpa using c1)];rfl⟩,BY ⟨we rfl,we rfl,we rfl,we rfl,trivial⟩ (leH (is:=[0]) rfl (wl (oe rfl) (DO)))⟩
 (try simp only[sd,se] at c);refine Bh (As A0 1 [] O (Az (⟨O,_,_,⟨_,_,O,O,O⟩,(CH (is:=[0]) O),?_⟩)))
 all_goals exact⟨pI (by rw[←hC,List.drop_eq_nil_of_le An];rfl),rfl⟩
end Go.Proofs.YtboammbpdaoojaaGreat
