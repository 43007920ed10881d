/- Part of the proofs: an abstract program logic, plain models and contracts of functions. -/
import Derived.Shelf.SlIterI.Nil
import Derived.Shelf.SortM.Plain
import Derived.Shelf.SortM.SortNone
import Derived.Ground.GgzProg
import Derived.Ground.SlgmProg
import Derived.Test.YtboammbpdaoojaaGreatProg
import Derived.Test.YtboammbpdaoojaaGreatPe
import Derived.Test.YtboammbpdaoojaaGreatPb
import Derived.Test.YtboammbpdaoojaaGreatPf
import Derived.Test.YtboammbpdaoojaaGreatPd
import Derived.Test.YtboammbpdaoojaaGreatPc
set_option linter.unusedVariables false
set_option linter.unusedSimpArgs false
set_option maxRecDepth 100000
namespace Go.Proofs
open Go.Shelf
def Tryz.keysA_ren:Go.Shelf.Ren:=⟨fun | 7=>193 | 10=>199 | n=>n,fun | 23=>229 | 26=>3 | 3=>3 | 28=>240 | 0=>0 | 27=>239 | 33=>245 | 4=>4 | n=>n,fun | n=>n⟩
theorem Tryz.keysA:Go.Proofs.SlLaysZI.n7 Tryz.prog Tryz.keysA_ren:={
 mixed:=by kernel_rfl
 f7:=⟨Tryz.f193.name,by decide,Tryz.func193.trans (congrArg some Aj)⟩
 f10:=⟨Tryz.f199.name,by decide,Tryz.func199.trans (congrArg some Aj)⟩
 t0:=Tryz.underlying0
 a0:=Tryz.isAgg0
 z0:=Tryz.sizeOf0
 v0:=Tryz.zeroValue0
 t4:=Tryz.underlying4
 a4:=Tryz.isAgg4
 z4:=Tryz.sizeOf4
 v4:=Tryz.zeroValue4
 t23:=Tryz.underlying229
 a23:=Tryz.isAgg229
 z23:=Tryz.sizeOf229
 v23:=Tryz.zeroValue229
 t26:=Tryz.underlying3
 a26:=Tryz.isAgg3
 z26:=Tryz.sizeOf3
 v26:=Tryz.zeroValue3
 t27:=Tryz.underlying239
 a27:=Tryz.isAgg239
 z27:=Tryz.sizeOf239
 v27:=Tryz.zeroValue239
 t28:=Tryz.underlying240
 a28:=Tryz.isAgg240
 z28:=Tryz.sizeOf240
 v28:=Tryz.zeroValue240
 t33:=Tryz.underlying245
 a33:=Tryz.isAgg245
 z33:=Tryz.sizeOf245
 v33:=Tryz.zeroValue245 }
def Tryz.sortedA_ren:Go.Shelf.Ren:=⟨fun | 6=>192 | 8=>197 | 9=>198 | 11=>201 | 13=>203 | 12=>202 | 23=>213 | 24=>214 | 14=>204 | 15=>205 | 16=>206 | 17=>207 | 18=>208 | 19=>209 | 20=>210 | 21=>211 | 22=>212 | 25=>215 | 26=>216 | 27=>217 | 28=>218 | 29=>219 | 30=>220 | 31=>221 | n=>n,fun | 26=>3 | 28=>240 | 24=>137 | 0=>0 | 3=>3 | 37=>250 | 48=>260 | 50=>262 | 4=>4 | 40=>253 | 39=>252 | 45=>45 | 5=>5 | 9=>9 | 51=>263 | 55=>267 | 57=>269 | 58=>110 | 33=>245 | n=>n,fun | n=>n⟩
theorem Tryz.sortedA:Go.Proofs.SlLaysZI.n6 Tryz.prog Tryz.sortedA_ren:={
 mixed:=by kernel_rfl
 f6:=⟨Tryz.f192.name,by decide,Tryz.func192.trans (congrArg some Aj)⟩
 f8:=⟨Tryz.f197.name,by decide,Tryz.func197.trans (congrArg some Aj)⟩
 f11:=⟨Tryz.f201.name,by decide,Tryz.func201.trans (congrArg some Aj)⟩
 t0:=Tryz.underlying0
 a0:=Tryz.isAgg0
 z0:=Tryz.sizeOf0
 v0:=Tryz.zeroValue0
 t24:=Tryz.underlying137
 a24:=Tryz.isAgg137
 z24:=Tryz.sizeOf137
 v24:=Tryz.zeroValue137
 t26:=Tryz.underlying3
 a26:=Tryz.isAgg3
 z26:=Tryz.sizeOf3
 v26:=Tryz.zeroValue3
 t28:=Tryz.underlying240
 a28:=Tryz.isAgg240
 z28:=Tryz.sizeOf240
 v28:=Tryz.zeroValue240
 i26:=by kernel_rfl }
def Tryz.sortA_ren:Go.Shelf.Ren:=⟨fun | 5=>198 | 8=>203 | 7=>202 | 19=>213 | 20=>214 | 10=>204 | 11=>205 | 12=>206 | 13=>207 | 14=>208 | 15=>209 | 16=>210 | 17=>211 | 18=>212 | 30=>215 | 31=>216 | 32=>217 | 33=>218 | 34=>219 | 35=>220 | 40=>221 | n=>n,fun | 23=>137 | 25=>3 | 3=>3 | 32=>250 | 22=>137 | 0=>0 | 44=>260 | 46=>262 | 4=>4 | 36=>253 | 35=>252 | 41=>45 | 5=>5 | 9=>9 | 53=>263 | 57=>267 | 63=>269 | 64=>110 | n=>n,fun | n=>n⟩
theorem Tryz.sortA:Go.Proofs.SlLaysM.n5 Tryz.prog Tryz.sortA_ren:={
 mixed:=by kernel_rfl
 f5:=⟨Tryz.f198.name,by decide,Tryz.func198.trans (congrArg some Aj)⟩
 f7:=⟨Tryz.f202.name,by decide,Tryz.func202.trans (congrArg some Aj)⟩
 f8:=Tryz.func203.trans (congrArg some Aj)
 f10:=⟨Tryz.f204.name,by decide,Tryz.func204.trans (congrArg some Aj)⟩
 f11:=⟨Tryz.f205.name,by decide,Tryz.func205.trans (congrArg some Aj)⟩
 f12:=⟨Tryz.f206.name,by decide,Tryz.func206.trans (congrArg some Aj)⟩
 f13:=⟨Tryz.f207.name,by decide,Tryz.func207.trans (congrArg some Aj)⟩
 f14:=⟨Tryz.f208.name,by decide,Tryz.func208.trans (congrArg some Aj)⟩
 f15:=⟨Tryz.f209.name,by decide,Tryz.func209.trans (congrArg some Aj)⟩
 f16:=⟨Tryz.f210.name,by decide,Tryz.func210.trans (congrArg some Aj)⟩
 f17:=⟨Tryz.f211.name,by decide,Tryz.func211.trans (congrArg some Aj)⟩
 f18:=⟨Tryz.f212.name,by decide,Tryz.func212.trans (congrArg some Aj)⟩
 f19:=Tryz.func213.trans (congrArg some Aj)
 f20:=Tryz.func214.trans (congrArg some Aj)
 f30:=⟨Tryz.f215.name,by decide,Tryz.func215.trans (congrArg some Aj)⟩
 f31:=Tryz.func216.trans (congrArg some Aj)
 f32:=Tryz.func217.trans (congrArg some Aj)
 f33:=⟨Tryz.f218.name,by decide,Tryz.func218.trans (congrArg some Aj)⟩
 f34:=⟨Tryz.f219.name,by decide,Tryz.func219.trans (congrArg some Aj)⟩
 f35:=⟨Tryz.f220.name,by decide,Tryz.func220.trans (congrArg some Aj)⟩
 f40:=⟨Tryz.f221.name,by decide,Tryz.func221.trans (congrArg some Aj)⟩
 t0:=Tryz.underlying0
 a0:=Tryz.isAgg0
 z0:=Tryz.sizeOf0
 v0:=Tryz.zeroValue0
 t3:=Tryz.underlying3
 a3:=Tryz.isAgg3
 z3:=Tryz.sizeOf3
 v3:=Tryz.zeroValue3
 t4:=Tryz.underlying4
 a4:=Tryz.isAgg4
 z4:=Tryz.sizeOf4
 v4:=Tryz.zeroValue4
 t5:=Tryz.underlying5
 a5:=Tryz.isAgg5
 z5:=Tryz.sizeOf5
 v5:=Tryz.zeroValue5
 t9:=Tryz.underlying9
 a9:=Tryz.isAgg9
 z9:=Tryz.sizeOf9
 v9:=Tryz.zeroValue9
 t22:=Tryz.underlying137
 a22:=Tryz.isAgg137
 z22:=Tryz.sizeOf137
 v22:=Tryz.zeroValue137
 t23:=Tryz.underlying137
 a23:=Tryz.isAgg137
 z23:=Tryz.sizeOf137
 v23:=Tryz.zeroValue137
 t25:=Tryz.underlying3
 a25:=Tryz.isAgg3
 z25:=Tryz.sizeOf3
 v25:=Tryz.zeroValue3
 t32:=Tryz.underlying250
 a32:=Tryz.isAgg250
 z32:=Tryz.sizeOf250
 v32:=Tryz.zeroValue250
 t35:=Tryz.underlying252
 a35:=Tryz.isAgg252
 z35:=Tryz.sizeOf252
 v35:=Tryz.zeroValue252
 t36:=Tryz.underlying253
 a36:=Tryz.isAgg253
 z36:=Tryz.sizeOf253
 v36:=Tryz.zeroValue253
 t41:=Tryz.underlying45
 a41:=Tryz.isAgg45
 z41:=Tryz.sizeOf45
 v41:=Tryz.zeroValue45
 t44:=Tryz.underlying260
 a44:=Tryz.isAgg260
 z44:=Tryz.sizeOf260
 v44:=Tryz.zeroValue260
 t46:=Tryz.underlying262
 a46:=Tryz.isAgg262
 z46:=Tryz.sizeOf262
 v46:=Tryz.zeroValue262
 t53:=Tryz.underlying263
 a53:=Tryz.isAgg263
 z53:=Tryz.sizeOf263
 v53:=Tryz.zeroValue263
 t57:=Tryz.underlying267
 a57:=Tryz.isAgg267
 z57:=Tryz.sizeOf267
 v57:=Tryz.zeroValue267
 t63:=Tryz.underlying269
 a63:=Tryz.isAgg269
 z63:=Tryz.sizeOf269
 v63:=Tryz.zeroValue269
 t64:=Tryz.underlying110
 a64:=Tryz.isAgg110
 z64:=Tryz.sizeOf110
 v64:=Tryz.zeroValue110 }
end Go.Proofs
namespace Go.Proofs
open Go.RowKit Go.Maps Go.Sort Go.Shelf
theorem Tryz.sortsA (m:Nat):AnyZI.SortsIn Tryz.prog Tryz.sortedA_ren Fence.wide m :=
 ⟨fun blk off cap ss W hH hblk hsz=>callsIn_wide.2 (AnyM.slices_Sort_int Tryz.sortA blk off cap ss W hH hblk hsz),
  fun p cap W=>callsIn_wide.2 (AnyM.slices_Sort_int_none Tryz.sortA p cap W)⟩
set_option maxHeartbeats 1000000 in
theorem Tryz.sortedKeys {H:Type}(Bm b nn:Nat) (D0:DataW H) (R:Value→Option (DataW H×List MemPlace)) (w:World) (hBm:Bm<w.heap.size) (hcell:w.cell? ⟨Bm,0,none⟩=some (.map (some b))) (hown:w.ownsMap Tryz.prog 3 R b nn D0) (hmax:Maps.size D0≤maxLen) (hbytes:Maps.size D0*8≤140737488355328) :
  Calls Tryz.prog 192 #[.func (.func 199) #[] #[.pointer (some ⟨Bm,0,none⟩)]] w fun e w'=>∃(v:Value) (ss:List Int),e= .returned v∧ss.Perm (intKeys D0) ∧
   w'.ownsRow w.heap.size 3 1 v ss.length ((ss.mergeSort (fun x y=>decide (x≤y))).map encZ)∧(v= .slice none 0 0↔ss=[])∧Below w.heap.size w w':=by
 refine(callsIn_wide (n:=5)).1 ?_;have hseq:SeqGives Fence.wide 2 Tryz.prog 199 #[.pointer (some ⟨Bm,0,none⟩)] encZ (fun ss=>ss.Perm (intKeys D0)) (Maps.size D0) w :=
  AnyZI.keys_gives (ρ:=Tryz.keysA_ren) { Tryz.keysA with } Fence.wide _ trivial rfl An Bm b nn D0 w hBm hcell hown
 exact AnyZI.sorted_in Tryz.sortedA Fence.wide 5 Ap Ap Ap Ap O An (Tryz.sortsA _) (enters_of Tryz.func198 Aj O) 199 #[.pointer (some ⟨Bm,0,none⟩)] Ap (enters_of Tryz.func199 Aj O) _ _ hmax hbytes _ hseq
end Go.Proofs
namespace Go.Proofs.YtboammbpdaoojaaGreat
open Go.Abs Go.Eu
theorem mB:∀(m:Nat),Bn Tryz.prog 193 [.map m] [] (fp (fun b=> .fn (.func 199) [] [.ptr b 0]) [.map m]):=by
 intro m;refine A5 Tryz.func193 O qL (n:=4) O O (Aw (BF O (BN O) fun b1=>Ar Ay 1 [] O (Au Ay 2 [] O (A1 (⟨O,_,_,⟨_,_,O,O,O⟩,(B8 (is:=[0]) O),?_⟩)))));exact⟨_,O,O⟩
theorem ep:∀(b m:Nat) (M:List (Int×Int)),M.length<1000000→(∀k∈M.map Prod.fst,-65536≤k∧k<8)→Bn Tryz.prog 192 [.fn (.func 199) [] [.ptr b 0]] [.box b [.map m],.map m (EF (G4 M))] (Gk (.p (.lst ((FE (M.map Prod.fst)).map G0))) [.box b [.map m],.map m (EF (G4 M))]):=fun b m M h1 h2=>Qw (kT:=3) (eT:=3) Aj Aj (fun Bm b nn D0 R w g1 g2 g3 g4 g5=>Tryz.sortedKeys Bm b nn D0 R w g1 g2 g3 g4 g5) b m M h1 h2
theorem db:∀(s m:Nat) (M:List (Int×Int)) (C:Int),(ZY (M,C))→Bn Tryz.prog 186 [.ptr s 0] [.box s [.map m,.p (I C)],.map m (EF (G4 M))] (Gk (.tup [.agg ((By ((JU ⟨C,G5 M⟩).1)).map .p),.p (I ((JU ⟨C,G5 M⟩).2))]) [.box s [.map m,.p (I C)],.map m (EF (G4 M))]):=by
 intro s m M C h1;have hkl:(FE (M.map Prod.fst)).length=M.length:=by simp[UC]
 have hml:M.length≤65544:=h1.len;refine A5 Tryz.func186 O sA (n:=41) O O (Aw (BF O (A7 EI O) fun b2=>Ar Ay 1 [] O (Aw (Ax Ay 5 [1] O (BF O (A7 EI O) fun b4=>Ar Ay 1 [0,0] O (As (Aw (B4 (IA (i:=0) O (Ys (aw (we O) (aw (JM) (E0))))) (B4 (H6 (sz:=2)) (Ax Ay 4 [3] O (aK O O O (.inl ⟨O,O,O⟩) (mB m) (DQ _) fun bk=>Aq O (CE [0,5] O (.inl ⟨O,O,O⟩) (ep bk m M An h1.r) ⟨_,_,O,O,⟨_,_,O,O,O⟩⟩ Am O (.inl O)) (Aq O (BJ Hr O (List.length_map _)) (Ar Ay 1 [] O (A9 ?_))))))))))))));refine Bc (α:=Nat×Option Nat×Nat) (fun(i,o,cp)=>⟨41,mk [(0,.ptr s 0),(2,.ptr b2 0),(4,.ptr b4 0),(17,.p (.lst (List.map G0 (FE (M.map Prod.fst))))),(18,.p (I ((FE (M.map Prod.fst)).length:Nat))),(19,.p (I (i:Int)))],[.vec o 2 (List.map Dt (((FE (M.map Prod.fst)).take i).map (Qs M))) cp,.box b4 [.p (I C),.vs o (List.map Dt (((FE (M.map Prod.fst)).take i).map (Qs M))).length cp],.box b2 [.p (I 0),.p (.nils)],.box s [.map m,.p (I C)],.map m (EF (G4 M))],[]⟩) (fun(i,o,cp)=>(FE (M.map Prod.fst)).length - i) (fun(i,o,cp)=>i≤(FE (M.map Prod.fst)).length) ⟨0,none,0⟩ AQ ?_ ?_
 ·exact BS ⟨we O,we O,we O,we O,we O,we O,Ap⟩ (leH (is:=[1,2,3,4,5]) O (wl (oe O) (wl (oe O) (wl (oe O) (wl (oe O) (wl (oe O) (C2)))))))
 rintro⟨i,o,cp⟩ hC
 try simp only at hC
 have hi:=hC;refine Au Ay 1 [] O (As (Av O (fun c=>?_) (fun c=>?_)))
 ·simp only[sd,se] at c;refine A2 (As (A9 (Aw ?_)));obtain⟨x,hx⟩:=A6 (l:=FE (M.map Prod.fst)) (i:=i) An;refine Aq O (A4 Hr O O An (MS hx) (O)) (Ar Ay 2 [] O (Bt (fun k=>Nat.beq k 11) Dn (BR Ay 8 [1,3] O ?_)));refine CV (j:=4) O O O (fun H i hi=>Wl (i:=i) gh ki (fun _ _=>by simp[CN,CK]) rfl rfl hi (XY _ _)) AB trivial ?_;refine BG O (fun _=>CO nD F8 O) Ap (BG O (fun _=>Bl CY F8 O O O O O) Ap (K5 [] O O (CR (i:=0) (rows':=List.map Dt [(CF.mk x ((mg x M).getD 0))]) CY CY F8 O O O O O O (GG _) AF (GP (f:=Dt) (((FE (M.map Prod.fst)).take i).map (Qs M)) [(CF.mk x ((mg x M).getD 0))])) Aj fun o1 cp1=>⟨AB,Ap,?_⟩));refine Bk Ay 2 [1,0] O (A3 (Ar Ay 2 [] O ?_));refine⟨⟨i+1,o1,cp1⟩,AW,by omega,BS ⟨we rfl,we rfl,we rfl,we rfl,we rfl,we rfl,trivial⟩ (leH (is:=[0,1,2,3,4]) rfl (wl (Fl (f:=Dt) (((FE (M.map Prod.fst)).take i).map (Qs M)++[(CF.mk x ((mg x M).getD 0))]) (by rw[List.take_add_one,hx];simp[Qs])) (wl (Ys (aw (we rfl) (aw (we (Gb (f:=Dt) (((FE (M.map Prod.fst)).take i).map (Qs M)++[(CF.mk x ((mg x M).getD 0))]) (by rw[List.take_add_one,hx];simp[Qs]))) (E0)))) (wl (oe rfl) (wl (oe rfl) (wl (oe rfl) (C2)))))))⟩
 simp only[sd,se] at c;refine Be (Aw (B4 (DJ (i:=0) (j:=1) (q:=1) [] O O O (D5 Ap)) (Aq O (BU (i:=0) DU O O O) (Aq O (BC O O (Y6 (CS.mk C (((FE (M.map Prod.fst)).take i).map (Qs M))) (by simp only[List.length_map,List.length_take,DY];omega)) O) (Ar Ay 4 [1,1] O (A1 (⟨O,_,_,⟨_,_,O,(BA (i:=1) DU O O Ae),⟨_,_,O,O,O⟩⟩,(B8 (is:=[2,3]) O),?_⟩)))))))
 all_goals exact⟨by show (.tup [.agg ((By ((JU (CS.mk C (((FE (M.map Prod.fst)).take i).map (Qs M)))).1)).map .p),.p (I ((JU (CS.mk C (((FE (M.map Prod.fst)).take i).map (Qs M)))).2))]:AV)=_;rw[show ((FE (M.map Prod.fst)).take i).map (Qs M)=G5 M from ZO An],rfl⟩
theorem dK:∀(l:CS) (ps:List CS),(Nj l)→(ps.length<DY)→(∀p∈ps,Nj p)→ET Tryz.prog 166 [.agg ((By l).map .p),.p (.lst (List.map By ps))] (.tup [.agg ((By ((Is l ps).1)).map .p),.p (I ((Is l ps).2))]):=by
 intro l ps h1 h2 h3;have hl:=h1.vars;have hl2:=h2;simp only[DY] at hl hl2;refine A5 Tryz.func166 O qQ (n:=63) O O (Aw (BF O (BN O) fun b2=>BF O (A7 EI O) fun b4=>Ar Ay 1 [] O (As (As (BT [1,2,4] 16 (fun y=>y= .p (.bool ((!(B9 l))||(!(ps.all B9))))) ?_ ?_)))))
 ·refine A3 (Aq O (BU (i:=1) DU O O Ae) (Aq O (BC O O (SK l h1) O) (Ax Ay 2 [] O (BO 12 O (fun g=>?_) (fun g=>?_)))))
  ·simp only[sd,se] at g;exact Ar Ay 4 [] O (⟨O,O,AM,AI,⟨O,O,O,Ap⟩⟩)
  simp only[sd,se] at g;exact BB O (Ba O) (BB O (BC O O (Xh ps h2 h3) O) (Ar Ay 2 [] O (⟨O,O,AM,AI,⟨O,O,O,Ap⟩⟩)))
 rintro _ rfl;refine Av O (fun c=>?_) (fun c=>?_)
 ·simp only[sd,se] at c;refine Au Ay 3 [0,0] O (BH (BW (i:=0) O) (A1 (⟨O,_,_,⟨_,_,O,(BA (i:=0) DU O O O),⟨_,_,O,O,O⟩⟩,(List.nil_sublist _),?_⟩)))
  all_goals exact⟨by show (.tup [.agg [.p (I 0),.p (.lst [])],.p (I 3)]:AV)=_;rw[show Is l ps=(FU,3) by rw[Is,if_pos (by simpa using c)]];rfl,rfl⟩
 simp only[sd,se] at c;have hv:B9 l=true∧ps.all B9=true:=by simpa using c
 refine A2 (As (Aw (Aq O (BU (i:=1) DU O O Ae) (Aq O (BC O O (dE l h1) O) (Br O (Aq O (BJ EV O (List.length_map _)) (Ar Ay 1 [] O (Av O (fun c1=>?_) (fun c1=>?_)))))))))
 ·simp only[sd,se] at c1;refine Au Ay 3 [0,0] O (BH (BW (i:=0) O) (A1 (⟨O,_,_,⟨_,_,O,(BA (i:=0) DU O O O),⟨_,_,O,O,O⟩⟩,(List.nil_sublist _),?_⟩)))
  all_goals exact⟨by show (.tup [.agg [.p (I 0),.p (.lst [])],.p (I 24)]:AV)=_;rw[show Is l ps=(FU,24) by rw[Is,if_neg (by simp[hv]),if_pos c1]];rfl,rfl⟩
 simp only[sd,se] at c1;have hpl:¬(Ge l > ps.length):=by omega
 refine A2 (Aw (bZ O O O (.inl ⟨O,O,O⟩) gJ (DQ _) fun bs=>?_));obtain⟨bs,mm⟩:=bs;refine Ar Ay 1 [] O (Au Ay 6 [3,0,0] O (As (Aw (Ax Ay 2 [3] O (Aq O (BJ CY O (List.length_map _)) (Ar Ay 1 [] O (A9 (Bc (α:=Nat) (fun i=>⟨63,mk [(1,.p (.lst (List.map By ps))),(4,.ptr b4 0),(6,.ptr bs 0),(31,.p (.lst (List.map Dt l.vars))),(32,.p (I (l.vars.length:Nat))),(33,.p (I (i:Int)))],[.box bs [.map mm,.p (I (((l.vars.take i).foldl (D2 ps) ([],l.const)).2))],.map mm (EF (G4 ((l.vars.take i).foldl (D2 ps) ([],l.const)).1)),.box b4 [.p (I 0),.p (.nils)]],[]⟩) (fun i=>l.vars.length - i) (fun i=>i≤l.vars.length) 0 AQ ?_ ?_))))))))
 ·exact BS ⟨we O,we O,we O,we O,we O,we O,Ap⟩ (leH (is:=[0,1,2]) O (wl (oe O) (wl (oe O) (wl (oe O) (C2)))))
 rintro i hC
 try simp only at hC
 have hi:=hC;refine Au Ay 1 [] O (As (Av O (fun c2=>?_) (fun c2=>?_)))
 ·simp only[sd,se] at c2;refine A2 (As (A9 (Aw ?_)));obtain⟨x,hx⟩:=A6 (l:=l.vars) (i:=i) An;have hw:=Lh hv.1 hx;have hpi:=gm hv.1 hpl hx;refine Aq O (A4 CY O O An (Cl hx) (O)) (Aq O (BM OL O (O)) (BF O (A7 F8 O) fun b8=>Ar Ay 1 [0,1] O (Au Ay 3 [0] O (Av O (fun c3=>?_) (fun c3=>?_)))))
  ·simp only[sd,se] at c3;refine Bt (fun k=>false) Dn (BR Ay 8 [1,0,0] O (GX O O (CE [2] O (.inl ⟨O,O,O⟩) (XC mm (((l.vars.take i).foldl (D2 ps) ([],l.const)).1) x.index x.plus) ⟨_,_,O,O,O⟩ Am O (.inl O)) AB Ap (Je O Aj (A3 (Ar Ay 2 [] O ?_)))));refine⟨(i+1),AW,by omega,BS ⟨we rfl,we rfl,we rfl,we rfl,we rfl,we rfl,trivial⟩ (leH (is:=[1,2,3]) rfl (wl (ob (by first | (simp only[step_take hx,WA c3];done) | (simp only[step_take hx,VS c3 hx1];done))) (wl (om (by first | (simp only[step_take hx,WA c3];done) | (simp only[step_take hx,VS c3 hx1];done))) (wl (oe rfl) (C2)))))⟩
  simp only[sd,se] at c3;refine Bt (fun k=>false) Dn (BR Ay 4 [0] O ?_);obtain⟨x1,hx1⟩:=A6 (l:=ps) (i:=(x.index:Int).toNat) An;refine BG O (fun _=>A4 EV O O An (Fu hx1) (Dg _)) Ap (BR Ay 3 [0] O (GX O O (CE [1,2] O (.inl ⟨O,O,O⟩) (lh bs mm (((l.vars.take i).foldl (D2 ps) ([],l.const)).1) (((l.vars.take i).foldl (D2 ps) ([],l.const)).2) x1 x.plus (JG.of (List.all_eq_true.1 hv.2 _ (List.mem_of_getElem? hx1))) hw.1.1 hw.1.2) ⟨_,_,O,O,⟨_,_,O,O,O⟩⟩ Am O (.inl O)) AB Ap (Je O Aj (A3 (Ar Ay 2 [] O ?_)))));refine⟨(i+1),AW,by omega,BS ⟨we rfl,we rfl,we rfl,we rfl,we rfl,we rfl,trivial⟩ (leH (is:=[1,2,3]) rfl (wl (ob (by first | (simp only[step_take hx,WA c3];done) | (simp only[step_take hx,VS c3 hx1];done))) (wl (om (by first | (simp only[step_take hx,WA c3];done) | (simp only[step_take hx,VS c3 hx1];done))) (wl (oe rfl) (C2)))))⟩
 simp only[sd,se] at c2;refine Be (Aw ?_);have hfin:ZY ((l.vars.take i).foldl (D2 ps) ([],l.const)):=ZY.fold (List.all_eq_true.1 hv.2) _ _ (ZY.zero _) (fun x hx=>by
  obtain⟨j,hj⟩:=List.mem_iff_getElem?.1 (List.mem_of_mem_take hx);exact⟨Lh hv.1 hj,gm hv.1 hpl hj⟩)
 refine Br O (Aq O (CE [0,1] O (.inl ⟨O,O,O⟩) (db bs mm (((l.vars.take i).foldl (D2 ps) ([],l.const)).1) (((l.vars.take i).foldl (D2 ps) ([],l.const)).2) hfin) ⟨_,_,O,O,⟨_,_,O,O,O⟩⟩ Am O (.inl O)) (Ar Ay 4 [2,1] O (A1 (⟨O,_,_,⟨_,_,O,(BA (i:=2) DU O O Ae),⟨_,_,O,O,O⟩⟩,(List.nil_sublist _),?_⟩))))
 all_goals exact⟨by show (.tup [.agg ((By ((JU ⟨(((l.vars.take i).foldl (D2 ps) ([],l.const)).2),G5 (((l.vars.take i).foldl (D2 ps) ([],l.const)).1)⟩).1)).map .p),.p (I ((JU ⟨(((l.vars.take i).foldl (D2 ps) ([],l.const)).2),G5 (((l.vars.take i).foldl (D2 ps) ([],l.const)).1)⟩).2))]:AV)=_;rw[show Is l ps=JU ⟨(l.vars.foldl (D2 ps) ([],l.const)).2,G5 (l.vars.foldl (D2 ps) ([],l.const)).1⟩ by rw[Is,if_neg (by simp[hv]),if_neg hpl]];rw[show l.vars.take i=l.vars from List.take_of_length_le An],rfl⟩
theorem _root_.Go.Ag {α:Prop}(h:α:=by simp[BD]):α:=h
theorem GM:∀(f:Tm) (xs:List Tm),(xs.length<DY)→ET Tryz.prog 24 [.agg ((BP f).map .p),.p (.lst (BE xs))] (.agg ((BP (apply f xs)).map .p)):=by
 intro f xs h1;simp only[DY] at h1;refine A5 Tryz.func24 O wH (n:=20) O O (Aw (BF O (BN O) fun b2=>BF O (A7 Bx O) fun b4=>Bg O (As (Au Ay 1 [] O (A9 (Bc (α:=Nat) (fun i=>⟨20,mk [(1,.p (.lst (BE xs))),(2,.ptr b2 0),(4,.ptr b4 0),(5,.p (I (i:Int)))],[.box b4 [.p (I 0),.p (I 0),.p (.str ⟨#[]⟩),.p (.nils),.p (.nils)],.box b2 ((BP (apply f (xs.take i))).map .p)],[]⟩) (fun i=>xs.length - i) (fun i=>i≤xs.length) 0 AQ ?_ ?_))))))
 ·exact BS ⟨we O,we O,we O,we O,Ap⟩ (leH (is:=[0,1]) O (wl (oe O) (wl (oe O) (C2))))
 rintro i hC
 try simp only at hC
 have hi:=hC;refine As (Aw (Ax Ay 2 [] O (Aq O (BJ Bf O (BQ _)) (Ar Ay 1 [] O (Av O (fun c=>?_) (fun c=>?_))))))
 ·simp only[sd,se] at c;refine A2 (As (A9 (Bt (fun k=>false) Dn (BR Ay 3 [1] O ?_))));obtain⟨x,hx⟩:=A6 (l:=xs) (i:=i) An;refine BG O (fun _=>A4 Bf O O An (Bd hx) (BD _)) Ap (BG O (fun _=>BM BZ O (BD _)) Ap ?_);generalize hz:(apply f (xs.take i))=z;obtain⟨zk,zi,zn,zl,zs⟩:=z;obtain⟨xk,xi,xn,xl,xs1⟩:=x;refine BG O (fun _=>Bl Bf Bx O O O O O) Ap (Bk Ay 2 [1,0] O (A3 (Ar Ay 3 [] O ?_)));refine⟨(i+1),AW,by omega,BS ⟨we rfl,we rfl,we rfl,we rfl,trivial⟩ (leH (is:=[0,1]) rfl (wl (oe rfl) (wl (on (by rw[TC hx,hz];rfl)) (C2))))⟩
 simp only[sd,se] at c;refine Be (Au Ay 2 [1,0,1] O (A1 (⟨O,_,_,⟨_,_,O,(BA (i:=0) BZ O O Ag),O⟩,(List.nil_sublist _),?_⟩)))
 all_goals exact⟨by show (.agg ((BP (apply f (xs.take i))).map .p):AV)=_;rw[show i=xs.length by omega,List.take_length],rfl⟩
theorem _root_.Go.Ab {α:Prop}(h:α:=by simp only[DY];omega):α:=h
theorem cr:∀(n:Nat) (t:Tm),(size t≤n)→(n<DY)→Bn Tryz.prog 21 [.agg ((BP t).map .p)] [] (eD (fun v=> .tup [.agg ((BP ((A8 t).1)).map .p),v]) 5 (BE ((A8 t).2))):=by
 intro n
 induction n with
 | zero=>intro t h;cases t;simp[size] at h
 | succ n ih =>
  intro t h1 h2;simp only[DY] at h2;refine A5 Tryz.func21 O uv (n:=32) O O (Aw (BF O (BN O) fun b1=>BF O (A7 Bx O) fun b2=>Ar Ay 1 [] O (As (As ?_))));obtain⟨tk,ti,tn,tl,ts⟩:=t;simp only[size] at h1;refine BT [1,2] 14 (fun y=>y= .p (.bool (((tk:Int) !=(4:Int))||(((ts.length:Nat):Int) !=(2:Int))))) ?_ ?_
  ·refine A3 (Ax Ay 4 [1] O (BO 9 O (fun g=>?_) (fun g=>?_)))
   ·simp only[sd,se] at g;exact Ar Ay 5 [] O (⟨O,O,AM,AI,⟨O,O,Ap⟩⟩)
   simp only[sd,se] at g;exact Ax Ay 2 [1] O (BB O (BJ Bf O (BQ _)) (Ar Ay 2 [] O (⟨O,O,AM,AI,⟨O,O,Ap⟩⟩)))
  rintro _ rfl;refine Av O (fun c=>?_) (fun c=>?_)
  ·simp only[sd,se] at c;refine Au Ay 3 [1,0,0] O (BH (EN (t:=3) (sz:=5) O) (A1 (⟨O,_,_,⟨_,_,O,(BA (i:=1) BZ O O O),⟨_,_,O,O,O⟩⟩,(B8 (is:=[0]) O),?_⟩)));rw[R3 c]
   all_goals exact⟨_,_,rfl,rfl⟩
  simp only[sd,se] at c;refine A2 (Aw (Ax Ay 2 [1] O ?_));obtain⟨x,hx⟩:=A6 (l:=ts) (i:=0) An;refine Aq O (A4 Bf O O An (Bd hx) (BD _)) (Aq O (BM BZ O (BD _)) (Nx O O O (.inl ⟨O,O,O⟩) (ih x (by have:=Cb hx;omega) Ab) (.inl O) fun o cp=>Ax Ay 3 [] O (BF O (A7 Bx O) fun b4=>Ar Ay 2 [0,1] O (As (Bt (fun k=>Nat.beq k 7) Dn (BR Ay 4 [0,3] O ?_))))));obtain⟨x1,hx1⟩:=A6 (l:=ts) (i:=1) An;refine BG O (fun _=>A4 Bf O O An (Bd hx1) (BD _)) Ap (BG O (fun _=>BM BZ O (BD _)) Ap ?_);obtain⟨x1k,x1i,x1n,x1l,x1s⟩:=x1;refine BG O (fun _=>Bl Bf Bx O O O O O) Ap (K5 [] O O (CR (i:=1) (rows':=BE [(.mk x1k x1i x1n x1l x1s:Tm)]) Bf Bf Bx O O O O O O (Bv _) (by have:=Po x;have:=Cb hx;simp[BQ];omega) (Kc ((A8 x).2) [(.mk x1k x1i x1n x1l x1s:Tm)])) Aj fun o1 cp1=>⟨AB,Ap,?_⟩);refine Bk Ay 2 [2,1] O (A1 (⟨O,_,_,⟨_,_,O,(BA (i:=2) BZ O O Ag),⟨_,_,O,O,O⟩⟩,(B8 (is:=[1]) O),?_⟩));rw[US c hx hx1]
  all_goals exact⟨_,_,rfl,rfl⟩
theorem Ri:∀(n:Nat) (t:Tm),size t≤n→n<DY→ET Tryz.prog 21 [TV t] (.tup [TV (A8 t).1,qS (A8 t).2]) :=
 fun n t h1 h2=>ZI (pre:=[_]) (post:=[]) (cr n t h1 h2) (fun x _=>Wv x)
theorem O4:∀(n:Nat) (t:Tm),(size t≤n)→(Nd t)→ET Tryz.prog 77 [.agg ((BP t).map .p)] (.p (I (Ev t))):=by
 intro n
 induction n with
 | zero=>intro t h;cases t;simp[size] at h
 | succ n ih =>
  intro t h1 h2;obtain⟨tk,ti,tn,tl,ts⟩:=t;simp only[size] at h1;simp only[Nd,DY] at h2;refine A5 Tryz.func77 O rQ (n:=21) O O (Aw (BF O (BN O) fun b1=>Ar Ay 1 [] O (Au Ay 1 [] O (As (Au Ay 1 [] O (A9 (Bc (α:=Nat×Int) (fun(i,m)=>⟨21,mk [(1,.ptr b1 0),(3,.p (I m)),(4,.p (I (i:Int)))],[.box b1 [.p (I tk),.p (I ti),.p (.str tn),.p (.lst (List.map By tl)),.p (.lst (BE ts))]],[]⟩) (fun(i,m)=>ts.length - i) (fun(i,m)=>i≤ts.length∧(LZ m (ts.drop i)=LZ 1 ts)) ⟨0,1⟩ Ao ?_ ?_)))))))
  ·exact BS ⟨we O,we O,we O,Ap⟩ (leH (is:=[0]) O (wl (oe O) (C2)))
  rintro⟨i,m⟩ hC
  try simp only at hC
  obtain⟨hi,hC⟩:=hC;refine As (Aw (Ax Ay 3 [0] O (Aq O (BJ Bf O (BQ _)) (Ar Ay 1 [] O (Av O (fun c=>?_) (fun c=>?_))))))
  ·simp only[sd,se] at c;refine A2 (As (A9 (A3 (Ax Ay 4 [0] O ?_))));obtain⟨x,hx⟩:=A6 (l:=ts) (i:=i) An;refine Aq O (A4 Bf O O An (Bd hx) (BD _)) (Aq O (BM BZ O (BD _)) (Aq O (BC O O (ih x (by have:=Cb hx;omega) (DX h2.2.2.2.2.1 hx)) O) (Aq O (EA O O) (Ar Ay 1 [] O (A3 (Ar Ay 3 [] O ?_))))));refine⟨⟨i+1,wr (m+Ev x)⟩,AW,⟨by omega,by rw[←hC,Cg hx];rfl⟩,BS ⟨we rfl,we rfl,we rfl,trivial⟩ (leH (is:=[0]) rfl (wl (oe rfl) (C2)))⟩
  simp only[sd,se] at c;refine Be (Au Ay 2 [] O (A1 (⟨O,_,_,⟨_,_,O,O,O⟩,(List.nil_sublist _),?_⟩)))
  all_goals exact⟨pI (by rw[show Ev (.mk tk ti tn tl ts)=LZ 1 ts from rfl,←hC,show i=ts.length by omega,List.drop_length];rfl),rfl⟩
theorem TH:∀(n:Nat) (t:Tm),(size t≤n)→(Nd t)→ET Tryz.prog 93 [.agg ((BP t).map .p)] (.p (I (FK t))):=by
 intro n
 induction n with
 | zero=>intro t h;cases t;simp[size] at h
 | succ n ih =>
  intro t h1 h2;obtain⟨tk,ti,tn,tl,ts⟩:=t;simp only[size] at h1;simp only[Nd,DY] at h2;refine A5 Tryz.func93 O rE (n:=22) O O (Aw (BF O (BN O) fun b1=>Ar Ay 1 [] O (Au Ay 1 [] O (As (Au Ay 1 [] O (A9 (Bc (α:=Nat×Int) (fun(i,m)=>⟨22,mk [(1,.ptr b1 0),(3,.p (I m)),(4,.p (I (i:Int)))],[.box b1 [.p (I tk),.p (I ti),.p (.str tn),.p (.lst (List.map By tl)),.p (.lst (BE ts))]],[]⟩) (fun(i,m)=>ts.length - i) (fun(i,m)=>i≤ts.length∧(J3 m (ts.drop i)=J3 0 ts)) ⟨0,0⟩ Ao ?_ ?_)))))))
  ·exact BS ⟨we O,we O,we O,Ap⟩ (leH (is:=[0]) O (wl (oe O) (C2)))
  rintro⟨i,m⟩ hC
  try simp only at hC
  obtain⟨hi,hC⟩:=hC;refine As (Aw (Ax Ay 3 [0] O (Aq O (BJ Bf O (BQ _)) (Ar Ay 1 [] O (Av O (fun c=>?_) (fun c=>?_))))))
  ·simp only[sd,se] at c;refine A2 (As (A9 (A3 (Ax Ay 4 [0] O ?_))));obtain⟨x,hx⟩:=A6 (l:=ts) (i:=i) An;refine Aq O (A4 Bf O O An (Bd hx) (BD _)) (Aq O (BM BZ O (BD _)) (Aq O (BC O O (ih x (by have:=Cb hx;omega) (DX h2.2.2.2.2.1 hx)) O) (Aq O (FI O O) (Ar Ay 1 [] O (A3 (Ar Ay 3 [] O ?_))))));refine⟨⟨i+1,max m (FK x)⟩,AW,⟨by omega,by rw[←hC,Cg hx];rfl⟩,BS ⟨we rfl,we rfl,we rfl,trivial⟩ (leH (is:=[0]) rfl (wl (oe rfl) (C2)))⟩
  simp only[sd,se] at c;refine Be (Aw (Br O (Aq O (EA O O) (Ar Ay 1 [] O (A1 (⟨O,_,_,⟨_,_,O,O,O⟩,(List.nil_sublist _),?_⟩))))))
  all_goals exact⟨pI (by rw[show FK (.mk tk ti tn tl ts)=wr (J3 0 ts+1) from rfl,←hC,show i=ts.length by omega,List.drop_length];rfl),rfl⟩
theorem Zx:∀(b:Nat) (er nd e:Int),Bn Tryz.prog 141 [.ptr b 0,.p (I e)] [.box b [.p (I er),.p (I nd)]] (Gk (.tup []) [.box b [.p (I (GB er e)),.p (I nd)]]):=by
 intro b er nd e;refine A5 Tryz.func141 O rI (n:=13) O O (Au Ay 5 [0] O (Av O (fun c=>?_) (fun c=>?_)))
 ·simp only[sd,se] at c;refine A3 (Ar Ay 5 [0,0] O ⟨O,_,_,O,(B8 (is:=[0]) O),?_⟩);refine⟨O,?_⟩;show ([.box b [.p (I e),.p (I nd)]]:List BK)=_;simp[GB,c]
 simp only[sd,se] at c;refine A2 ⟨O,_,_,O,(B8 (is:=[0]) O),?_⟩;refine⟨O,?_⟩;show ([.box b [.p (I er),.p (I nd)]]:List BK)=_;simp[GB,c]
theorem Rh:∀(b:Nat) (er nd i:Int),Bn Tryz.prog 126 [.ptr b 0,.p (I i)] [.box b [.p (I er),.p (I nd)]] (Gk (.agg ((BP (OH i)).map .p)) [.box b [.p (I (L6 er i)),.p (I nd)]]):=by
 intro b er nd i;refine A5 Tryz.func126 O sW (n:=11) O O (Aw (BF O (A7 Bx O) fun b4=>Bg O (As (Au Ay 2 [] O (Av O (fun c=>?_) (fun c=>?_))))))
 ·simp only[sd,se] at c;refine A3 (Br O (Aq O (CE [1] O (.inl ⟨O,O,O⟩) (Zx b er nd 24) ⟨_,_,O,O,O⟩ Am O (.inl O)) (Bg O (Au Ay 3 [0,0] O (BH (BW (i:=0) O) (A1 (⟨O,_,_,⟨_,_,O,(BA (i:=0) BZ O O O),O⟩,(B8 (is:=[1]) O),?_⟩)))))));refine⟨O,?_⟩;show ([.box b [.p (I (GB er 24)),.p (I nd)]]:List BK)=_;simp[L6,show i > 65535 by omega]
 simp only[sd,se] at c;refine A2 (Au Ay 3 [0,0] O (BH (BW (i:=0) O) (A1 (⟨O,_,_,⟨_,_,O,(BA (i:=0) BZ O O O),O⟩,(B8 (is:=[1]) O),?_⟩))));refine⟨O,?_⟩;show ([.box b [.p (I er),.p (I nd)]]:List BK)=_;simp[L6,show ¬i > 65535 by omega]
theorem _root_.Go.AD {α:Prop}(h:α:=by simp only[BQ,List.length_map,List.length_cons,List.length_nil,List.nil_append,List.length_append];omega):α:=h
theorem cG:∀(n:Nat) (t:Tm) (b:Nat) (by' fr d er nd:Int),(size t≤n)→(Nd t)→(0≤d)→(d+n<2 ^ 62)→Bn Tryz.prog 125 [.ptr b 0,.agg ((BP t).map .p),.p (I by'),.p (I fr),.p (I d)] [.box b [.p (I er),.p (I nd)]] (Gk (.agg ((BP ((CT by' fr d er t).1)).map .p)) [.box b [.p (I ((CT by' fr d er t).2)),.p (I nd)]]):=by
 intro n
 induction n with
 | zero=>intro t b by' fr d er nd h;cases t;simp[size] at h
 | succ n ih =>
  intro t b by' fr d er nd h1 h2 h3 h4
  obtain⟨tk,ti,tn,tl,ts⟩:=t;simp only[size] at h1;simp only[Nd,DY] at h2;refine A5 Tryz.func125 O sw (n:=68) O O (Aw (BF O (BN O) fun b6=>BF O (A7 Bx O) fun b10=>Bg O (As (Au Ay 3 [1] O (Av O (fun c=>?_) (fun c=>?_))))))
  ·simp only[sd,se] at c;refine As (Aw (Ax Ay 4 [1] O (Aq O (EA O O) (Ar Ay 1 [] O (Av O (fun c1=>?_) (fun c1=>?_))))))
   ·simp only[sd,se] at c1;refine Au Ay 2 [1,0,0] O (A1 (⟨O,_,_,⟨_,_,O,(BA (i:=0) BZ O O O),O⟩,(B8 (is:=[2]) O),?_⟩));refine⟨by show (.agg [.p (I tk),.p (I ti),.p (.str tn),.p (.lst (List.map By tl)),.p (.lst (BE ts))]:AV)=_;rw[CT,if_pos c,if_pos c1];rfl,?_⟩;show ([.box b [.p (I er),.p (I nd)]]:List BK)=_;rw[CT,if_pos c,if_pos c1]
   simp only[sd,se] at c1;refine A2 (As (Aw (Ax Ay 3 [1] O (Aq O (EA O O) (Ax Ay 2 [] O (Aq O (EA O O) (Ar Ay 1 [] O (Av O (fun c2=>?_) (fun c2=>?_)))))))))
   ·simp only[sd,se] at c2;refine Aw (Br O (Aq O (CE [2] O (.inl ⟨O,O,O⟩) (Zx b er nd 24) ⟨_,_,O,O,O⟩ Am O (.inl O)) (Bg O (Au Ay 2 [1,0,0] O (A1 (⟨O,_,_,⟨_,_,O,(BA (i:=0) BZ O O O),O⟩,(B8 (is:=[2]) O),?_⟩))))));refine⟨by show (.agg [.p (I tk),.p (I ti),.p (.str tn),.p (.lst (List.map By tl)),.p (.lst (BE ts))]:AV)=_;rw[CT,if_pos c,if_neg An,if_pos c2];rfl,?_⟩;show ([.box b [.p (I (GB er 24)),.p (I nd)]]:List BK)=_;rw[CT,if_pos c,if_neg An,if_pos c2]
   simp only[sd,se] at c2;refine A2 (Aw (Ax Ay 4 [1] O (Aq O (EA O O) (Aq O (CE [2] O (.inl ⟨O,O,O⟩) (Rh b er nd (wr ((ti:Int)+(by':Int)))) ⟨_,_,rfl,rfl,rfl⟩ Am rfl (.inl rfl)) (Ar Ay 1 [0,1] O (A1 (⟨O,_,_,⟨_,_,O,(BA (i:=0) BZ O O Ag),O⟩,(B8 (is:=[2]) O),?_⟩)))))));refine⟨by show (.agg ((BP (OH (wr ((ti:Int)+(by':Int))))).map .p):AV)=_;rw[CT,if_pos c,if_neg An,if_neg An],?_⟩;show ([.box b [.p (I (L6 er (wr ((ti:Int)+(by':Int))))),.p (I nd)]]:List BK)=_;rw[CT,if_pos c,if_neg An,if_neg An]
  simp only[sd,se] at c;refine A2 (Au Ay 1 [] O (As (Au Ay 1 [] O (A9 (BH (EN (t:=11) (sz:=5) O) (Bc (α:=Nat×List Tm×Int×Option Nat×Nat) (fun(i,ys,e,o,cp)=>⟨68,mk [(0,.ptr b 0),(2,.p (I by')),(3,.p (I fr)),(4,.p (I d)),(6,.ptr b6 0),(10,.ptr b10 0),(11,.vs o (BE ys).length cp),(12,.p (I (i:Int)))],[.vec o 5 (BE ys) cp,.box b10 [.p (I 0),.p (I 0),.p (.str ⟨#[]⟩),.p (.nils),.p (.nils)],.box b6 [.p (I tk),.p (I ti),.p (.str tn),.p (.lst (List.map By tl)),.p (.lst (BE ts))],.box b [.p (I e),.p (I nd)]],[]⟩) (fun(i,ys,e,o,cp)=>ts.length - i) (fun(i,ys,e,o,cp)=>i≤ts.length∧(ys.length=i∧(ys++(Cy by' fr tk d i e (ts.drop i)).1,(Cy by' fr tk d i e (ts.drop i)).2)=Cy by' fr tk d 0 er ts)) ⟨0,[],er,none,0⟩ Ao ?_ ?_))))))
  ·exact BS ⟨we O,we O,we O,we O,we O,we O,we O,we O,Ap⟩ (leH (is:=[0,1,2,3]) O (wl (oe O) (wl (oe O) (wl (oe O) (wl (oe O) (C2))))))
  rintro⟨i,ys,e,o,cp⟩ hC
  try simp only at hC
  obtain⟨hi,hl,hC⟩:=hC;refine As (Aw (Ax Ay 3 [2] O (Aq O (BJ Bf O (BQ _)) (Ar Ay 1 [] O (Av O (fun c1=>?_) (fun c1=>?_))))))
  ·simp only[sd,se] at c1;refine A2 (As (A9 (Bt (fun k=>Nat.beq k 17) Dn (BR Ay 5 [2] O ?_))));obtain⟨x,hx⟩:=A6 (l:=ts) (i:=i) An;refine BG O (fun _=>A4 Bf O O An (Bd hx) (BD _)) Ap (BR Ay 7 [2] O (BG O (fun _=>BC O O (WX tk (i:Int)) O) Ap (BG O (fun _=>Ld O O (by have:=Cf tk i;omega) (by have:=Cf tk i;omega)) Ap (GX O O (CE [3] O (.inl ⟨O,O,O⟩) (ih x b by' fr ((d:Int)+(below tk (i:Int):Int)) e nd (by have:=Cb hx;omega) (DX h2.2.2.2.2.1 hx) (by have:=Cf tk i;omega) (by have:=Cf tk i;omega)) ⟨_,_,rfl,rfl,rfl⟩ Am rfl (.inl rfl)) AB trivial ?_))));generalize hz:(CT by' fr ((d:Int)+(below tk (i:Int):Int)) e x).1=z;obtain⟨zk,zi,zn,zl,zs⟩:=z;refine BG O (fun _=>Bl Bf Bx O O O O O) Ap (K5 [] O O (CR (i:=0) (rows':=BE [(.mk zk zi zn zl zs:Tm)]) Bf Bf Bx O O O O O O (Bv _) AD (Kc ys [(.mk zk zi zn zl zs:Tm)])) Aj fun o1 cp1=>⟨AB,Ap,?_⟩);refine Bk Ay 1 [] O (A3 (Ar Ay 3 [] O ?_));refine⟨⟨i+1,ys++[(CT by' fr (d+below tk i) e x).1],(CT by' fr (d+below tk i) e x).2,o1,cp1⟩,AW,⟨by omega,⟨by simp[hl],by rw[←hC,Cg hx];simp[Cy]⟩⟩,BS ⟨we rfl,we rfl,we rfl,we rfl,we rfl,we rfl,we (Mb (ys++[(.mk zk zi zn zl zs:Tm)]) (by rw[hz])),we rfl,trivial⟩ (leH (is:=[0,1,2,3]) rfl (wl (KK (ys++[(.mk zk zi zn zl zs:Tm)]) (by rw[hz])) (wl (oe rfl) (wl (oe rfl) (wl (oe rfl) (C2))))))⟩
  simp only[sd,se] at c1;refine Be (Aw (Ax Ay 2 [] O (B4 (Ck (i:=0) [11,65] O (D5 ⟨O,O,Ap⟩)) (Ar Ay 1 [1,0] O (Au Ay 2 [1,0,0] O (A1 (⟨O,_,_,⟨_,_,O,(BA (i:=0) BZ O O O),O⟩,(B8 (is:=[2]) O),?_⟩)))))));refine⟨by show (.agg [.p (I tk),.p (I ti),.p (.str tn),.p (.lst (List.map By tl)),.p (.lst (BE ys))]:AV)=_;rw[CT,if_neg c];rw[show i=ts.length by omega,List.drop_length] at hC;rw[←hC];simp[Cy];rfl,?_⟩;show ([.box b [.p (I e),.p (I nd)]]:List BK)=_;rw[CT,if_neg c];rw[show i=ts.length by omega,List.drop_length] at hC;rw[←hC];simp[Cy]
theorem mr:∀(n:Nat) (t:Tm) (vs:List Tm) (b:Nat) (d er nd:Int),(size t≤n)→(Nd t)→(NI vs)→(BX vs+d+n<2 ^ 62)→(0≤d)→Bn Tryz.prog 94 [.ptr b 0,.agg ((BP t).map .p),.p (.lst (BE vs)),.p (I d)] [.box b [.p (I er),.p (I nd)]] (Gk (.agg ((BP ((B0 vs d er nd t).1)).map .p)) [.box b [.p (I ((B0 vs d er nd t).2.1)),.p (I ((B0 vs d er nd t).2.2))]]):=by
 intro n
 induction n with
 | zero=>intro t vs b d er nd h;cases t;simp[size] at h
 | succ n ih =>
  intro t vs b d er nd h1 h2 h3 h4 h5;obtain⟨tk,ti,tn,tl,ts⟩:=t;simp only[size] at h1;simp only[Nd,JE,DY] at h2;have hvl:=Dx vs;refine A5 Tryz.func94 O vb (n:=105) O O (Aw (BF O (BN O) fun b5=>BF O (A7 Bx O) fun b8=>Bg O (As (Au Ay 5 [2] O (Av O (fun c=>?_) (fun c=>?_))))))
  ·simp only[sd,se] at c;refine Au Ay 2 [1,0,0] O (A1 (⟨O,_,_,⟨_,_,O,(BA (i:=0) BZ O O O),O⟩,(B8 (is:=[2]) O),?_⟩));refine⟨by show (.agg [.p (I tk),.p (I ti),.p (.str tn),.p (.lst (List.map By tl)),.p (.lst (BE ts))]:AV)=_;rw[B0,if_pos An];rfl,?_⟩;show ([.box b [.p (I er),.p (I nd)]]:List BK)=_;rw[B0,if_pos An]
  simp only[sd,se] at c;refine A2 (As (As (BT [0,2,3,5,8] 35 (fun y=>y= .p (.bool ((((tk:Int)==(0:Int))&&(decide ((ti:Int)≥(d:Int))))&&(decide (((ti:Int) - (d:Int):Int)<((vs.length:Nat):Int)))))) ?_ ?_)))
  ·refine A3 (Ax Ay 4 [1] O (BO 21 O (fun g=>?_) (fun g=>?_)))
   ·simp only[sd,se] at g;refine Ax Ay 6 [1] O (BO 27 O (fun g1=>?_) (fun g1=>?_))
    ·simp only[sd,se] at g1;exact Ax Ay 5 [1] O (BB O (BJ Bf O (BQ _)) (Ar Ay 2 [] O (⟨O,O,AM,AI,⟨O,O,O,O,O,Ap⟩⟩)))
    simp only[sd,se] at g1;exact Ar Ay 8 [] O (⟨O,O,AM,AI,⟨O,O,O,O,O,Ap⟩⟩)
   simp only[sd,se] at g;exact Ar Ay 14 [] O (⟨O,O,AM,AI,⟨O,O,O,O,O,Ap⟩⟩)
  rintro _ rfl;refine Av O (fun c1=>?_) (fun c1=>?_)
  ·simp only[sd,se] at c1;refine Aw (Ax Ay 5 [1] O ?_);obtain⟨x,hx⟩:=A6 (l:=vs) (i:=((ti:Int) - (d:Int):Int).toNat) An;refine Aq O (A4 Bf O O An (Bd hx) (BD _)) (Aq O (BM BZ O (BD _)) (BF O (A7 Bx O) fun b9=>Ar Ay 1 [0,1] O (As (Bt (fun k=>false) Dn (BR Ay 5 [3,0] O (BG O (fun _=>BC O O (O4 _ x (Nat.le_refl _) (DX h3 hx)) O) Ap (BG O (fun _=>EA O O) Ap (Bk Ay 3 [3,0] O (Aw (Ax Ay 3 [0] O (Aq O (CE [3] O (.inl ⟨O,O,O⟩) (cG _ x b d 0 0 er (wr ((nd:Int)+(Ev x:Int))) (Nat.le_refl _) (DX h3 hx) An (by have:=Cb hx;omega)) ⟨_,_,O,O,O⟩ Am O (.inl O)) (Ar Ay 1 [1,1] O (A1 (⟨O,_,_,⟨_,_,O,(BA (i:=1) BZ O O Ag),O⟩,(B8 (is:=[3]) O),?_⟩))))))))))))));refine⟨by show (.agg ((BP ((CT d 0 0 er x).1)).map .p):AV)=_;rw[B0,if_neg An,if_pos An,IP hx],?_⟩;show ([.box b [.p (I ((CT d 0 0 er x).2)),.p (I (wr ((nd:Int)+(Ev x:Int))))]]:List BK)=_;rw[B0,if_neg An,if_pos An,IP hx]
  simp only[sd,se] at c1;refine A2 (Aw (Ax Ay 4 [2] O (Aq O (EA O O) (Ar Ay 3 [2,0] O (As (Au Ay 3 [1] O (Av O (fun c2=>?_) (fun c2=>?_))))))))
  ·simp only[sd,se] at c2;refine As (Au Ay 4 [1] O (Av O (fun c3=>?_) (fun c3=>?_)))
   ·simp only[sd,se] at c3;refine Aw (Ax Ay 4 [1] O (Aq O (BJ Bf O (BQ _)) (Aq O (Jc O O) (Aq O (CE [2] O (.inl ⟨O,O,O⟩) (Rh b er (wr ((nd:Int)+(1:Int))) (wr ((ti:Int) - ((vs.length:Nat):Int)))) ⟨_,_,O,O,O⟩ Am O (.inl O)) (Ar Ay 1 [0,1] O (A1 (⟨O,_,_,⟨_,_,O,(BA (i:=0) BZ O O Ag),O⟩,(B8 (is:=[2]) O),?_⟩)))))));refine⟨by show (.agg ((BP (OH (wr ((ti:Int) - ((vs.length:Nat):Int))))).map .p):AV)=_;rw[B0,if_neg An,if_neg An,if_pos An,if_pos An],?_⟩;show ([.box b [.p (I (L6 er (wr ((ti:Int) - ((vs.length:Nat):Int))))),.p (I (wr ((nd:Int)+(1:Int))))]]:List BK)=_;rw[B0,if_neg An,if_neg An,if_pos An,if_pos An]
   simp only[sd,se] at c3;refine A2 (Au Ay 2 [1,0,0] O (A1 (⟨O,_,_,⟨_,_,O,(BA (i:=0) BZ O O O),O⟩,(B8 (is:=[2]) O),?_⟩)));refine⟨by show (.agg [.p (I tk),.p (I ti),.p (.str tn),.p (.lst (List.map By tl)),.p (.lst (BE ts))]:AV)=_;rw[B0,if_neg An,if_neg An,if_pos An,if_neg An];rfl,?_⟩;show ([.box b [.p (I er),.p (I (wr ((nd:Int)+(1:Int))))]]:List BK)=_;rw[B0,if_neg An,if_neg An,if_pos An,if_neg An]
  simp only[sd,se] at c2;refine A2 (Au Ay 1 [] O (As (Au Ay 1 [] O (A9 (BH (EN (t:=10) (sz:=5) O) (Bc (α:=Nat×List Tm×Int×Int×Option Nat×Nat) (fun(i,ys,e,m,o,cp)=>⟨105,mk [(0,.ptr b 0),(2,.p (.lst (BE vs))),(3,.p (I d)),(5,.ptr b5 0),(8,.ptr b8 0),(10,.vs o (BE ys).length cp),(11,.p (I (i:Int)))],[.vec o 5 (BE ys) cp,.box b8 [.p (I 0),.p (I 0),.p (.str ⟨#[]⟩),.p (.nils),.p (.nils)],.box b5 [.p (I tk),.p (I ti),.p (.str tn),.p (.lst (List.map By tl)),.p (.lst (BE ts))],.box b [.p (I e),.p (I m)]],[]⟩) (fun(i,ys,e,m,o,cp)=>ts.length - i) (fun(i,ys,e,m,o,cp)=>i≤ts.length∧(ys.length=i∧(ys++(CW vs tk d i e m (ts.drop i)).1,(CW vs tk d i e m (ts.drop i)).2)=CW vs tk d 0 er (wr (nd+1)) ts)) ⟨0,[],er,wr (nd+1),none,0⟩ Ao ?_ ?_))))))
  ·exact BS ⟨we O,we O,we O,we O,we O,we O,we O,Ap⟩ (leH (is:=[0,1,2,3]) O (wl (oe O) (wl (oe O) (wl (oe O) (wl (oe O) (C2))))))
  rintro⟨i,ys,e,m,o,cp⟩ hC
  try simp only at hC
  obtain⟨hi,hl,hC⟩:=hC;refine As (Aw (Ax Ay 3 [2] O (Aq O (BJ Bf O (BQ _)) (Ar Ay 1 [] O (Av O (fun c3=>?_) (fun c3=>?_))))))
  ·simp only[sd,se] at c3;refine A2 (As (A9 (Bt (fun k=>Nat.beq k 16) Dn (BR Ay 5 [2] O ?_))));obtain⟨x,hx⟩:=A6 (l:=ts) (i:=i) An;refine BG O (fun _=>A4 Bf O O An (Bd hx) (BD _)) Ap (BR Ay 6 [2] O (BG O (fun _=>BC O O (WX tk (i:Int)) O) Ap (BG O (fun _=>Ld O O (by have:=Cf tk i;omega) (by have:=Cf tk i;omega)) Ap (GX O O (CE [3] O (.inl ⟨O,O,O⟩) (ih x vs b ((d:Int)+(below tk (i:Int):Int)) e m (by have:=Cb hx;omega) (DX h2.2.2.2.2.1 hx) h3 (by have:=Cf tk i;omega) (by have:=Cf tk i;omega)) ⟨_,_,O,O,O⟩ Am O (.inl O)) AB Ap ?_))));generalize hz:(B0 vs ((d:Int)+(below tk (i:Int):Int)) e m x).1=z;obtain⟨zk,zi,zn,zl,zs⟩:=z;refine BG O (fun _=>Bl Bf Bx O O O O O) Ap (K5 [] O O (CR (i:=0) (rows':=BE [(.mk zk zi zn zl zs:Tm)]) Bf Bf Bx O O O O O O (Bv _) AD (Kc ys [(.mk zk zi zn zl zs:Tm)])) Aj fun o1 cp1=>⟨AB,Ap,?_⟩);refine Bk Ay 1 [] O (A3 (Ar Ay 3 [] O ?_));refine⟨⟨i+1,ys++[(B0 vs (d+below tk i) e m x).1],(B0 vs (d+below tk i) e m x).2.1,(B0 vs (d+below tk i) e m x).2.2,o1,cp1⟩,AW,⟨by omega,⟨by simp[hl],by rw[←hC,Cg hx];simp[CW]⟩⟩,BS ⟨we rfl,we rfl,we rfl,we rfl,we rfl,we (Mb (ys++[(.mk zk zi zn zl zs:Tm)]) (by rw[hz])),we rfl,trivial⟩ (leH (is:=[0,1,2,3]) rfl (wl (KK (ys++[(.mk zk zi zn zl zs:Tm)]) (by rw[hz])) (wl (oe rfl) (wl (oe rfl) (wl (oe rfl) (C2))))))⟩
  simp only[sd,se] at c3;refine Be (Aw (Ax Ay 2 [] O (B4 (Ck (i:=0) [10,102] O (D5 ⟨O,O,Ap⟩)) (Ar Ay 1 [1,0] O (Au Ay 2 [1,0,0] O (A1 (⟨O,_,_,⟨_,_,O,(BA (i:=0) BZ O O O),O⟩,(B8 (is:=[2]) O),?_⟩)))))));refine⟨by show (.agg [.p (I tk),.p (I ti),.p (.str tn),.p (.lst (List.map By tl)),.p (.lst (BE ys))]:AV)=_;rw[B0,if_neg An,if_neg An,if_neg An];rw[show i=ts.length by omega,List.drop_length] at hC;rw[←hC];simp[CW];rfl,?_⟩;show ([.box b [.p (I e),.p (I m)]]:List BK)=_;rw[B0,if_neg An,if_neg An,if_neg An];rw[show i=ts.length by omega,List.drop_length] at hC;rw[←hC];simp[CW]
theorem gO:∀(t:Tm) (vs:List Tm) (d:Int),(size t<2 ^ 60)→(Nd t)→(NI vs)→(BX vs<2 ^ 60)→(0≤d)→ET Tryz.prog 59 [.agg ((BP t).map .p),.p (.lst (BE vs)),.p (I d)] (.tup [.agg ((BP ((CD t vs d).1)).map .p),.p (I ((CD t vs d).2))]):=by
 intro t vs d h1 h2 h3 h4 h5;generalize hr:B0 vs (min d 65536) 0 0 t=r;refine A5 Tryz.func59 O vC (n:=42) O O (Aw (BF O (BN O) fun b3=>BF O (A7 Bx O) fun b6=>Ar Ay 1 [] O (As (Au Ay 2 [] O (Av O (fun c=>?_) (fun c=>?_))))))
 ·simp only[sd,se] at c;exact Au Ay 3 [0,0] O (BH (BW (i:=0) O) (A1 (absurd c An)))
 simp only[sd,se] at c;refine A2 (Aw (Aq O (CO fQ jX O) (BF O (BN O) fun b14=>Ar Ay 1 [] O (Aw (Ax Ay 4 [2] O (Aq O (aF O O) (Aq O (CE [0] O (.inl ⟨O,O,O⟩) (mr _ t vs b14 (min (d:Int) (65536:Int)) 0 0 (Nat.le_refl _) h2 h3 An An) ⟨_,_,O,O,O⟩ Am O (.inl O)) (BF O (A7 Bx O) fun b9=>Ar Ay 1 [0,1] O (As (Au Ay 5 [1] O (Av O (fun c1=>?_) (fun c1=>?_))))))))))))
 ·simp only[sd,se] at c1;refine Au Ay 3 [2,0] O (BH (BW (i:=2) O) (A1 (⟨O,_,_,⟨_,_,O,(BA (i:=2) BZ O O O),⟨_,_,O,O,O⟩⟩,(List.nil_sublist _),?_⟩)));unfold CD;rw[if_pos (by simpa using c1)]
  all_goals exact⟨rfl,rfl⟩
 simp only[sd,se] at c1;refine A2 (As (Au Ay 5 [1] O (Av O (fun c2=>?_) (fun c2=>?_))))
 ·simp only[sd,se] at c2;refine As (Bt (fun k=>false) Dn (Bk Ay 7 [1,2,0] O (BH (BW (i:=2) O) (A1 (⟨O,_,_,⟨_,_,O,(BA (i:=2) BZ O O O),⟨_,_,O,O,O⟩⟩,(List.nil_sublist _),?_⟩)))));unfold CD;rw[if_neg An,if_pos c2]
  all_goals exact⟨rfl,rfl⟩
 simp only[sd,se] at c2;refine A2 (As (Aw (Aq O (BU (i:=0) BZ O O Ag) (Aq O (BC O O (TH _ ((B0 vs (min (d:Int) (65536:Int)) 0 0 t).1) (Nat.le_refl _) (QA t vs _ _ _ h2 h3)) O) (Ar Ay 1 [] O (Av O (fun c3=>?_) (fun c3=>?_)))))))
 ·simp only[sd,se] at c3;refine Au Ay 3 [2,0] O (BH (BW (i:=2) O) (A1 (⟨O,_,_,⟨_,_,O,(BA (i:=2) BZ O O O),⟨_,_,O,O,O⟩⟩,(List.nil_sublist _),?_⟩)));unfold CD;rw[if_neg An,if_neg (by simpa using c2),if_pos c3]
  all_goals exact⟨rfl,rfl⟩
 simp only[sd,se] at c3;refine A2 (Au Ay 3 [0,2,1] O (A1 (⟨O,_,_,⟨_,_,O,(BA (i:=2) BZ O O Ag),⟨_,_,O,O,O⟩⟩,(List.nil_sublist _),?_⟩)));unfold CD;rw[if_neg An,if_neg (by simpa using c2),if_neg An]
 all_goals exact⟨rfl,rfl⟩
theorem Rx:∀(t:Tm) (vs:List Tm),(size t<2 ^ 60)→(Nd t)→(NI vs)→(BX vs<2 ^ 60)→ET Tryz.prog 23 [.agg ((BP t).map .p),.p (.lst (BE vs))] (.tup [.agg ((BP ((CD t vs 0).1)).map .p),.p (I ((CD t vs 0).2))]):=by
 intro t vs h1 h2 h3 h4;refine A5 Tryz.func23 O vt (n:=11) O O (Aw (BF O (BN O) fun b2=>BF O (A7 Bx O) fun b4=>Ar Ay 1 [] O (Aw (Ax Ay 2 [1] O (Aq O (BC O O (gO t vs 0 h1 h2 h3 h4 An) O) (Ar Ay 4 [0,1] O (A1 (⟨O,_,_,⟨_,_,O,(BA (i:=0) BZ O O Ag),⟨_,_,O,O,O⟩⟩,(List.nil_sublist _),?_⟩))))))))
 all_goals exact⟨rfl,rfl⟩
theorem mC:∀(b:Nat) (c:Et) (t:Tm) (e:Int),(Nd t)→Bn Tryz.prog 78 [.ptr b 0,.agg ((BP t).map .p),.p (I e)] [.box b ((JA c).map .p)] (Gk (.tup []) [.box b ((JA (c.form t e)).map .p)]):=by
 intro b c t e h1;refine A5 Tryz.func78 O vF (n:=65) O O (Aw (BF O (BN O) fun b4=>Bg O (As (Bt (fun k=>false) Dn (BR Ay 5 [1,0] O (BG O (fun _=>BC O O (O4 _ t (Nat.le_refl _) h1) O) Ap (BG O (fun _=>EA O O) Ap (Bk Ay 3 [1,0] O (As (BT [0] 61 (fun y=>y= .p (.bool (((((((e:Int) !=(0:Int))||(decide ((c.steps:Int) > (c.limit:Int))))||(decide ((c.nodes:Int) > (wr ((2:Int)*(c.limit:Int)):Int))))||(decide ((wr ((c.forms:Int)+(Ev t:Int)):Int) > (wr ((40:Int)*(c.limit:Int)):Int))))||(decide ((Ev t:Int) > (2000:Int))))||(decide ((FK t:Int) > (95:Int)))))) ?_ ?_))))))))))
 ·refine Bt (fun k=>false) Dn (BR Ay 3 [] O (D6 17 O (fun g=>?_) (fun g=>?_)))
  ·simp only[sd,se] at g;exact Bk Ay 44 [] O (⟨O,O,AM,AI,⟨O,Ap⟩⟩)
  simp only[sd,se] at g;refine BR Ay 11 [1,1] O (D6 28 O (fun g1=>?_) (fun g1=>?_))
  ·simp only[sd,se] at g1;exact Bk Ay 33 [] O (⟨O,O,AM,AI,⟨O,Ap⟩⟩)
  simp only[sd,se] at g1;refine BR Ay 8 [1,1] O (Ce O (fun _=>XL O O) Ap (BR Ay 3 [] O (D6 40 O (fun g2=>?_) (fun g2=>?_))))
  ·simp only[sd,se] at g2;exact Bk Ay 21 [] O (⟨O,O,AM,AI,⟨O,Ap⟩⟩)
  simp only[sd,se] at g2;refine BR Ay 8 [1,1] O (Ce O (fun _=>XL O O) Ap (BR Ay 3 [] O (D6 52 O (fun g3=>?_) (fun g3=>?_))))
  ·simp only[sd,se] at g3;exact Bk Ay 9 [] O (⟨O,O,AM,AI,⟨O,Ap⟩⟩)
  simp only[sd,se] at g3;refine BR Ay 1 [0] O (Ce O (fun _=>BC O O (O4 _ t (Nat.le_refl _) h1) O) Ap (BR Ay 3 [] O (D6 57 O (fun g4=>?_) (fun g4=>?_))))
  ·simp only[sd,se] at g4;exact Bk Ay 4 [] O (⟨O,O,AM,AI,⟨O,Ap⟩⟩)
  simp only[sd,se] at g4;exact BR Ay 1 [0] O (Ce O (fun _=>BC O O (TH _ t (Nat.le_refl _) h1) O) Ap (Bk Ay 2 [] O (⟨O,O,AM,AI,⟨O,Ap⟩⟩)))
 rintro _ rfl;refine Av O (fun c1=>?_) (fun c1=>?_)
 ·have c1R:=c1;simp only[sd,se] at c1;refine A3 (Ar Ay 4 [1,0] O ⟨O,_,_,O,(B8 (is:=[1]) O),?_⟩);refine⟨O,?_⟩;show ([.box b [.p (I c.steps),.p (I c.nodes),.p (I (wr ((c.forms:Int)+(Ev t:Int)))),.p (I c.limit),.p (.bool true)]]:List BK)=_;simp only[Et.form,JA,List.map_cons,List.map_nil];rw[c1R];simp
 have c1R:=c1;simp only[sd,se] at c1;refine A2 ⟨O,_,_,O,(B8 (is:=[1]) O),?_⟩;refine⟨O,?_⟩;show ([.box b [.p (I c.steps),.p (I c.nodes),.p (I (wr ((c.forms:Int)+(Ev t:Int)))),.p (I c.limit),.p (.bool c.over)]]:List BK)=_;simp only[Et.form,JA,List.map_cons,List.map_nil];rw[c1R];simp
theorem mO:∀{σ:Type}(st:σ→Int→Tm→σ×Bool) (Inv:Nat→σ→Prop) (HP:Bool→σ→List BK→Prop) (l b2 b3 b4:Nat) (hI:∀m s d t,Inv (m+1) s→Inv m (st s d t).1) (hy:∀m s d t T,Nd t→Inv (m+1) s→HP true s T→MJ Tryz.prog l [.p (I d),TV t] T (Wh (.p (.bool (st s d t).2)) (HP (st s d t).2 (st s d t).1))) (n:Nat) (t:Tm) (d:Int) (s:σ) (T0:List BK) (m:Nat),size t≤n→Nd t→0≤d→d+n<4611686018427387904→Inv (m+size t) s→HP true s T0→Bn Tryz.prog 114 [TV t,.p (I d),.ptr b2 0,.ptr b3 0,.ptr b4 0] (.box b2 [.fn (.yield l) [] []]:: .box b3 P1:: .box b4 [.fn (.func 114) [] [.ptr b2 0,.ptr b3 0,.ptr b4 0]]::T0) (Wh (.p (.bool (Ec st t d s).2)) (fun H=>∃T,HP (Ec st t d s).2 (Ec st t d s).1 T∧H= .box b2 [.fn (.yield l) [] []]:: .box b3 P1:: .box b4 [.fn (.func 114) [] [.ptr b2 0,.ptr b3 0,.ptr b4 0]]::T)):=by
 intro σ st Inv HP l b2 b3 b4 hI hy n
 induction n with
 | zero=>intro t d s T0 m h;cases t;simp[size] at h
 | succ n ih =>
  intro t d s T0 m h1 h2 h3 h4 h5 h6;obtain⟨tk,ti,tn,tl,ts⟩:=t;have h2':=h2;simp only[size] at h1 h5;simp only[Nd,JE,DY] at h2;refine A5 Tryz.func114 O sC (n:=50) O O (Aw (BF O (BN O) fun b5=>Ar Ay 1 [] O (As (Aw (Ax Ay 3 [1,0] O (JH [_,_,_,_] O O O O (hy (m+BX ts) _ _ _ _ h2' (by rw[Nat.add_assoc,Nat.add_comm (BX ts)];exact h5) h6) O ?_ (fun _ _ h=>h.elim)))))));rintro _ T ⟨rfl,hT⟩;refine Ar Ay 1 [] O (Av O (fun c=>?_) (fun c=>?_))
  ·simp only[sd,se] at c;refine Au Ay 1 [] O (A1 (⟨O,_,_,⟨_,_,O,O,O⟩,(G3 [1,2,3] [_,_,_,_] O),?_⟩));rw[Yc c];rw[c] at hT;exact⟨O,_,hT,O⟩
  simp only[sd,se] at c;rw[c] at hT;refine A2 (Au Ay 1 [] O (As (As (BT [1,3,4,5,8] 24 (fun y=>y= .p (.bool ((decide ((tk:Int)≥(0:Int)))&&(decide ((tk:Int)<(13:Int)))))) ?_ ?_))))
  ·refine A3 (Ax Ay 4 [0] O (BO 20 O (fun g=>?_) (fun g=>?_)))
   ·simp only[sd,se] at g;exact Ar Ay 4 [0] O (⟨O,O,AM,AI,⟨O,O,O,O,O,Ap⟩⟩)
   simp only[sd,se] at g;exact Ar Ay 4 [] O (⟨O,O,AM,AI,⟨O,O,O,O,O,Ap⟩⟩)
  rintro _ rfl;refine Av O (fun c1=>?_) (fun c1=>?_)
  ·simp only[sd,se] at c1;refine A3 (Ax Ay 2 [0] O (Aq O (Rp nI nV O O An An) (Aq O (Az qb O O) (Aq O (B7 (i:=2) DM O O (fm An)) (Ar Ay 1 [] O (As (Aw (Ax Ay 2 [0] O (Aq O (BJ Bf O (BQ _)) (Ar Ay 1 [] O (A9 ?_)))))))))));refine Bc (α:=Nat×σ×List BK) (fun(i,q,U)=>⟨50,mk [(1,.p (I d)),(4,.ptr b4 0),(8,.p (I (J1 tk))),(31,.p (.lst (BE ts))),(32,.p (I (ts.length:Nat))),(33,.p (I (i:Int)))],(.box b2 [.fn (.yield l) [] []]:: .box b3 P1:: .box b4 [.fn (.func 114) [] [.ptr b2 0,.ptr b3 0,.ptr b4 0]]::U),[]⟩) (fun(i,q,U)=>ts.length - i) (fun(i,q,U)=>i≤ts.length∧(Eh st tk d i q (ts.drop i)=Eh st tk d 0 (st s d (.mk tk ti tn tl ts)).1 ts∧Inv (m+BX (ts.drop i)) q∧HP true q U)) ⟨0,(st s d (.mk tk ti tn tl ts)).1,T⟩ (⟨by omega,by simp,by simpa using hI _ _ _ _ (by rw[Nat.add_assoc,Nat.add_comm (BX ts)];exact h5),by assumption⟩) ?_ ?_
   ·exact BS ⟨we O,we O,we O,we O,we O,we O,Ap⟩ (aW [1,2,3] [_,_,_,_] (l':=[_,_,_]) O (wl (oe O) (wl (oe O) (wl (oe O) (C2)))))
   rintro⟨i,q,U⟩ hC
   try simp only at hC
   obtain⟨hi,hC,hJ,hK⟩:=hC;refine Au Ay 1 [] O (As (Av O (fun c2=>?_) (fun c2=>?_)))
   ·simp only[sd,se] at c2;refine A2 (As (A9 (Aw (Br O ?_))));obtain⟨x,hx⟩:=A6 (l:=ts) (i:=i) An;refine Aq O (A4 Bf O O An (Bd hx) (BD _)) (Aq O (BM BZ O (BD _)) (BF O (A7 Bx O) fun b10=>Ar Ay 2 [0,1] O (Au Ay 2 [] O (As (Au Ay 3 [] O (Av O (fun c3=>?_) (fun c3=>?_)))))))
    ·simp only[sd,se] at c3;refine A3 (Ar Ay 3 [] O (BH (DA (t:=11) (x:= .p (I (d+below tk i))) (pI (by have:=Xi (k:=tk) (i:=i) An An;omega))) (Aw (Ax Ay 3 [3,0] O (Ij [_] O O O (.inr O) (ih x (d+below tk i) q _ (m+BX (ts.drop (i+1))) (by have:=Cb hx;omega) (DX h2.2.2.2.2.1 hx) (by have:=Cf tk i;omega) (by have:=Cf tk i;omega) (by rw[Cg hx,BX] at hJ;rw[Nat.add_assoc,Nat.add_comm (BX _)];exact hJ) hK) (aw (we O) (aw (we O) (aw (we O) (aw (we O) (aw (we O) (E0)))))) ?_ (fun _ _ h=>h.elim))))));rintro _ _ ⟨rfl,T1,hT1,rfl⟩;refine Ar Ay 1 [] O (Av O (fun c4=>?_) (fun c4=>?_))
     ·simp only[sd,se] at c4;refine Au Ay 1 [] O (A1 (⟨O,_,_,⟨_,_,O,O,O⟩,(G3 [1,2,3] [_,_,_,_] O),?_⟩));rw[IE Ak,←hC,JB hx c4];rw[c4] at hT1;exact⟨O,_,hT1,O⟩
     simp only[sd,se] at c4;rw[c4] at hT1;refine A2 (A3 (Ar Ay 2 [] O ?_));refine⟨⟨i+1,(Ec st x (d+below tk i) q).1,T1⟩,AW,⟨by omega,⟨by rw[←hC];exact(LS hx Ak).symm,by rw[Cg hx,BX] at hJ;exact JX hI x _ _ _ (by rw[Nat.add_assoc,Nat.add_comm (BX _)];exact hJ) Ak,by assumption⟩⟩,BS ⟨we rfl,we rfl,we rfl,we rfl,we rfl,we rfl,trivial⟩ (aW [1,2,3] [_,_,_,_] (l':=[_,_,_]) rfl (wl (oe rfl) (wl (oe rfl) (wl (oe rfl) (C2)))))⟩
    simp only[sd,se] at c3;refine A2 (BH (DA (t:=11) (x:= .p (I (d+below tk i))) (pI (by have:=Ua (k:=tk) (i:=i) An;omega))) (Aw (Ax Ay 3 [3,0] O (Ij [_] O O O (.inr O) (ih x (d+below tk i) q _ (m+BX (ts.drop (i+1))) (by have:=Cb hx;omega) (DX h2.2.2.2.2.1 hx) (by have:=Cf tk i;omega) (by have:=Cf tk i;omega) (by rw[Cg hx,BX] at hJ;rw[Nat.add_assoc,Nat.add_comm (BX _)];exact hJ) hK) (aw (we O) (aw (we O) (aw (we O) (aw (we O) (aw (we O) (E0)))))) ?_ (fun _ _ h=>h.elim)))));rintro _ _ ⟨rfl,T1,hT1,rfl⟩;refine Ar Ay 1 [] O (Av O (fun c4=>?_) (fun c4=>?_))
    ·simp only[sd,se] at c4;refine Au Ay 1 [] O (A1 (⟨O,_,_,⟨_,_,O,O,O⟩,(G3 [1,2,3] [_,_,_,_] O),?_⟩));rw[IE Ak,←hC,JB hx c4];rw[c4] at hT1;exact⟨O,_,hT1,O⟩
    simp only[sd,se] at c4;rw[c4] at hT1;refine A2 (A3 (Ar Ay 2 [] O ?_));refine⟨⟨i+1,(Ec st x (d+below tk i) q).1,T1⟩,AW,⟨by omega,⟨by rw[←hC];exact(LS hx Ak).symm,by rw[Cg hx,BX] at hJ;exact JX hI x _ _ _ (by rw[Nat.add_assoc,Nat.add_comm (BX _)];exact hJ) Ak,by assumption⟩⟩,BS ⟨we rfl,we rfl,we rfl,we rfl,we rfl,we rfl,trivial⟩ (aW [1,2,3] [_,_,_,_] (l':=[_,_,_]) rfl (wl (oe rfl) (wl (oe rfl) (wl (oe rfl) (C2)))))⟩
   simp only[sd,se] at c2;refine Be (Au Ay 1 [] O (A1 (⟨O,_,_,⟨_,_,O,O,O⟩,(G3 [0,1,2] [_,_,_] O),?_⟩)));rw[IE Ak,←hC,show i=ts.length by omega,List.drop_length];exact⟨O,_,hK,O⟩
  simp only[sd,se] at c1;have hbx:=XQ (k:=tk) An;refine A2 (As (Aw (Ax Ay 2 [0] O (Aq O (BJ Bf O (BQ _)) (Ar Ay 1 [] O (A9 ?_))))));refine Bc (α:=Nat×σ×List BK) (fun(i,q,U)=>⟨50,mk [(1,.p (I d)),(4,.ptr b4 0),(8,.p (I (-1))),(31,.p (.lst (BE ts))),(32,.p (I (ts.length:Nat))),(33,.p (I (i:Int)))],(.box b2 [.fn (.yield l) [] []]:: .box b3 P1:: .box b4 [.fn (.func 114) [] [.ptr b2 0,.ptr b3 0,.ptr b4 0]]::U),[]⟩) (fun(i,q,U)=>ts.length - i) (fun(i,q,U)=>i≤ts.length∧(Eh st tk d i q (ts.drop i)=Eh st tk d 0 (st s d (.mk tk ti tn tl ts)).1 ts∧Inv (m+BX (ts.drop i)) q∧HP true q U)) ⟨0,(st s d (.mk tk ti tn tl ts)).1,T⟩ (⟨by omega,by simp,by simpa using hI _ _ _ _ (by rw[Nat.add_assoc,Nat.add_comm (BX ts)];exact h5),by assumption⟩) ?_ ?_
  ·exact BS ⟨we O,we O,we O,we O,we O,we O,Ap⟩ (aW [1,2,3] [_,_,_,_] (l':=[_,_,_]) O (wl (oe O) (wl (oe O) (wl (oe O) (C2)))))
  rintro⟨i,q,U⟩ hC
  try simp only at hC
  obtain⟨hi,hC,hJ,hK⟩:=hC;refine Au Ay 1 [] O (As (Av O (fun c2=>?_) (fun c2=>?_)))
  ·simp only[sd,se] at c2;refine A2 (As (A9 (Aw (Br O ?_))));obtain⟨x,hx⟩:=A6 (l:=ts) (i:=i) An;refine Aq O (A4 Bf O O An (Bd hx) (BD _)) (Aq O (BM BZ O (BD _)) (BF O (A7 Bx O) fun b10=>Ar Ay 2 [0,1] O (Au Ay 2 [] O (As (Au Ay 3 [] O (Av O (fun c3=>?_) (fun c3=>?_)))))))
   ·simp only[sd,se] at c3;refine A3 (Ar Ay 3 [] O (BH (DA (t:=11) (x:= .p (I (d+below tk i))) (pI (by have:=Xi (k:=tk) (i:=i) An An;omega))) (Aw (Ax Ay 3 [3,0] O (Ij [_] O O O (.inr O) (ih x (d+below tk i) q _ (m+BX (ts.drop (i+1))) (by have:=Cb hx;omega) (DX h2.2.2.2.2.1 hx) (by have:=Cf tk i;omega) (by have:=Cf tk i;omega) (by rw[Cg hx,BX] at hJ;rw[Nat.add_assoc,Nat.add_comm (BX _)];exact hJ) hK) (aw (we O) (aw (we O) (aw (we O) (aw (we O) (aw (we O) (E0)))))) ?_ (fun _ _ h=>h.elim))))));rintro _ _ ⟨rfl,T1,hT1,rfl⟩;refine Ar Ay 1 [] O (Av O (fun c4=>?_) (fun c4=>?_))
    ·simp only[sd,se] at c4;refine Au Ay 1 [] O (A1 (⟨O,_,_,⟨_,_,O,O,O⟩,(G3 [1,2,3] [_,_,_,_] O),?_⟩));rw[IE Ak,←hC,JB hx c4];rw[c4] at hT1;exact⟨O,_,hT1,O⟩
    simp only[sd,se] at c4;rw[c4] at hT1;refine A2 (A3 (Ar Ay 2 [] O ?_));refine⟨⟨i+1,(Ec st x (d+below tk i) q).1,T1⟩,AW,⟨by omega,⟨by rw[←hC];exact(LS hx Ak).symm,by rw[Cg hx,BX] at hJ;exact JX hI x _ _ _ (by rw[Nat.add_assoc,Nat.add_comm (BX _)];exact hJ) Ak,by assumption⟩⟩,BS ⟨we rfl,we rfl,we rfl,we rfl,we rfl,we rfl,trivial⟩ (aW [1,2,3] [_,_,_,_] (l':=[_,_,_]) rfl (wl (oe rfl) (wl (oe rfl) (wl (oe rfl) (C2)))))⟩
   simp only[sd,se] at c3;refine A2 (BH (DA (t:=11) (x:= .p (I (d+below tk i))) (pI (by have:=Ua (k:=tk) (i:=i) An;omega))) (Aw (Ax Ay 3 [3,0] O (Ij [_] O O O (.inr O) (ih x (d+below tk i) q _ (m+BX (ts.drop (i+1))) (by have:=Cb hx;omega) (DX h2.2.2.2.2.1 hx) (by have:=Cf tk i;omega) (by have:=Cf tk i;omega) (by rw[Cg hx,BX] at hJ;rw[Nat.add_assoc,Nat.add_comm (BX _)];exact hJ) hK) (aw (we O) (aw (we O) (aw (we O) (aw (we O) (aw (we O) (E0)))))) ?_ (fun _ _ h=>h.elim)))));rintro _ _ ⟨rfl,T1,hT1,rfl⟩;refine Ar Ay 1 [] O (Av O (fun c4=>?_) (fun c4=>?_))
   ·simp only[sd,se] at c4;refine Au Ay 1 [] O (A1 (⟨O,_,_,⟨_,_,O,O,O⟩,(G3 [1,2,3] [_,_,_,_] O),?_⟩));rw[IE Ak,←hC,JB hx c4];rw[c4] at hT1;exact⟨O,_,hT1,O⟩
   simp only[sd,se] at c4;rw[c4] at hT1;refine A2 (A3 (Ar Ay 2 [] O ?_));refine⟨⟨i+1,(Ec st x (d+below tk i) q).1,T1⟩,AW,⟨by omega,⟨by rw[←hC];exact(LS hx Ak).symm,by rw[Cg hx,BX] at hJ;exact JX hI x _ _ _ (by rw[Nat.add_assoc,Nat.add_comm (BX _)];exact hJ) Ak,by assumption⟩⟩,BS ⟨we rfl,we rfl,we rfl,we rfl,we rfl,we rfl,trivial⟩ (aW [1,2,3] [_,_,_,_] (l':=[_,_,_]) rfl (wl (oe rfl) (wl (oe rfl) (wl (oe rfl) (C2)))))⟩
  simp only[sd,se] at c2;refine Be (Au Ay 1 [] O (A1 (⟨O,_,_,⟨_,_,O,O,O⟩,(G3 [0,1,2] [_,_,_] O),?_⟩)));rw[IE Ak,←hC,show i=ts.length by omega,List.drop_length];exact⟨O,_,hK,O⟩
theorem ph:ET Tryz.prog 113 [] (.agg P1):=by
 refine A5 Tryz.func113 O sM (n:=15) O O (Aw (BF O (A7 gE O) fun b0=>Bg O (Aw (Ax Ay 13 [] O (Aq O (EJ nI nV gE O) (Ar Ay 1 [0,0] O (A1 (⟨O,_,_,⟨_,_,O,(BA (i:=0) rT O O O),O⟩,(List.nil_sublist _),?_⟩))))))))
 all_goals exact⟨rfl,rfl⟩
theorem iA:∀(t:Tm),Bn Tryz.prog 82 [.agg ((BP t).map .p)] [] (fun r H'=>∃b,r= .val (.fn (.func 112) [] [.ptr b 0])∧H'=[.box b ((BP t).map .p)]):=by
 intro t;refine A5 Tryz.func82 O v8 (n:=4) O O (Aw (BF O (BN O) fun b1=>Ar Ay 1 [] O (Au Ay 2 [] O (A1 (⟨O,_,_,⟨_,_,O,O,O⟩,(B8 (is:=[0]) O),?_⟩)))));exact⟨_,O,O⟩
theorem iu:∀{σ:Type}(st:σ→Int→Tm→σ×Bool) (Inv:Nat→σ→Prop) (HP:Bool→σ→List BK→Prop) (l b1:Nat) (hI:∀m s d t,Inv (m+1) s→Inv m (st s d t).1) (hy:∀m s d t T,Nd t→Inv (m+1) s→HP true s T→MJ Tryz.prog l [.p (I d),TV t] T (Wh (.p (.bool (st s d t).2)) (HP (st s d t).2 (st s d t).1))) (t:Tm) (s:σ) (T0:List BK) (m:Nat),Nd t→size t<4611686018427387904→Inv (m+size t) s→HP true s T0→Bn Tryz.prog 112 [.fn (.yield l) [] [],.ptr b1 0] (.box b1 ((BP t).map .p)::T0) (Wh (.tup []) (fun H=>∃T,HP (Ec st t 0 s).2 (Ec st t 0 s).1 T∧H= .box b1 ((BP t).map .p)::T)):=by
 intro σ st Inv HP l b1 hI hy t s T0 m h1 h2 h3 h4;refine A5 Tryz.func112 O qR (n:=10) O O (Aw (BF O (BN O) fun b2=>Bg O (Aw (Aq O (BC O O (ph ) O) (BF O (A7 gE O) fun b3=>Ar Ay 1 [0,0] O (Aw (BF O (A7 sa O) fun b4=>Bg O (Au Ay 2 [0,0] O (A3 (Ax Ay 2 [0,3] O (Jd ((List.reverse_perm [_,_,_,_]).symm.append_right _) (Ij [_] O O O (.inr O) (mO st Inv HP l b2 b3 b4 hI hy _ t 0 s T0 m (Nat.le_refl _) h1 An An h3 h4) (aw (we O) (aw (we O) (aw (we O) (aw (we O) (aw (we O) (E0)))))) ?_ (fun _ _ h=>h.elim)))))))))))));rintro _ _ ⟨rfl,T,hT,rfl⟩;refine Bg O ⟨O,_,_,O,(G3 [0] [_,_,_,_] O),?_⟩;exact⟨O,_,hT,O⟩
theorem bI:∀(t:Tm),(Nd t)→(size t<1152921504606846976)→ET Tryz.prog 45 [.agg ((BP t).map .p)] (.p (I (size t:Nat))):=by
 intro t h1 h2;refine FW Tryz.func45 O uZ (n:=11) O O (Aw (BF O (BN O) fun b1=>Ar Ay 1 [] O (Aw (BF O (A7 ki O) fun b3=>Ar Ay 1 [0,0] O (As (Aw (Aq O (BU (i:=1) BZ O O Ag) ?_)))))));refine gR [] O O O (.inl ⟨O,O,O⟩) (iA t) O Ao (aw (we O) E0) ?_ (fun _ _ ⟨_,h,_⟩=>by cases h);rintro _ _ ⟨bn,h,rfl⟩;cases h;refine Bg O (A9 (TB (.inr O) fun dd l L hL=>⟨_,_,DO (is:=[2,0,3]) Am ⟨_,_,O,O,⟨_,_,O,O,⟨_,_,O,O,O⟩⟩⟩,?_⟩));have hy:∀(m:Nat) (s:Int) (d:Int) (t:Tm) (T:List BK),Nd t→(fun _ _=>True) (m+1) s→(fun(_:Bool) (s:Int) (T:List BK)=>T=[.loop l L,.box b3 [.p (I s)]]) true s T→MJ Tryz.prog l [.p (I d),TV t] T (Wh (.p (.bool (Zw s d t).2)) ((fun(_:Bool) (s:Int) (T:List BK)=>T=[.loop l L,.box b3 [.p (I s)]]) (Zw s d t).2 (Zw s d t).1)):=by
  rintro m s d tt T hnd hinv rfl;subst hL;refine Ui (i:=0) O O O O (A2 ⟨O,0,O,?_⟩);refine A9 (A3 (Aq O (B7 (i:=1) DM O O O) (Aq O (EA O O) (Ar Ay 1 [1,0] O ⟨0,_,O,B8 (is:=[0,1]) O,?_⟩))));exact⟨O,O⟩
 refine(iu Zw (fun _ _=>True) (fun(_:Bool) (s:Int) (T:List BK)=>T=[.loop l L,.box b3 [.p (I s)]]) l bn (fun _ _ _ _ _=>Ap) hy t 0 _ 0 (h1) An (Ap) O).mono ?_;rintro(v | v) H' hR
 rotate_left
 ·exact hR.elim
 obtain⟨rfl,_,rfl,rfl⟩:=hR;subst hL;refine⟨1,_,O,Ao,?_⟩;refine Au Ay 2 [1] O (A1 (⟨2,O,_,_,⟨_,_,O,O,O⟩,(List.nil_sublist _),?_⟩))
 all_goals exact⟨pI (by rw[Yl 4611686018427387904 (Int.le_refl _) t 0 0 An An];simp),rfl⟩
theorem Ym:∀(n:Nat) (t:Tm),(size t≤n)→(Nd t)→ET Tryz.prog 46 [.agg ((BP t).map .p)] (.p (I (FK t))):=by
 intro n
 induction n with
 | zero=>intro t h;cases t;simp[size] at h
 | succ n ih =>
  intro t h1 h2;obtain⟨tk,ti,tn,tl,ts⟩:=t;simp only[size] at h1;simp only[Nd,DY] at h2;refine A5 Tryz.func46 O vg (n:=20) O O (Aw (BF O (BN O) fun b1=>Ar Ay 1 [] O (Au Ay 1 [] O (As (Aw (Ax Ay 2 [0] O (Aq O (BJ Bf O (BQ _)) (Ar Ay 1 [] O (A9 (Bc (α:=Nat×Int) (fun(i,m)=>⟨20,mk [(3,.p (I m)),(7,.p (.lst (BE ts))),(8,.p (I (ts.length:Nat))),(9,.p (I (i:Int)))],[],[]⟩) (fun(i,m)=>ts.length - i) (fun(i,m)=>i≤ts.length∧(J3 m (ts.drop i)=J3 0 ts)) ⟨0,0⟩ Ao ?_ ?_))))))))))
  ·exact BS ⟨we O,we O,we O,we O,Ap⟩ (leH (is:=[]) O (C2))
  rintro⟨i,m⟩ hC
  try simp only at hC
  obtain⟨hi,hC⟩:=hC;refine Au Ay 1 [] O (As (Av O (fun c=>?_) (fun c=>?_)))
  ·simp only[sd,se] at c;refine A2 (As (A9 (Aw ?_)));obtain⟨x,hx⟩:=A6 (l:=ts) (i:=i) An;refine Aq O (A4 Bf O O An (Bd hx) (BD _)) (Aq O (BM BZ O (BD _)) (BF O (A7 Bx O) fun b5=>Ar Ay 1 [0,1] O (A3 (Ax Ay 2 [0] O (Aq O (BC O O (ih x (by have:=Cb hx;omega) (DX h2.2.2.2.2.1 hx)) O) (Aq O (FI O O) (Ar Ay 1 [] O (A3 (Ar Ay 2 [] O ?_)))))))));refine⟨⟨i+1,max m (FK x)⟩,AW,⟨by omega,by rw[←hC,Cg hx];rfl⟩,BS ⟨we rfl,we rfl,we rfl,we rfl,trivial⟩ (leH (is:=[]) rfl (C2))⟩
  simp only[sd,se] at c;refine Be (Aw (Br O (Aq O (EA O O) (Ar Ay 1 [] O (A1 (⟨O,_,_,⟨_,_,O,O,O⟩,(List.nil_sublist _),?_⟩))))))
  all_goals exact⟨pI (by rw[show FK (.mk tk ti tn tl ts)=wr (J3 0 ts+1) from rfl,←hC,show i=ts.length by omega,List.drop_length];rfl),rfl⟩
theorem EK:∀(f:Tm) (xs:List Tm),(xs.length<DY)→ET Tryz.prog 73 [.agg ((BP f).map .p),.p (.lst (BE xs))] (.agg ((BP (apply f xs)).map .p)):=by
 intro f xs h1;simp only[DY] at h1;refine A5 Tryz.func73 O uX (n:=19) O O (Aw (BF O (BN O) fun b2=>BF O (A7 Bx O) fun b4=>Bg O (As (Aw (Br O (Aq O (BJ Bf O (BQ _)) (Ar Ay 1 [] O (A9 (Bc (α:=Nat) (fun i=>⟨19,mk [(2,.ptr b2 0),(4,.ptr b4 0),(7,.p (.lst (BE xs))),(8,.p (I (xs.length:Nat))),(9,.p (I (i:Int)))],[.box b4 [.p (I 0),.p (I 0),.p (.str ⟨#[]⟩),.p (.nils),.p (.nils)],.box b2 ((BP (apply f (xs.take i))).map .p)],[]⟩) (fun i=>xs.length - i) (fun i=>i≤xs.length) 0 AQ ?_ ?_)))))))))
 ·exact BS ⟨we O,we O,we O,we O,we O,Ap⟩ (leH (is:=[0,1]) O (wl (oe O) (wl (oe O) (C2))))
 rintro i hC
 try simp only at hC
 have hi:=hC;refine Au Ay 1 [] O (As (Av O (fun c=>?_) (fun c=>?_)))
 ·simp only[sd,se] at c;refine A2 (As (A9 (Aw ?_)));obtain⟨x,hx⟩:=A6 (l:=xs) (i:=i) An;refine Aq O (A4 Bf O O An (Bd hx) (BD _)) (Aq O (BM BZ O (BD _)) (BF O (A7 Bx O) fun b6=>Ar Ay 1 [0,1] O (A3 (Ax Ay 2 [2,0] O ?_))));generalize hz:(apply f (xs.take i))=z;obtain⟨zk,zi,zn,zl,zs⟩:=z;obtain⟨xk,xi,xn,xl,xs1⟩:=x;refine Aq O (Bl Bf Bx O O O O O) (Ar Ay 2 [2,0] O (A3 (Ar Ay 2 [] O ?_)));refine⟨(i+1),AW,by omega,BS ⟨we rfl,we rfl,we rfl,we rfl,we rfl,trivial⟩ (leH (is:=[1,2]) rfl (wl (oe rfl) (wl (on (by rw[TC hx,hz];rfl)) (C2))))⟩
 simp only[sd,se] at c;refine Be (Au Ay 2 [1,0,1] O (A1 (⟨O,_,_,⟨_,_,O,(BA (i:=0) BZ O O Ag),O⟩,(List.nil_sublist _),?_⟩)))
 all_goals exact⟨by show (.agg ((BP (apply f (xs.take i))).map .p):AV)=_;rw[show i=xs.length by omega,List.take_length],rfl⟩
theorem _root_.Go.AN {α:Prop}(h:α:=by simp only[BQ,List.length_map,List.length_set];omega):α:=h
theorem _root_.Go.AZ {α:Prop}(h:α:=by simp only[BQ];omega):α:=h
theorem _root_.Go.Aa {α:Prop}(h:α:=by simp[BQ];omega):α:=h
theorem gq:∀(xs:List Tm) (o0:Option Nat) (c0:Nat),(xs.length<DY)→Bn Tryz.prog 98 [.vs o0 (BE xs).length c0] [.vec o0 5 (BE xs) c0] (Gk (.tup []) [.vec o0 5 (BE xs.reverse) c0]):=by
 intro xs o0 c0 h1;simp only[DY] at h1;refine A5 Tryz.func98 O wO (n:=28) O O (Aw (Br O (Aq O (Kj Bf O (BQ _)) (Ar Ay 3 [] O (A9 (Bc (α:=Nat×List Tm×Option Nat×Nat) (fun(i,ys,o,cp)=>⟨28,mk [(0,.vs o (BE ys).length cp),(2,.p (I (i:Int))),(3,.p (I ((xs.length:Int) - 1 - (i:Int))))],[.vec o 5 (BE ys) cp],[]⟩) (fun(i,ys,o,cp)=>xs.length - i) (fun(i,ys,o,cp)=>i≤xs.length∧Xg xs ys i∧o=o0∧cp=c0) ⟨0,xs,o0,c0⟩ (⟨by omega,Zi xs,rfl,rfl⟩) ?_ ?_))))))
 ·exact BS ⟨we O,we O,we (pI An),Ap⟩ (leH (is:=[0]) O (wl (oe O) (C2)))
 rintro⟨i,ys,o,cp⟩ hC
 try simp only at hC
 obtain⟨hi,hR,ho,hcp⟩:=hC;have hyl:=hR.1;have hjn:((xs.length:Int) - 1 - (i:Int)).toNat=xs.length - 1 - i:=by omega
 refine As (Au Ay 3 [] O (Av O (fun c=>?_) (fun c=>?_)))
 ·simp only[sd,se] at c;refine A2 (As (A9 (MU (i:=0) O Aa fun b hb=>?_)));subst hb;refine Bt (fun k=>false) Dn (BR Ay 6 [] O (BG O (fun _=>C0 Bf O O An AZ) Ap ?_));obtain⟨y,hy⟩:=A6 (l:=ys) (i:=((xs.length:Int) - 1 - (i:Int):Int).toNat) An;refine CV (j:=0) O O O (fun H i hi=>Ei (i:=i) BZ O hi (Bd hy)) AB Ap (BR Ay 2 [] O (BG O (fun _=>C0 Bf O O An AZ) Ap ?_));obtain⟨y1,hy1⟩:=A6 (l:=ys) (i:=i) An;refine CV (j:=0) O O O (fun H i hi=>Ei (i:=i) BZ O hi (Bd hy1)) AB Ap (BG O (fun _=>C0 Bf O O An AZ) Ap (GX O O (EH (i:=0) (j:=i) BZ O O O AN O (Ko _) (BD _) (FX _) (U9 ys i y)) AB Ap (BG O (fun _=>C0 Bf O O An AZ) Ap (GX O O (EH (i:=0) (j:=(((xs.length:Int) - 1 - (i:Int):Int).toNat)) BZ O O O AN O (Ko _) (BD _) (FX _) (U9 ((ys).set i y) (((xs.length:Int) - 1 - (i:Int):Int).toNat) y1)) AB Ap (Je O Aj (A3 (Ar Ay 6 [] O ?_)))))));refine⟨⟨i+1,(ys.set i y).set (xs.length - 1 - i) y1,(some b),cp⟩,AW,⟨by omega,Yy hR An hy1 (hjn▸hy),ho,hcp⟩,BS ⟨we (DI ys Ao),we rfl,we (pI An),trivial⟩ (leH (is:=[0]) rfl (wl (KK (((ys).set i y).set (((xs.length:Int) - 1 - (i:Int):Int).toNat) y1) (by rw[hjn])) (C2)))⟩
 simp only[sd,se] at c;refine Be ⟨O,_,_,O,(B8 (is:=[0]) O),?_⟩;refine⟨O,?_⟩;show ([.vec o 5 (BE ys) cp]:List BK)=_;rw[Zt hR An,ho,hcp]
theorem Ma:∀(t:Tm),(Nd t)→(size t<DY)→ET Tryz.prog 72 [.agg ((BP t).map .p)] (.tup [.agg ((BP ((A8 t).1)).map .p),.p (.lst (BE ((A8 t).2)))]):=by
 intro t h1 h2;simp only[DY] at h2;refine A5 Tryz.func72 O vJ (n:=29) O O (Aw (BF O (BN O) fun b1=>BF O (A7 Bx O) fun b2=>Ar Ay 1 [] O (Au Ay 1 [] O (As (A9 (BH (EN (t:=4) (sz:=5) O) ?_))))));refine Bc (α:=Tm×List Tm×Option Nat×Nat) (fun(tt,ys,o,cp)=>⟨29,mk [(1,.ptr b1 0),(2,.ptr b2 0),(4,.vs o (BE ys).length cp)],[.vec o 5 (BE ys) cp,.box b2 [.p (I 0),.p (I 0),.p (.str ⟨#[]⟩),.p (.nils),.p (.nils)],.box b1 ((BP tt).map .p)],[]⟩) (fun(tt,ys,o,cp)=>size tt) (fun(tt,ys,o,cp)=>A8 t=((A8 tt).1,(A8 tt).2++ys.reverse)∧Nd tt∧size tt+ys.length≤size t) ⟨t,[],none,0⟩ (⟨by simp,h1,by simp⟩) ?_ ?_
 ·exact BS ⟨we O,we O,we O,Ap⟩ (leH (is:=[0,1,2]) O (wl (oe O) (wl (oe O) (wl (oe O) (C2)))))
 rintro⟨tt,ys,o,cp⟩ hC
 try simp only at hC
 obtain⟨hS,hN,hL⟩:=hC;refine As (As ?_);obtain⟨ttk,tti,ttn,ttl,tts⟩:=tt;simp only[size] at hL;refine BT [1,2,4] 13 (fun y=>y= .p (.bool (((ttk:Int)==(4:Int))&&(((tts.length:Nat):Int)==(2:Int))))) ?_ ?_
 ·refine A3 (Ax Ay 4 [2] O (BO 8 O (fun g=>?_) (fun g=>?_)))
  ·simp only[sd,se] at g;exact Ax Ay 2 [2] O (BB O (BJ Bf O (BQ _)) (Ar Ay 2 [] O (⟨O,O,AM,AI,⟨O,O,O,Ap⟩⟩)))
  simp only[sd,se] at g;exact Ar Ay 5 [] O (⟨O,O,AM,AI,⟨O,O,O,Ap⟩⟩)
 rintro _ rfl;refine Av O (fun c=>?_) (fun c=>?_)
 ·simp only[sd,se] at c;refine A2 (A9 (Aw (Ax Ay 3 [2] O ?_)));obtain⟨x,hx⟩:=A6 (l:=tts) (i:=1) An;refine Aq O (A4 Bf O O An (Bd hx) (BD _)) (Aq O (BM BZ O (BD _)) ?_);obtain⟨xk,xi,xn,xl,xs⟩:=x;refine Aq O (Bl Bf Bx O O O O O) (FP O O (CR (i:=0) (rows':=BE [(.mk xk xi xn xl xs:Tm)]) Bf Bf Bx O O O O O O (Bv _) AD (Kc ys [(.mk xk xi xn xl xs:Tm)])) fun o1 cp1=>Ar Ay 1 [] O (A3 (Ax Ay 2 [2] O ?_)));obtain⟨x1,hx1⟩:=A6 (l:=tts) (i:=0) An;refine Aq O (A4 Bf O O An (Bd hx1) (BD _)) (Ar Ay 2 [2,1] O ?_);refine⟨⟨x1,ys++[.mk xk xi xn xl xs],o1,cp1⟩,(by have:=Cb hx1;simp only[size];omega),⟨by rw[hS,US c hx1 hx];simp,DX hN.2.2.2.2.1 hx1,by have:=Cb hx1;simp;omega⟩,BS ⟨we rfl,we rfl,we rfl,trivial⟩ (leH (is:=[0,1,2]) rfl (wl (oe rfl) (wl (oe rfl) (wl (oe rfl) (C2)))))⟩
 simp only[sd,se] at c;refine Be (Aw (Br O (Aq O (CE [0] O (.inl ⟨O,O,O⟩) (gq ys o cp Ab) ⟨_,_,O,O,O⟩ Am O (.inl O)) (Bg O (Au Ay 4 [2,1,0] O (BH (DA (t:=4) (x:= .vs o (BE ys.reverse).length cp) (DI ys (l':=ys.reverse) Ao)) (BH (DA (t:=25) (x:= .vs o (BE ys.reverse).length cp) (DI ys (l':=ys.reverse) Ao)) (BH (DA (t:=28) (x:= .vs o (BE ys.reverse).length cp) (DI ys (l':=ys.reverse) Ao)) (BH (DA (t:=3) (x:= .vs o (BE ys.reverse).length cp) (DI ys (l':=ys.reverse) Ao)) (BH (Ck (i:=0) [4,25,28,3] O (D5 ⟨O,O,O,O,Ap⟩)) (A1 (⟨O,_,_,⟨_,_,O,(BA (i:=0) BZ O O O),⟨_,_,O,O,O⟩⟩,(List.nil_sublist _),?_⟩))))))))))));rw[hS,R3 (Classical.or_iff_not_imp_left.2 fun h=>by simp at h;exact fun e=>absurd (c h) (by simp[e]))]
 all_goals exact⟨rfl,rfl⟩
theorem Q6:∀(e:Int),Bn Tryz.prog 174 [.p (I e)] [] (Vw (.p (.iface 223 (I e))) []):=by
 intro e;exact A5 Tryz.func174 O sx (n:=4) O O (A3 (Br O (Aq O (Tf nZ (by intro ms h;cases h) O) (PA O O (Mi O) (⟨O,_,List.nil_sublist _,⟨O,O⟩⟩)))))
theorem U7:∀(e:Int),ET Tryz.prog 154 [.p (.iface 223 (I e))] (.p (I e)):=by
 intro e;refine A5 Tryz.func154 O sX (n:=14) O O (Au Ay 1 [] O (Aw (Br O (Aq O (TQ nZ O O) (Ar Ay 5 [] O (As (Au Ay 2 [] O ?_)))))));refine Av O (fun c=>by cases c) (fun c=>?_);refine A2 (Au Ay 2 [] O (A1 (⟨O,_,_,⟨_,_,O,O,O⟩,(List.nil_sublist _),?_⟩)))
 all_goals exact⟨rfl,rfl⟩
theorem fc:∀(k i:Int),ET Tryz.prog 175 [.p (I k),.p (I i)] (.p (I (below k i))):=by
 intro k i;refine A5 Tryz.func175 O qP (n:=26) O O (Au Ay 1 [] O (As (A9 (As (As (BT [0,1] 5 (fun y=>y= .p (.bool (((i:Int)==(1:Int))&&((((k:Int)==(5:Int))||((k:Int)==(6:Int)))||((k:Int)==(7:Int)))))) ?_ ?_))))))
 ·refine A3 (Ax Ay 3 [] O (BO 8 O (fun g=>?_) (fun g=>?_)))
  ·simp only[sd,se] at g;refine Ax Ay 3 [] O (BO 11 O (fun g1=>?_) (fun g1=>?_))
   ·simp only[sd,se] at g1;exact Ar Ay 9 [] O (⟨O,O,AM,AI,⟨O,O,Ap⟩⟩)
   simp only[sd,se] at g1;refine Ax Ay 4 [] O (BO 15 O (fun g2=>?_) (fun g2=>?_))
   ·simp only[sd,se] at g2;exact Ar Ay 5 [] O (⟨O,O,AM,AI,⟨O,O,Ap⟩⟩)
   simp only[sd,se] at g2;exact Ar Ay 5 [] O (⟨O,O,AM,AI,⟨O,O,Ap⟩⟩)
  simp only[sd,se] at g;exact Ar Ay 12 [] O (⟨O,O,AM,AI,⟨O,O,Ap⟩⟩)
 rintro _ rfl;refine Av O (fun c=>?_) (fun c=>?_)
 ·simp only[sd,se] at c;refine A2 (Av O (fun c1=>?_) (fun c1=>?_))
  ·simp only[sd,se] at c1;refine Au Ay 1 [] O (A1 (⟨O,_,_,⟨_,_,O,O,O⟩,(List.nil_sublist _),?_⟩))
   all_goals exact⟨pI (by unfold below;simp_all),rfl⟩
  simp only[sd,se] at c1;refine A2 (Au Ay 1 [] O (A1 (⟨O,_,_,⟨_,_,O,O,O⟩,(List.nil_sublist _),?_⟩)))
  all_goals exact⟨pI (by unfold below;simp_all),rfl⟩
 simp only[sd,se] at c;refine BT [] 5 (fun y=>y= .p (.bool (((i:Int)==(2:Int))&&((k:Int)==(11:Int))))) ?_ ?_
 ·refine A3 (Ax Ay 3 [] O (BO 22 O (fun g=>?_) (fun g=>?_)))
  ·simp only[sd,se] at g;exact Ar Ay 4 [] O ⟨O,O,AM,AI,Ap⟩
  simp only[sd,se] at g;exact Ar Ay 4 [] O ⟨O,O,AM,AI,Ap⟩
 rintro _ rfl;refine Av O (fun c1=>?_) (fun c1=>?_)
 ·simp only[sd,se] at c1;refine Au Ay 1 [] O (A1 (⟨O,_,_,⟨_,_,O,O,O⟩,(List.nil_sublist _),?_⟩))
  all_goals exact⟨pI (by unfold below;simp_all),rfl⟩
 simp only[sd,se] at c1;refine A2 (Au Ay 1 [] O (A1 (⟨O,_,_,⟨_,_,O,O,O⟩,(List.nil_sublist _),?_⟩)))
 all_goals exact⟨pI (by unfold below;simp_all),rfl⟩
theorem Yh:∀(i:Int),Bn Tryz.prog 163 [.p (I i)] [] (Lm (fun(r:Tm)=>TV r) (fun e=> .p (.iface 223 (I e))) (fun r H'=>H'=[]) (Iw i)):=by
 intro i;refine A5 Tryz.func163 O tQ (n:=8) O O (Aw (BF O (A7 Bx O) fun b2=>Bg O (As (Au Ay 2 [] O (Av O (fun c=>?_) (fun c=>?_))))))
 ·simp only[sd,se] at c;refine A3 (PF O O O (.inl ⟨O,O,O⟩) (Q6 24) (aw (we O) (E0)) ?_);exact⟨O,_,List.nil_sublist _,⟨_,by unfold Iw;rw[if_pos An],rfl⟩⟩
 simp only[sd,se] at c;refine A2 (Au Ay 3 [0,0] O (BH (BW (i:=0) O) (A1 (⟨O,_,_,⟨_,_,O,(BA (i:=0) BZ O O O),O⟩,(List.nil_sublist _),?_⟩))));exact⟨(.mk 0 i ⟨#[]⟩ [] []:Tm),by unfold Iw;rw[if_neg An];rfl,rfl,rfl⟩
theorem iG:∀(bc:Nat) (n m:Int),Bn Tryz.prog 157 [.ptr bc 0,.p (I m)] [.box bc [.p (I n)]] (Lm (fun(r:Int)=> .tup []) (fun e=> .p (.iface 223 (I e))) (fun r H'=>H'=[.box bc [.p (I r)]]) (YN n m)):=by
 intro bc n m;refine A5 Tryz.func157 O tu (n:=18) O O (Aw (Ax Ay 5 [0] O (Aq O (EA O O) (Ar Ay 3 [0,0] O (Au Ay 5 [0] O (Av O (fun c=>?_) (fun c=>?_)))))))
 ·simp only[sd,se] at c;refine A3 (PF O O O (.inl ⟨O,O,O⟩) (Q6 5) (aw (we O) (E0)) ?_);exact⟨O,_,List.nil_sublist _,⟨_,by unfold YN;rw[if_pos An],rfl⟩⟩
 simp only[sd,se] at c;refine A2 ⟨O,_,_,O,(B8 (is:=[0]) O),?_⟩;exact⟨(wr (n+m)),by unfold YN;rw[if_neg An],rfl,rfl⟩
theorem _root_.Go.AJ {α:Prop}(h:α:=by simp only[List.length_map,List.length_take,List.length_cons,List.length_nil];omega):α:=h
theorem TG:∀(t:Tm),(Nd t)→ET Tryz.prog 162 [.agg ((BP t).map .p)] (.agg ((BP (Pt t)).map .p)):=by
 intro t h1;obtain⟨tk,ti,tn,tl,ts⟩:=t;simp only[Nd,DY] at h1;refine A5 Tryz.func162 O nE (n:=33) O O (Aw (BF O (BN O) fun b1=>BF O (A7 Bx O) fun b2=>Bg O (Aw (Ax Ay 7 [1,1,1] O (BF O (A7 Bx O) fun b3=>Ar Ay 1 [0,0] O (As (Aw (B4 (IA (i:=0) O (Ys (aw (we O) (aw (we O) (aw (we O) (aw (JM) (aw (we O) (E0)))))))) (B4 (H6 (sz:=2)) (Ax Ay 2 [3] O (Aq O (BJ EV O (List.length_map _)) (Ar Ay 1 [] O (A9 ?_)))))))))))));refine Bc (α:=Nat×Option Nat×Nat) (fun(i,o,cp)=>⟨33,mk [(2,.ptr b2 0),(3,.ptr b3 0),(14,.p (.lst (List.map By tl))),(15,.p (I (tl.length:Nat))),(16,.p (I (i:Int)))],[.vec o 2 (List.map By (tl.take i)) cp,.box b3 [.p (I tk),.p (I ti),.p (.str tn),.vs o (List.map By (tl.take i)).length cp,.p (.nils)],.box b2 [.p (I 0),.p (I 0),.p (.str ⟨#[]⟩),.p (.nils),.p (.nils)]],[]⟩) (fun(i,o,cp)=>tl.length - i) (fun(i,o,cp)=>i≤tl.length) ⟨0,none,0⟩ AQ ?_ ?_
 ·exact BS ⟨we O,we O,we O,we O,we O,Ap⟩ (leH (is:=[0,1,2]) O (wl (oe O) (wl (oe O) (wl (oe O) (C2)))))
 rintro⟨i,o,cp⟩ hC
 try simp only at hC
 have hi:=hC;refine Au Ay 1 [] O (As (Av O (fun c=>?_) (fun c=>?_)))
 ·simp only[sd,se] at c;refine A2 (As (A9 (Aw ?_)));obtain⟨x,hx⟩:=A6 (l:=tl) (i:=i) An;refine Aq O (A4 EV O O An (Fu hx) (Dg _)) (Aq O (BM DU O (Dg _)) (BF O (A7 EI O) fun b5=>Ar Ay 1 [0,0] O (Bt (fun k=>Nat.beq k 9) Dn (BR Ay 6 [2,0,0] O (BG O (fun _=>MX (rows':=List.map Dt x.vars) CY CY F8 O O (fun _ _ _ h=>Vx h) O (GG _) (by have:=h1.2.2.1 x (List.mem_of_getElem? hx);have:=this.1;simp only[DY] at this;simp only[List.length_map];omega)) Ap (BG O (fun _=>CO Up EI O) Ap (BG O (fun _=>Bl EV EI O O O O O) Ap (K5 [] O O (CR (i:=1) (rows':=List.map By [(CS.mk x.const x.vars)]) EV EV EI O O O O O O (Mo _) AJ (GP (f:=By) (tl.take i) [(CS.mk x.const x.vars)])) Aj fun o1 cp1=>⟨AB,Ap,?_⟩))))))));refine Bk Ay 2 [2,0] O (A3 (Ar Ay 2 [] O ?_));refine⟨⟨i+1,o1,cp1⟩,AW,by omega,BS ⟨we rfl,we rfl,we rfl,we rfl,we rfl,trivial⟩ (leH (is:=[1,2,3]) rfl (wl (Fl (f:=By) (tl.take i++[(CS.mk x.const x.vars)]) (by rw[List.take_add_one,hx];rfl)) (wl (Ys (aw (we rfl) (aw (we rfl) (aw (we rfl) (aw (we (Gb (f:=By) (tl.take i++[(CS.mk x.const x.vars)]) (by rw[List.take_add_one,hx];rfl))) (aw (we rfl) (E0))))))) (wl (oe rfl) (C2)))))⟩
 simp only[sd,se] at c;refine Be (Aw (B4 (DJ (i:=0) (j:=1) (q:=3) [] O O O (D5 Ap)) (Ar Ay 2 [0,1,0] O (BH (BW (i:=1) O) (A1 (⟨O,_,_,⟨_,_,O,(BA (i:=1) BZ O O O),O⟩,(List.nil_sublist _),?_⟩))))))
 all_goals exact⟨by show (.agg [.p (I tk),.p (I ti),.p (.str tn),.p (.lst (List.map By (tl.take i))),.p (.lst [])]:AV)=_;rw[show i=tl.length by omega,List.take_length];rfl,rfl⟩
theorem _root_.Go.AK {α:Prop}(h:α:=by simp only[BQ,List.length_append,List.length_replicate,hB.1];omega):α:=h
theorem Og:∀{σ:Type}(vis:σ→Tm→Int→Except Int ((Tm×Bool)×σ)) (HP:σ→List BK→Prop) (fid:Nat) (caps:List AV) (hv:∀(s:σ) (t:Tm) (d:Int) (T:List BK),Nd t→Vp t→0≤d→d<DY→HP s T→Bn Tryz.prog fid ([TV t,.p (I d)]++caps) T (Lm (fun(r:(Tm×Bool)×σ)=> .tup [TV r.1.1,.p (.bool r.1.2)]) (fun e=> .p (.iface 223 (I e))) (fun r=>HP r.2) (vis s t d))) (n:Nat) (t:Tm) (d:Int) (s:σ) (T0:List BK),size t≤n→Nd t→Vp t→0≤d→d+size t<DY→HP s T0→Bn Tryz.prog 158 [.agg [.fn (.func fid) [] caps],TV t,.p (I d)] T0 (Lm (fun(r:Tm×σ)=>TV r.1) (fun e=> .p (.iface 223 (I e))) (fun r=>HP r.2) (Dy vis t d s)):=by
 intro σ vis HP fid caps hv n
 induction n with
 | zero=>intro t d s T0 h1;exact absurd h1 (by have:=size_pos t;omega)
 | succ n ih =>
  intro t d s T0 h1 h2 h3 h4 h5 h6;simp only[DY] at h5;refine A5 Tryz.func158 O qj (n:=54) O O (Aw (BF O (BN O) fun b3=>BF O (BN O) fun b4=>BF O (A7 Bx O) fun b6=>Bg O (Aw (Ax Ay 4 [2,1] O (nO [_,_,_] O O O (.inr O) (hv s t d T0 h2 h3 h4 (by simp only[DY];have:=size_pos t;omega) h6) (DQ _) ?_ ?_)))))
  rotate_left
  ·intro e _ he;exact⟨O,_,List.nil_sublist _,⟨_,Hv he,O⟩⟩
  rintro⟨⟨z,dn⟩,q⟩ T hz hT;refine Ax Ay 3 [] O (BF O (A7 Bx O) fun b7=>Ar Ay 2 [0,1] O (As (Au Ay 1 [] O (Av O (fun c=>?_) (fun c=>?_)))))
  ·simp only[sd,se] at c;refine Au Ay 2 [0,1,1] O (A1 (⟨O,_,_,⟨_,_,O,(BA (i:=1) BZ O O Ag),O⟩,(G3 [] [_,_,_,_] O),?_⟩));exact⟨⟨z,q⟩,GF (by rw[hz,c]),O,hT⟩
  simp only[sd,se] at c;refine A2 (Aw (Aq O (Az HJ O O) ?_));obtain⟨zk,zi,zn,zl,zs⟩:=z;refine Ar Ay 1 [0,0] O (As (Aw (Aq O (Az HJ O O) ?_)));obtain⟨tk,ti,tn,tl,ts⟩:=t;simp only[size] at h1 h5;have hn2:=h2;simp only[Nd,DY] at hn2;refine Aq O (B7 (i:=2) Gn O O O) (Aq O (BJ Bf O (BQ _)) (Ar Ay 1 [] O (Av O (fun c1=>?_) (fun c1=>?_))))
  ·simp only[sd,se] at c1;refine Aw (Ax Ay 2 [2] O (Aq O (BJ Bf O (BQ _)) (Sa O O (Mc Bf Bx O O Am O O O An An An (qx (((ts.length:Nat):Int).toNat) (.mk 0 0 ⟨#[]⟩ [] []:Tm))) fun b29 cp=>Ar Ay 2 [1,0] O (Aw (Ax Ay 2 [3] O (Aq O (BJ Bf O (BQ _)) (Ar Ay 1 [] O (A9 ?_))))))));refine Bc (α:=Nat×List Tm×σ×List BK×Option Nat×Nat) (fun(i,ys,q1,U,o,cp1)=>⟨54,mk [(2,.p (I d)),(3,.ptr b3 0),(4,.ptr b4 0),(6,.ptr b6 0),(7,.ptr b7 0),(32,.p (.lst (BE ts))),(33,.p (I (ts.length:Nat))),(34,.p (I (i:Int)))],(.vec o 5 (BE (ys++List.replicate (ts.length - i) Bh)) cp1:: .box b7 [.p (I zk),.p (I zi),.p (.str zn),.p (.lst (List.map By zl)),.vs o (BE (ys++List.replicate (ts.length - i) Bh)).length cp1]:: .box b6 [.p (I 0),.p (I 0),.p (.str ⟨#[]⟩),.p (.nils),.p (.nils)]:: .box b4 [.p (I tk),.p (I ti),.p (.str tn),.p (.lst (List.map By tl)),.p (.lst (BE ts))]:: .box b3 [.fn (.func fid) [] caps]::U),[]⟩) (fun(i,ys,q1,U,o,cp1)=>ts.length - i) (fun(i,ys,q1,U,o,cp1)=>i≤ts.length∧(Ra vis tk ts d q i ys q1∧HP q1 U)) ⟨0,[],q,T,(some b29),cp⟩ (⟨by omega,Ra.zero _ _ _ _,hT⟩) ?_ ?_
   ·exact BS ⟨we O,we O,we O,we O,we O,we O,we O,we O,Ap⟩ (aW [0,1,2,3,4] [_,_,_,_,_] (l':=[_,_,_,_,_]) O (wl (oe O) (wl (oe O) (wl (oe O) (wl (oe O) (wl (oe O) (C2)))))))
   rintro⟨i,ys,q1,U,o,cp1⟩ hC
   try simp only at hC
   obtain⟨hi,hB,hU⟩:=hC;have hbl:=Cf tk i;refine Au Ay 1 [] O (As (Av O (fun c2=>?_) (fun c2=>?_)))
   ·simp only[sd,se] at c2;refine A2 (As (A9 (Aw (Br O ?_))));obtain⟨x,hx⟩:=A6 (l:=ts) (i:=i) An;refine Aq O (A4 Bf O O An (Bd hx) (BD _)) (Aq O (BM BZ O (BD _)) (BF O (A7 Bx O) fun b10=>Ar Ay 2 [0,1] O (MU (i:=1) O Aa fun b hb=>?_)));subst hb;refine Bt (fun k=>Nat.beq k 11) Dn (BR Ay 9 [2,5,0,4] O (BG O (fun _=>BC O O (fc tk (i:Int)) O) Ap (BR Ay 1 [] O (rS [_,_,_,_,_,_] O O O (.inl ⟨O,O,O⟩) (ih x (d+below tk i) q1 U (by have:=Cb hx;omega) (DX h2.2.2.2.2.1 hx) (Mj h3.2 hx) (by have:=(Cf tk i).1;omega) (by have:=Cb hx;have:=Cf tk i;simp only[DY];omega) hU) (DQ _) Aj Aj O AB ?_ ?_))))
    rotate_left
    ·intro e he _ _ hτ;exact⟨O,_,List.nil_sublist _,⟨_,Jy (by rw[hz,c]) (hB.err hx he),O⟩⟩
    rintro⟨y,q2⟩ T1 hz1 hT1;refine⟨AB,Ap,?_⟩;refine BG O (fun _=>C0 Bf O O An AK) Ap (GX O O (EH (i:=1) (j:=i) BZ O O O AK O (Ko _) (BD _) (FX _) (U9 (ys++List.replicate (ts.length - i) Bh) i y)) AB Ap (Je O Aj (A3 (Ar Ay 2 [] O (⟨⟨i+1,ys++[y],q2,T1,(some b),cp1⟩,AW,⟨by omega,⟨hB.succ hx hz1,hT1⟩⟩,BS ⟨we rfl,we rfl,we rfl,we rfl,we rfl,we rfl,we rfl,we rfl,trivial⟩ (aW [1,2,3,4,5] [_,_,_,_,_,_] (l':=[_,_,_,_,_]) rfl (wl (KK ((ys++List.replicate (ts.length - i) Bh).set i y) (by rw[fX hB.1 An];congr 2)) (wl (Ys (aw (we rfl) (aw (we rfl) (aw (we rfl) (aw (we rfl) (aw (we (DI (ys++List.replicate (ts.length - i) Bh) Ai)) (E0))))))) (wl (oe rfl) (wl (oe rfl) (wl (oe rfl) (C2)))))))⟩)))))
   simp only[sd,se] at c2;refine Be (Aw (B4 (DJ (i:=0) (j:=1) (q:=4) [] O O O (D5 Ap)) (Ar Ay 2 [0,1,0] O (A1 (⟨O,_,_,⟨_,_,O,(BA (i:=1) BZ O O O),O⟩,(G3 [] [_,_,_,_] O),?_⟩)))));rw[show ts.length - i=0 by omega,List.replicate_zero,List.append_nil];exact⟨⟨.mk zk zi zn zl ys,q1⟩,Iq (by rw[hz,c]) (hB.fin An),O,hU⟩
  simp only[sd,se] at c1;refine A2 (Au Ay 2 [0,1,0] O (BH (BW (i:=1) O) (A1 (⟨O,_,_,⟨_,_,O,(BA (i:=1) BZ O O O),O⟩,(G3 [] [_,_,_,_] O),?_⟩))));exact⟨⟨.mk zk zi zn zl [],q⟩,Iq (o:= .mk zk zi zn zl zs) (q:=q) (ys:=[]) (by rw[hz,c]) (by rw[show ts=[] by (cases ts with | nil=>rfl | cons a b=>simp at c1;omega)];rfl),O,hT⟩
theorem fE:∀(t:Tm),(Nd t)→Bn Tryz.prog 162 [.agg ((BP t).map .p)] [] (mh (fun p:Option Nat×Nat=> .agg [.p (I t.kind),.p (I t.index),.p (.str t.name),.vs p.1 (List.map By t.levels).length p.2,.p (.lst [])]) (fun p=>[.vec p.1 2 (List.map By t.levels) p.2])):=by
 intro t h1;obtain⟨tk,ti,tn,tl,ts⟩:=t;simp only[Nd,DY] at h1;refine A5 Tryz.func162 O nE (n:=33) O O (Aw (BF O (BN O) fun b1=>BF O (A7 Bx O) fun b2=>Bg O (Aw (Ax Ay 7 [1,1,1] O (BF O (A7 Bx O) fun b3=>Ar Ay 1 [0,0] O (As (Aw (B4 (IA (i:=0) O (Ys (aw (we O) (aw (we O) (aw (we O) (aw (JM) (aw (we O) (E0)))))))) (B4 (H6 (sz:=2)) (Ax Ay 2 [3] O (Aq O (BJ EV O (List.length_map _)) (Ar Ay 1 [] O (A9 ?_)))))))))))));refine Bc (α:=Nat×Option Nat×Nat) (fun(i,o,cp)=>⟨33,mk [(2,.ptr b2 0),(3,.ptr b3 0),(14,.p (.lst (List.map By tl))),(15,.p (I (tl.length:Nat))),(16,.p (I (i:Int)))],[.vec o 2 (List.map By (tl.take i)) cp,.box b3 [.p (I tk),.p (I ti),.p (.str tn),.vs o (List.map By (tl.take i)).length cp,.p (.nils)],.box b2 [.p (I 0),.p (I 0),.p (.str ⟨#[]⟩),.p (.nils),.p (.nils)]],[]⟩) (fun(i,o,cp)=>tl.length - i) (fun(i,o,cp)=>i≤tl.length) ⟨0,none,0⟩ AQ ?_ ?_
 ·exact BS ⟨we O,we O,we O,we O,we O,Ap⟩ (leH (is:=[0,1,2]) O (wl (oe O) (wl (oe O) (wl (oe O) (C2)))))
 rintro⟨i,o,cp⟩ hC
 try simp only at hC
 have hi:=hC;refine Au Ay 1 [] O (As (Av O (fun c=>?_) (fun c=>?_)))
 ·simp only[sd,se] at c;refine A2 (As (A9 (Aw ?_)));obtain⟨x,hx⟩:=A6 (l:=tl) (i:=i) An;refine Aq O (A4 EV O O An (Fu hx) (Dg _)) (Aq O (BM DU O (Dg _)) (BF O (A7 EI O) fun b5=>Ar Ay 1 [0,0] O (Bt (fun k=>Nat.beq k 9) Dn (BR Ay 6 [2,0,0] O (BG O (fun _=>MX (rows':=List.map Dt x.vars) CY CY F8 O O (fun _ _ _ h=>Vx h) O (GG _) (by have:=h1.2.2.1 x (List.mem_of_getElem? hx);have:=this.1;simp only[DY] at this;simp only[List.length_map];omega)) Ap (BG O (fun _=>CO Up EI O) Ap (BG O (fun _=>Bl EV EI O O O O O) Ap (K5 [] O O (CR (i:=1) (rows':=List.map By [(CS.mk x.const x.vars)]) EV EV EI O O O O O O (Mo _) AJ (GP (f:=By) (tl.take i) [(CS.mk x.const x.vars)])) Aj fun o1 cp1=>⟨AB,Ap,?_⟩))))))));refine Bk Ay 2 [2,0] O (A3 (Ar Ay 2 [] O ?_));refine⟨⟨i+1,o1,cp1⟩,AW,by omega,BS ⟨we rfl,we rfl,we rfl,we rfl,we rfl,trivial⟩ (leH (is:=[1,2,3]) rfl (wl (Fl (f:=By) (tl.take i++[(CS.mk x.const x.vars)]) (by rw[List.take_add_one,hx];rfl)) (wl (Ys (aw (we rfl) (aw (we rfl) (aw (we rfl) (aw (we (Gb (f:=By) (tl.take i++[(CS.mk x.const x.vars)]) (by rw[List.take_add_one,hx];rfl))) (aw (we rfl) (E0))))))) (wl (oe rfl) (C2)))))⟩
 simp only[sd,se] at c;refine Be (Au Ay 2 [1,2,0] O (BH (BW (i:=2) O) (A1 (⟨O,_,_,⟨_,_,O,(BA (i:=2) BZ O O O),O⟩,(B8 (is:=[0]) O),?_⟩))));have htk:tl.take i=tl:=List.take_of_length_le An;exact⟨(o,cp),by rw[htk];simp[Tm.kind,Tm.index,Tm.name,Tm.levels,splice,dn],by rw[htk];rfl⟩
theorem fY:∀(tk ti:Int) (tn:ByteArray) (tl:List CS) (ts:List Tm),Nd (.mk tk ti tn tl ts)→Bn Tryz.prog 162 [TV (.mk tk ti tn tl ts)] [] (mh (fun p:Option Nat×Nat=> .agg [.p (I tk),.p (I ti),.p (.str tn),.vs p.1 (List.map By tl).length p.2,.p (.lst [])]) (fun p=>[.vec p.1 2 (List.map By tl) p.2])):=fun tk ti tn tl ts h=>fE _ h
theorem p6:∀(l:CS) (ps:List CS),(Nj l)→(ps.length<DY)→(∀p∈ps,Nj p)→ET Tryz.prog 165 [.agg ((By l).map .p),.ref [.lst (List.map By ps)]] (.tup [.agg ((By ((Cu l ps).1)).map .p),.p (I ((Cu l ps).2))]):=by
 intro l ps h1 h2 h3;refine A5 Tryz.func165 O uH (n:=10) O O (Aw (BF O (BN O) fun b2=>BF O (A7 EI O) fun b3=>Ar Ay 1 [] O (Aw (Ax Ay 2 [1] O (Aq O (BC O O (dK l ps h1 h2 h3) O) (Ar Ay 4 [0,1] O (A1 (⟨O,_,_,⟨_,_,O,(BA (i:=0) DU O O Ae),⟨_,_,O,O,O⟩⟩,(List.nil_sublist _),?_⟩))))))))
 all_goals exact⟨by show (.tup [.agg ((By ((Is l ps).1)).map .p),.p (I ((Is l ps).2))]:AV)=_;rw[eO],rfl⟩
theorem pX:∀(bR:Nat) (ps:List CS) (s:Unit) (t:Tm) (d:Int),(Nd t)→(ps.length<DY)→(∀p∈ps,Nj p)→Bn Tryz.prog 179 [.agg ((BP t).map .p),.p (I d),.ptr bR 0] [.box bR [.fn (.func 165) [] [.ref [.lst (List.map By ps)]]]] (Lm (fun(r:(Tm×Bool)×Unit)=> .tup [TV r.1.1,.p (.bool r.1.2)]) (fun e=> .p (.iface 223 (I e))) (fun r H'=>H'=[.box bR [.fn (.func 165) [] [.ref [.lst (List.map By ps)]]]]) (Wa ps s t d)):=by
 intro bR ps s t d h1 h2 h3;obtain⟨tk,ti,tn,tl,ts⟩:=t;have hn:=h1;simp only[Nd,DY] at hn;refine A5 Tryz.func179 O rk (n:=39) O O (Aw (BF O (BN O) fun b3=>BF O (A7 Bx O) fun b5=>Ar Ay 1 [] O (Aw (Aq O (BU (i:=1) BZ O O O) (bZ O O O (.inl ⟨O,O,O⟩) (fY tk ti tn tl ts h1) (DQ _) fun vv=>?_)))));obtain⟨ov,cv⟩:=vv;refine BF O (A7 Bx O) fun b7=>Ar Ay 1 [0,0] O (As (Aw (Ax Ay 2 [3] O (Aq O (BJ EV O (List.length_map _)) (Ar Ay 1 [] O (A9 ?_))))));refine Bc (α:=Nat×List CS×Option Nat×Nat) (fun(i,ys,o,cp)=>⟨39,mk [(2,.ptr bR 0),(5,.ptr b5 0),(7,.ptr b7 0),(15,.p (.lst (List.map By tl))),(16,.p (I (tl.length:Nat))),(17,.p (I (i:Int)))],[.box b7 [.p (I tk),.p (I ti),.p (.str tn),.vs o (List.map By (ys++tl.drop i)).length cp,.p (.lst (BE []))],.vec o 2 (List.map By (ys++tl.drop i)) cp,.box b5 [.p (I 0),.p (I 0),.p (.str ⟨#[]⟩),.p (.nils),.p (.nils)],.box bR [.fn (.func 165) [] [.ref [.lst (List.map By ps)]]]],[]⟩) (fun(i,ys,o,cp)=>tl.length - i) (fun(i,ys,o,cp)=>i≤tl.length∧(ys.length=i∧I4 ps tl=OZ ys (I4 ps (tl.drop i)))) ⟨0,[],ov,cv⟩ (⟨by omega,rfl,eR _⟩) ?_ ?_
 ·exact BS ⟨we O,we O,we O,we O,we O,we O,Ap⟩ (leH (is:=[0,1,2,4]) O (wl (oe O) (wl (oe O) (wl (oe O) (wl (oe O) (C2))))))
 rintro⟨i,ys,o,cp⟩ hC
 try simp only at hC
 obtain⟨hi,hl,hC⟩:=hC;refine Au Ay 1 [] O (As (Av O (fun c=>?_) (fun c=>?_)))
 ·simp only[sd,se] at c;refine A2 (As (A9 (Aw (Br O ?_))));obtain⟨x,hx⟩:=A6 (l:=tl) (i:=i) An;refine Aq O (A4 EV O O An (Fu hx) (Dg _)) (Aq O (BM DU O (Dg _)) (BF O (A7 EI O) fun b9=>Ar Ay 2 [0,1] O (Aw (Ax Ay 2 [4,0] O (Aq O (lX O O (p6 x ps (hn.2.2.1 _ (List.mem_of_getElem? hx)) h2 h3) (.inl O)) (Ax Ay 3 [] O (BF O (A7 EI O) fun b10=>Ar Ay 2 [0,1] O (As (Au Ay 2 [] O (Av O (fun c1=>?_) (fun c1=>?_)))))))))))
  ·simp only[sd,se] at c1;exact A3 (Br O (PF O O O (.inl ⟨O,O,O⟩) (Q6 ((Cu x ps).2)) (aw (we O) (E0)) (⟨O,_,List.nil_sublist _,⟨_,mN (hC.trans (od hx An)),O⟩⟩)))
  simp only[sd,se] at c1;refine A2 (A3 (Ax Ay 4 [2,0] O (M8 (i:=3) O Aa fun b hb=>?_)));subst hb;refine Aq O (C0 EV O O An (by first | omega | (simp;omega))) (Aq O (EH (i:=3) (j:=i) DU O O O (by first | omega | (simp;omega)) O (dr _) (Dg _) (kz _) (gf (f:=By) (ys++tl.drop i) i ((Cu x ps).1))) (Bg O (A3 (Ar Ay 2 [] O (⟨⟨i+1,ys++[(Cu x ps).1],(some b),cp⟩,AW,⟨by omega,⟨by simp[hl],hC.trans (oZ hx An)⟩⟩,BS ⟨we rfl,we rfl,we rfl,we rfl,we rfl,we rfl,trivial⟩ (leH (is:=[2,3,4,5]) rfl (wl (Ys (aw (we rfl) (aw (we rfl) (aw (we rfl) (aw (we (Tz (f:=By) (ys++tl.drop i) Ai)) (aw (we rfl) (E0))))))) (wl (Fl (f:=By) ((ys++tl.drop i).set i ((Cu x ps).1)) (by rw[set_drop hl hx])) (wl (oe rfl) (wl (oe rfl) (C2))))))⟩)))))
 simp only[sd,se] at c;refine Be (Aw (B4 (DJ (i:=1) (j:=0) (q:=3) [] O O O (D5 Ap)) (Ar Ay 3 [0,1,0] O (A1 (⟨O,_,_,⟨_,_,O,(BA (i:=1) BZ O O O),⟨_,_,O,O,O⟩⟩,(B8 (is:=[2]) O),?_⟩)))));rw[List.drop_eq_nil_of_le An,List.append_nil];exact⟨⟨⟨.mk tk ti tn ys [],false⟩,()⟩,oR (pG hC An),O,O⟩
theorem lP:∀(bo be:Nat) (co ce:List AV),Eb Tryz.prog 178 [.ptr bo 0,.ptr be 0] (.ret) [.box bo co,.box be ce] (fun H'=>H'=[.box bo co,.box be ce]):=by
 intro bo be co ce;refine IB (ty2:=0) Tryz.func178 O nh (n:=9) O O O O O O (Aw (Br O (Aq O (HN e6 O O O) (Bg O ?_))));refine Av O (fun c=>by cases c) (fun c=>?_);exact A2 ⟨.inl O,O,_,(B8 (is:=[0,1]) O),O⟩
theorem mj:∀(bo be:Nat) (e:Int),Eb Tryz.prog 178 [.ptr bo 0,.ptr be 0] (.pan (.p (.iface 223 (I e)))) [.box bo [.p (I 0),.p (I 0),.p (.str ⟨#[]⟩),.p (.nils),.p (.nils)],.box be [.p (I 0)]] (fun H'=>H'=[.box bo [.p (I 0),.p (I 0),.p (.str ⟨#[]⟩),.p (.lst []),.p (.lst [])],.box be [.p (I e)]]):=by
 intro bo be e;refine IB (ty2:=0) Tryz.func178 O nh (n:=9) O O O O O O (Aw (Br O (Aq O (HN e6 O O O) (B4 (BW (i:=0) O) (Bg O ?_)))));refine Av O (fun c=>?_) (fun c=>by cases c);exact A3 (Ax Ay 2 [] O (Aq O (BC O O (U7 _) O) (Ax Ay 2 [0,0,1,0] O (B4 (BW (i:=0) O) (Bg O ⟨.inl O,O,_,(B8 (is:=[0,1]) O),O⟩)))))
set_option maxHeartbeats 2000000 in
theorem Zl:∀(t:Tm) (ps:List CS),(Nd t)→(Vp t)→(size t<1099511627776)→(ps.length<DY)→(∀p∈ps,Nj p)→ET Tryz.prog 164 [.agg ((BP t).map .p),.fn (.func 165) [] [.ref [.lst (List.map By ps)]]] (.tup [.agg ((BP ((BY t ps).1)).map .p),.p (I ((BY t ps).2))]):=by
 intro t ps h1 h2 h3 h4 h5;refine FW Tryz.func164 O qe (n:=11) O O (Aw (BF O (BN O) fun b2=>BF O (BN O) fun b3=>BF O (A7 Bx O) fun b4=>BF O (A7 j8 O) fun b5=>Bg O (Aw (Aq O (Ej O O) (OW O O O O (Bg O (Aw (Ax Ay 3 [3] O ?_))))))));refine Dm [2] O O O (.inl ⟨O,O,O⟩) (Og (Wa ps) (fun _ T=>T=[.box b3 [.fn (.func 165) [] [.ref [.lst (List.map By ps)]]]]) 179 [.ptr b3 0] (fun s t d T hn hp h0 hb hT=>by subst hT;exact pX b3 ps s t d hn h4 h5) _ t 0 () _ (Nat.le_refl _) h1 h2 An Ab rfl) ⟨_,_,rfl,rfl,rfl⟩ Am (DQ _) (fun _ _ h=>(congrArg List.length h).trans rfl) ?_ ?_
 rotate_left
 ·intro e _ he;refine⟨_,_,_,O,Mx (is:=[1,0]) _ Am ⟨_,_,O,O,⟨_,_,O,O,O⟩⟩,Eb.eq (mj b4 b5 _) ?_⟩;refine⟨_,[],⟨_,_,O,(BA (i:=0) BZ O O O),⟨_,_,O,(Gu (i:=1) Tu O O),O⟩⟩,(List.nil_sublist _),?_⟩;rw[Xd ((Pe t 0).symm.trans he)];exact⟨O,O⟩
 rintro⟨z,_⟩ _ hz rfl;refine Ar Ay 2 [1,1,0,0] O (A1 (⟨_,_,_,O,DO (is:=[1,0]) Am ⟨_,_,O,O,⟨_,_,O,O,O⟩⟩,Eb.eq (lP b4 b5 _ _) ?_⟩));refine⟨_,_,⟨_,_,O,(BA (i:=0) BZ O O Ag),⟨_,_,O,(Gu (i:=1) Tu O O),O⟩⟩,(List.nil_sublist _),?_⟩;rw[Zs ((Pe t 0).symm.trans hz)]
 all_goals exact⟨rfl,rfl⟩
theorem Mt:∀(t:Tm) (ps:List CS),(Nd t)→(Vp t)→(size t<1099511627776)→(ps.length<DY)→(∀p∈ps,Nj p)→ET Tryz.prog 138 [.agg ((BP t).map .p),.p (.lst (List.map By ps))] (.tup [.agg ((BP ((BY t ps).1)).map .p),.p (I ((BY t ps).2))]):=by
 intro t ps h1 h2 h3 h4 h5;refine A5 Tryz.func138 O sj (n:=11) O O (Aw (BF O (BN O) fun b2=>BF O (BN O) fun b3=>BF O (A7 Bx O) fun b4=>Ar Ay 1 [] O (Aw (B4 (P9 (i:=1) (cs:=[.lst (List.map By ps)]) [3] O (D5 ⟨O,Ap⟩)) (Ax Ay 2 [1] O (Aq O (BC O O (Zl t ps h1 h2 h3 h4 h5) O) (Ar Ay 4 [0,1] O (A1 (⟨O,_,_,⟨_,_,O,(BA (i:=0) BZ O O Ag),⟨_,_,O,O,O⟩⟩,(List.nil_sublist _),?_⟩)))))))))
 all_goals exact⟨rfl,rfl⟩
theorem YW:∀(t:Tm),(Nd t)→(size t<1000000)→ET Tryz.prog 115 [.agg ((BP t).map .p)] (.tup [.p (.lst (BE ((HB t).1))),.agg ((BP ((HB t).2)).map .p)]):=by
 intro t h1 h2;refine A5 Tryz.func115 O rK (n:=27) O O (Aw (BF O (BN O) fun b1=>bA O (BF O (A7 Bx O) fun b3=>Bg O (Au Ay 1 [] O (As (A9 (BH (EN (t:=4) (sz:=5) O) ?_)))))));refine Bc (α:=Tm×List Tm×Option Nat×Nat) (fun(y,l,o,cp)=>⟨27,mk [(1,.ptr b1 0),(3,.ptr b3 0),(4,.vs o (BE l).length cp)],[.vec o 5 (BE l) cp,.box b3 [.p (I 0),.p (I 0),.p (.str ⟨#[]⟩),.p (.nils),.p (.nils)],.box b1 ((BP y).map .p)],[]⟩) (fun(y,l,o,cp)=>size y) (fun(y,l,o,cp)=>Nd y∧l.length+size y≤size t∧(l++(HB y).1,(HB y).2)=HB t) ⟨t,[],none,0⟩ (⟨h1,by simp,by simp⟩) ?_ ?_
 ·exact BS ⟨we O,we O,we O,Ap⟩ (leH (is:=[0,1,2]) O (wl (oe O) (wl (oe O) (wl (oe O) (C2)))))
 rintro⟨y,l,o,cp⟩ hC
 try simp only at hC
 have hl0:l.length<1000000:=by have:=hC.2.1;omega
 refine As (As ?_);obtain⟨yk,yi,yn,yl,ys⟩:=y;refine BT [1,3,4] 13 (fun y=>y= .p (.bool (((yk:Int)==(6:Int))&&(((ys.length:Nat):Int)==(2:Int))))) ?_ ?_
 ·refine A3 (Ax Ay 4 [2] O (BO 8 O (fun g=>?_) (fun g=>?_)))
  ·simp only[sd,se] at g;exact Ax Ay 2 [2] O (BB O (BJ Bf O (BQ _)) (Ar Ay 2 [] O (⟨O,O,AM,AI,⟨O,O,O,Ap⟩⟩)))
  simp only[sd,se] at g;exact Ar Ay 5 [] O (⟨O,O,AM,AI,⟨O,O,O,Ap⟩⟩)
 rintro _ rfl;refine Av O (fun c=>?_) (fun c=>?_)
 ·simp only[sd,se] at c;refine A2 (A9 (Aw (Ax Ay 3 [2] O ?_)));obtain⟨x,hx⟩:=A6 (l:=ys) (i:=0) (by first | omega | (simp at c;omega));refine Aq O (A4 Bf O O An (Bd hx) (BD _)) (Aq O (BM BZ O (BD _)) ?_);obtain⟨xk,xi,xn,xl,xs⟩:=x;refine Aq O (Bl Bf Bx O O O O O) (FP O O (CR (i:=0) (rows':=BE [(.mk xk xi xn xl xs:Tm)]) Bf Bf Bx O O O O O O (Bv _) AD (Kc l [(.mk xk xi xn xl xs:Tm)])) fun o1 cp1=>Ar Ay 1 [] O (A3 (Ax Ay 2 [2] O ?_)));obtain⟨x1,hx1⟩:=A6 (l:=ys) (i:=1) (by first | omega | (simp at c;omega));refine Aq O (A4 Bf O O An (Bd hx1) (BD _)) (Ar Ay 2 [2,1] O ?_);refine⟨⟨x1,l++[(.mk xk xi xn xl xs:Tm)],o1,cp1⟩,(by have:=Cb hx1;simp only[size];omega),⟨DX hC.1.2.2.2.2.1 hx1,by have:=Cb hx1;have:=hC.2.1;simp only[size] at *;simp only[List.length_append,List.length_cons,List.length_nil];omega,Uz c hx hx1 hC.2.2⟩,BS ⟨we rfl,we rfl,we rfl,trivial⟩ (leH (is:=[0,1,2]) rfl (wl (oe rfl) (wl (oe rfl) (wl (oe rfl) (C2)))))⟩
 simp only[sd,se] at c;refine Be (As (Bt (fun k=>false) Dn (Bk Ay 4 [2,1,0] O (BH (Ck (i:=0) [4,25,2] O (D5 ⟨O,O,O,Ap⟩)) (A1 (⟨O,_,_,⟨_,_,O,O,⟨_,_,O,(BA (i:=0) BZ O O O),O⟩⟩,(List.nil_sublist _),?_⟩))))))
 all_goals exact⟨by show (.tup [.p (.lst (BE l)),.agg [.p (I yk),.p (I yi),.p (.str yn),.p (.lst (List.map By yl)),.p (.lst (BE ys))]]:AV)=_;rw[Xr An hC.2.2];rfl,rfl⟩
theorem cO:∀(t:Tm),(Nd t)→(size t<1000000)→ET Tryz.prog 117 [.agg ((BP t).map .p)] (.tup [.p (.lst (BE ((HB t).1))),.agg ((BP ((HB t).2)).map .p)]):=by
 intro t h1 h2;refine A5 Tryz.func117 O r5 (n:=27) O O (Aw (BF O (BN O) fun b1=>bA O (BF O (A7 Bx O) fun b3=>Bg O (Au Ay 1 [] O (As (A9 (BH (EN (t:=4) (sz:=5) O) ?_)))))));refine Bc (α:=Tm×List Tm×Option Nat×Nat) (fun(y,l,o,cp)=>⟨27,mk [(1,.ptr b1 0),(3,.ptr b3 0),(4,.vs o (BE l).length cp)],[.vec o 5 (BE l) cp,.box b3 [.p (I 0),.p (I 0),.p (.str ⟨#[]⟩),.p (.nils),.p (.nils)],.box b1 ((BP y).map .p)],[]⟩) (fun(y,l,o,cp)=>size y) (fun(y,l,o,cp)=>Nd y∧l.length+size y≤size t∧(l++(HB y).1,(HB y).2)=HB t) ⟨t,[],none,0⟩ (⟨h1,by simp,by simp⟩) ?_ ?_
 ·exact BS ⟨we O,we O,we O,Ap⟩ (leH (is:=[0,1,2]) O (wl (oe O) (wl (oe O) (wl (oe O) (C2)))))
 rintro⟨y,l,o,cp⟩ hC
 try simp only at hC
 have hl0:l.length<1000000:=by have:=hC.2.1;omega
 refine As (As ?_);obtain⟨yk,yi,yn,yl,ys⟩:=y;refine BT [1,3,4] 13 (fun y=>y= .p (.bool (((yk:Int)==(6:Int))&&(((ys.length:Nat):Int)==(2:Int))))) ?_ ?_
 ·refine A3 (Ax Ay 4 [2] O (BO 8 O (fun g=>?_) (fun g=>?_)))
  ·simp only[sd,se] at g;exact Ax Ay 2 [2] O (BB O (BJ Bf O (BQ _)) (Ar Ay 2 [] O (⟨O,O,AM,AI,⟨O,O,O,Ap⟩⟩)))
  simp only[sd,se] at g;exact Ar Ay 5 [] O (⟨O,O,AM,AI,⟨O,O,O,Ap⟩⟩)
 rintro _ rfl;refine Av O (fun c=>?_) (fun c=>?_)
 ·simp only[sd,se] at c;refine A2 (A9 (Aw (Ax Ay 3 [2] O ?_)));obtain⟨x,hx⟩:=A6 (l:=ys) (i:=0) (by first | omega | (simp at c;omega));refine Aq O (A4 Bf O O An (Bd hx) (BD _)) (Aq O (BM BZ O (BD _)) ?_);obtain⟨xk,xi,xn,xl,xs⟩:=x;refine Aq O (Bl Bf Bx O O O O O) (FP O O (CR (i:=0) (rows':=BE [(.mk xk xi xn xl xs:Tm)]) Bf Bf Bx O O O O O O (Bv _) AD (Kc l [(.mk xk xi xn xl xs:Tm)])) fun o1 cp1=>Ar Ay 1 [] O (A3 (Ax Ay 2 [2] O ?_)));obtain⟨x1,hx1⟩:=A6 (l:=ys) (i:=1) (by first | omega | (simp at c;omega));refine Aq O (A4 Bf O O An (Bd hx1) (BD _)) (Ar Ay 2 [2,1] O ?_);refine⟨⟨x1,l++[(.mk xk xi xn xl xs:Tm)],o1,cp1⟩,(by have:=Cb hx1;simp only[size];omega),⟨DX hC.1.2.2.2.2.1 hx1,by have:=Cb hx1;have:=hC.2.1;simp only[size] at *;simp only[List.length_append,List.length_cons,List.length_nil];omega,Uz c hx hx1 hC.2.2⟩,BS ⟨we rfl,we rfl,we rfl,trivial⟩ (leH (is:=[0,1,2]) rfl (wl (oe rfl) (wl (oe rfl) (wl (oe rfl) (C2)))))⟩
 simp only[sd,se] at c;refine Be (As (Bt (fun k=>false) Dn (Bk Ay 4 [2,1,0] O (BH (Ck (i:=0) [4,25,2] O (D5 ⟨O,O,O,Ap⟩)) (A1 (⟨O,_,_,⟨_,_,O,O,⟨_,_,O,(BA (i:=0) BZ O O O),O⟩⟩,(List.nil_sublist _),?_⟩))))))
 all_goals exact⟨by show (.tup [.p (.lst (BE l)),.agg [.p (I yk),.p (I yi),.p (.str yn),.p (.lst (List.map By yl)),.p (.lst (BE ys))]]:AV)=_;rw[Xr An hC.2.2];rfl,rfl⟩
theorem Uu:∀(d:B5) (k:Int),(Ox d)→(0≤d.fixed∧d.fixed≤1000000)→(0≤k)→(k<d.ctors.length)→ET Tryz.prog 85 [.agg ((Bi d).map .p),.p (I k)] (.p (I (C7 d k))):=by
 intro d k h1 h2 h3 h4;have hcl:=h1.cl;refine A5 Tryz.func85 O vc (n:=23) O O (Aw (BF O (BN O) fun b2=>Ar Ay 1 [] O (Aw (Aq O (Az C5 O O) (Aq O (A0 (i:=0) H4 O O (CC _)) (Br O ?_))))));obtain⟨x,hx⟩:=A6 (l:=d.ctors) (i:=(k:Int).toNat) An;have hct:=h1.cs _ (List.mem_of_getElem? hx);have htl:=IX x.type;have hsz:=hct.ty.sz;refine Aq O (A4 Hc O O An (Em hx) (EE _)) (Aq O (B1 Jh O O) (Aq O (DP BZ O (Fi _) (BD _)) (Aq O (BC O O (YW x.type hct.ty.nd hct.ty.sz) O) (Ax Ay 3 [] O (BF O (A7 Bx O) fun b6=>Ar Ay 2 [0,1] O (Aw (Br O (Aq O (BJ Bf O (BQ _)) (Aq O (Az C5 O O) (Aq O (A0 (i:=1) DM O O (Cr _)) (Aq O (M1 O O An An) (Aq O (FI O O) (Ar Ay 1 [] O (A1 (⟨O,_,_,⟨_,_,O,O,O⟩,(List.nil_sublist _),?_⟩)))))))))))))))
 all_goals exact⟨pI (by unfold C7 Ze Df;rw[B6 hx]),rfl⟩
theorem YH:∀(d:B5),(Ox d)→(0≤d.fixed∧d.fixed≤1000000)→ET Tryz.prog 83 [.agg ((Bi d).map .p)] (.p (I (Gt d))):=by
 intro d h1 h2;have htl:=IX d.type;have hsz:=h1.ty.sz;refine A5 Tryz.func83 O vQ (n:=17) O O (Aw (BF O (BN O) fun b1=>Ar Ay 1 [] O (Aw (Aq O (Az C5 O O) (Aq O (Bw (i:=0) BZ O O (E3 _) (BD _)) (Aq O (BC O O (YW d.type h1.ty.nd h1.ty.sz) O) (Ax Ay 3 [] O (BF O (A7 Bx O) fun b4=>Ar Ay 2 [0,1] O (Aw (Br O (Aq O (BJ Bf O (BQ _)) (Aq O (Az C5 O O) (Aq O (A0 (i:=1) DM O O (Cr _)) (Aq O (M1 O O An An) (Aq O (FI O O) (Ar Ay 1 [] O (A1 (⟨O,_,_,⟨_,_,O,O,O⟩,(List.nil_sublist _),?_⟩))))))))))))))))))
 all_goals exact⟨pI rfl,rfl⟩
theorem Rr:∀(d:B5),(Ox d)→(0≤d.fixed∧d.fixed≤1000000)→ET Tryz.prog 48 [.agg ((Bi d).map .p)] (.p (I (CB d))):=by
 intro d h1 h2;have hir:=Fa h1 h2;have hcl:=h1.cl;refine A5 Tryz.func48 O vz (n:=13) O O (Aw (BF O (BN O) fun b1=>Ar Ay 1 [] O (As (Bt (fun k=>false) Dn (BG O (fun _=>Az C5 O O) Ap (CV (j:=0) O O O (fun H i hi=>A0 (i:=i) DM O hi (Cr _)) AB Ap (BR Ay 2 [] O (CV (j:=0) O O O (fun H i hi=>A0 (i:=i) H4 O hi (CC _)) AB Ap (BG O (fun _=>BJ Hc O (List.length_map _)) Ap (BR Ay 2 [0] O (BG O (fun _=>BC O O (YH d h1 h2) O) Ap (Bk Ay 2 [] O (A1 (⟨O,_,_,⟨_,_,O,O,O⟩,(List.nil_sublist _),?_⟩))))))))))))))
 all_goals exact⟨pI rfl,rfl⟩
theorem OB:∀(d:B5),(Ox d)→(0≤d.fixed∧d.fixed≤1000000)→ET Tryz.prog 90 [.agg ((Bi d).map .p)] (.p (I (CB d))):=by
 intro d h1 h2;have hir:=Fa h1 h2;have hcl:=h1.cl;have htl:=IX d.type;have hsz:=h1.ty.sz;refine A5 Tryz.func90 O vL (n:=25) O O (Aw (BF O (BN O) fun b1=>Ar Ay 1 [] O (Aw (Aq O (Az C5 O O) (Aq O (Bw (i:=0) BZ O O (E3 _) (BD _)) (Aq O (BC O O (cO d.type h1.ty.nd h1.ty.sz) O) (Ax Ay 3 [] O (BF O (A7 Bx O) fun b4=>Ar Ay 2 [0,1] O (Aw (Aq O (Az C5 O O) (Aq O (A0 (i:=1) DM O O (Cr _)) (Ax Ay 2 [] O (Aq O (A0 (i:=1) H4 O O (CC _)) (Aq O (BJ Hc O (List.length_map _)) (Ax Ay 2 [] O (Aq O (BJ Bf O (BQ _)) (Aq O (Az C5 O O) (Aq O (A0 (i:=1) DM O O (Cr _)) (Aq O (M1 O O An An) (Aq O (FI O O) (Ar Ay 2 [] O (A1 ?_))))))))))))))))))))));refine⟨O,_,_,⟨_,_,O,O,O⟩,(List.nil_sublist _),?_⟩
 all_goals exact⟨pI rfl,rfl⟩
theorem VP:∀(l:List Tm),(l.length<DY)→ET Tryz.prog 63 [.p (.lst (BE l))] (.p (.lst (BE l.reverse))):=by
 intro l h1;simp only[DY] at h1;refine A5 Tryz.func63 O uc (n:=20) O O (Au Ay 1 [] O (Au Ay 1 [] O (As (Aw (Br O (Aq O (BJ Bf O (BQ _)) (Ar Ay 2 [] O (A9 (BH (EN (t:=3) (sz:=5) O) (Bc (α:=Nat×Option Nat×Nat) (fun(m,o,cp)=>⟨20,mk [(0,.p (.lst (BE l))),(3,.vs o (BE ((l.drop m).reverse)).length cp),(4,.p (I ((m:Int) - 1)))],[.vec o 5 (BE ((l.drop m).reverse)) cp],[]⟩) (fun(m,o,cp)=>m) (fun(m,o,cp)=>m≤l.length) ⟨l.length,none,0⟩ AQ ?_ ?_))))))))))
 ·exact BS ⟨we O,we (Mb [] Ao),we (pI An),Ap⟩ (leH (is:=[0]) O (wl (KK [] Ao) (C2)))
 rintro⟨m,o,cp⟩ hC
 try simp only at hC
 refine As (Au Ay 2 [] O (Av O (fun c=>?_) (fun c=>?_)))
 ·simp only[sd,se] at c;refine A2 (As (A9 (A3 (Ax Ay 3 [] O ?_))));obtain⟨x,hx⟩:=A6 (l:=l) (i:=((m:Int) - 1:Int).toNat) An;refine Aq O (A4 Bf O O An (Bd hx) (BD _)) (Aq O (BM BZ O (BD _)) ?_);obtain⟨xk,xi,xn,xl,xs⟩:=x;refine Aq O (Bl Bf Bx O O O O O) (FP O O (CR (i:=0) (rows':=BE [(.mk xk xi xn xl xs:Tm)]) Bf Bf Bx O O O O O O (Bv _) (by simp only[BQ,List.length_reverse,List.length_drop,List.length_cons,List.length_nil];omega) (Kc ((l.drop m).reverse) [(.mk xk xi xn xl xs:Tm)])) fun o1 cp1=>Ar Ay 1 [] O (A3 (Ar Ay 3 [] O ?_)));refine⟨⟨m - 1,o1,cp1⟩,AW,by first | trivial | omega | (simp only;omega) | (simp;omega),BS ⟨we rfl,we (Mb ((l.drop m).reverse++[(.mk xk xi xn xl xs:Tm)]) (Yf (by simpa using hx) An)),we (pI An),trivial⟩ (leH (is:=[0]) rfl (wl (KK ((l.drop m).reverse++[(.mk xk xi xn xl xs:Tm)]) (Yf (by simpa using hx) An)) (C2)))⟩
 simp only[sd,se] at c;refine Be (Au Ay 2 [] O (BH (Ck (i:=0) [3,19,2] O (D5 ⟨O,O,O,Ap⟩)) (A1 (⟨O,_,_,⟨_,_,O,O,O⟩,(List.nil_sublist _),?_⟩))))
 all_goals exact⟨by show (.p (.lst (BE ((l.drop m).reverse))):AV)=_;rw[show m=0 by omega,List.drop_zero],rfl⟩
theorem Zu:∀(ds:List B5) (h:Tm),(Hg ds)→ET Tryz.prog 47 [.p (.lst (List.map Bi ds)),.agg ((BP h).map .p)] (.tup [.agg ((DS ((Bb ds h.name).1)).map .p),.p (.bool (Tl ds h))]):=by
 intro ds h h1;obtain⟨hk,hi,hn,hl,hs⟩:=h;refine A5 Tryz.func47 O wJ (n:=26) O O (Aw (BF O (BN O) fun b3=>BF O (A7 IK O) fun b4=>Ar Ay 1 [] O (Aw (Ax Ay 3 [1] O (Aq O (BC O O (MP ds hn h1) O) (Ax Ay 3 [] O (BF O (A7 IK O) fun b6=>Ar Ay 2 [0,1] O (As (Bt (fun k=>false) Dn (BR Ay 4 [0] O (D6 18 O (fun g=>?_) (fun g=>?_))))))))))))
 ·simp only[sd,se] at g;refine BR Ay 2 [2] O (Ce O (fun _=>BJ EV O (List.length_map _)) Ap (Ce O (fun _=>Az GO O O) Ap (MB (i:=0) O O O O O (fun H i hi=>A0 (i:=i) DM O hi (HX _)) AB Ap (Bk Ay 4 [1,1] O (A1 (⟨O,_,_,⟨_,_,O,(BA (i:=1) L3 O O Af),⟨_,_,O,O,O⟩⟩,(List.nil_sublist _),?_⟩))))))
  all_goals exact⟨by show (.tup [.agg ((DS ((Bb ds hn).1)).map .p),.p (.bool (((hl.length:Nat):Int)==(((Bb ds hn).1).params:Int)))]:AV)=_;rw[gb (k:=hk) (i:=hi) (ks:=hs) (by first | exact g | omega)];rfl,rfl⟩
 simp only[sd,se] at g;refine Bk Ay 9 [1,1] O (A1 (⟨O,_,_,⟨_,_,O,(BA (i:=1) L3 O O Af),⟨_,_,O,O,O⟩⟩,(List.nil_sublist _),?_⟩))
 all_goals exact⟨by show (.tup [.agg ((DS ((Bb ds hn).1)).map .p),.p (.bool false)]:AV)=_;rw[nR (k:=hk) (i:=hi) (ls:=hl) (ks:=hs) (by first | exact g | omega)];rfl,rfl⟩
end Go.Proofs.YtboammbpdaoojaaGreat
namespace Go.Eu
open Go.Abs
def Out.ex {α:Type}:Out α→Except Int α
 | .ok a=> .ok a
 | .stuck=> .error 0
 | .fail=> .error 0
section
variable {α β σ:Type}
theorem IV {o:Out α}{a:α}(h:o.ex= .ok a):o= .ok a:=by
 cases o<;>simp[Out.ex] at h;rw[h]
theorem DH {o:Out α}{a:α}(h:o= .ok a):o.ex= .ok a:=by rw[h];rfl
theorem o9 {o:Out α}{e:Int}(hs:o≠ .stuck) (h:o.ex= .error e):o= .fail∧e=0:=by
 cases o with
 | stuck=>exact absurd rfl hs
 | fail=>simp[Out.ex] at h;exact⟨rfl,h.symm⟩
 | ok a=>simp[Out.ex] at h
theorem kI {o:Out α}(h:o= .fail):o.ex= .error 0:=by rw[h];rfl
theorem G6 {o:Out α}{k:α→Out β}{b:β}(h:o.bind k= .ok b):∃a,o= .ok a∧k a= .ok b:=by
 cases o with
 | stuck=>simp[Out.bind] at h
 | fail=>simp[Out.bind] at h
 | ok a=>exact⟨a,rfl,h⟩
theorem J2 {o:Out α}{k:α→Out β}(h:o.bind k≠ .stuck):o≠ .stuck:=fun e=>h (by rw[e];rfl)
theorem Mw {o:Out α}{k:α→Out β}{a:α}(h:o.ex= .ok a):o.bind k=k a:=by rw[IV h];rfl
theorem Kz {o:Out α}{k:α→Out β}{e:Int}(h:o.bind k≠ .stuck) (he:o.ex= .error e):(o.bind k).ex= .error e:=by
 obtain⟨h1,h2⟩:=o9 (J2 h) he;subst h2;rw[h1];rfl
theorem H7 {o:Out (Tm×σ)}{k:Tm×σ→Out β}{b:β}(h:o.chk k= .ok b):∃r,o= .ok r∧okB r.1=true∧k r= .ok b:=by
 obtain⟨r,h1,h2⟩:=G6 h;split at h2
 ·rename_i hr;exact⟨r,h1,hr,h2⟩
 cases h2
theorem WU {o:Out (Tm×σ)}{k:Tm×σ→Out β}(h:o.chk k≠ .stuck):o≠ .stuck:=J2 h
theorem Vg {o:Out (Tm×σ)}{k:Tm×σ→Out β}{r:Tm×σ}(hs:o.chk k≠ .stuck) (h:o.ex= .ok r):okB r.1=true∧o.chk k=k r:=by
 have h1:=IV h;subst h1;simp only[Out.chk,Out.bind] at hs ⊢;split at hs
 ·rename_i hr;exact⟨hr,by rw[if_pos hr]⟩
 exact absurd O hs
theorem WN {o:Out (Tm×σ)}{k:Tm×σ→Out β}{e:Int}(h:o.chk k≠ .stuck) (he:o.ex= .error e):(o.chk k).ex= .error e:=Kz h he
theorem Lc {s:Et}{x:Tm×Int}{k:Tm→Et→Out α}(h:Db.put s x k≠ .stuck):okB x.1=true∧Db.put s x k=k x.1 (s.result x.1 x.2):=by
 unfold Sys.put at h ⊢;split at h
 ·rename_i hx;exact⟨hx,by rw[if_pos hx];rfl⟩
 exact absurd O h
theorem Vy {s:Int}{x:Tm×Int}{k:Tm→Int→Out α}(h:Bp.put s x k≠ .stuck):okB x.1=true∧Bp.put s x k=if s - 1<0∨x.2≠0 then .fail else k x.1 (s - 1):=by
 unfold Sys.put at h ⊢;split at h
 ·rename_i hx;refine⟨hx,?_⟩;rw[if_pos hx];simp only[Bp];by_cases c:s - 1<0∨x.2≠0
  ·rw[if_pos c,if_pos c]
  rw[if_neg c,if_neg c]
 exact absurd O h
end
section
variable {E:List B5}{σ:Type}{S:Sys σ}{W:σ→Tm→Out (Tm×σ)}{n:Nat}{t:ES}{v:List Tm}{l:Tm}{s:σ}{x:Tm}
def QT (E:List B5) (S:Sys σ) (W:σ→Tm→Out (Tm×σ)) (n:Nat) (t:ES) (v:List Tm) (r:Tm×σ):Out ((Option (Tm×List Tm)×Tm)×σ):=match C8 E r.1 with
 | none=> .ok ((none,r.1),r.2)
 | some (d,j,fields)=>match Ca (Df d j).name t.branches with
  | none=> .ok ((none,r.1),r.2)
  | some t'=>Dp E S W n t' (v++fields) r.1 r.2
theorem Uy {X:Out ((Option (Tm×List Tm)×Tm)×σ)}(h:Dp E S W n t v l s=X) (hX:X≠ .stuck):∃k,n=k+1:=by
 cases n with
 | zero=>rw[Dp] at h;exact absurd h.symm hX
 | succ k=>exact⟨k,rfl⟩
theorem Hz (h:t.kind≠1):Dp E S W (n+1) t v l s= .ok ((some (t.body,v),Bh),s):=by rw[Dp,if_neg h]
theorem JP (h:t.kind=1) (hb:t.var<0∨t.var≥(v.length:Int)∨S.over s=true):Dp E S W (n+1) t v l s= .ok ((none,l),s):=by rw[Dp,if_pos h,if_pos hb]
theorem LW (h:t.kind=1) (hb:¬(t.var<0∨t.var≥(v.length:Int)∨S.over s=true)) (hx:v[t.var.toNat]?=some x):Dp E S W (n+1) t v l s=(W s x).chk (QT E S W n t v):=by
 rw[Dp,if_pos h,if_neg hb,B6 hx];rfl
theorem GW {r:Tm×σ}(h:C8 E r.1=none):QT E S W n t v r= .ok ((none,r.1),r.2):=by unfold QT;rw[h]
theorem Ia {r:Tm×σ}{d:B5}{j:Int}{f:List Tm}(h:C8 E r.1=some (d,j,f)) (hb:Ca (Df d j).name t.branches=none):QT E S W n t v r= .ok ((none,r.1),r.2):=by unfold QT;rw[h];simp only[hb]
theorem Ic {r:Tm×σ}{d:B5}{j:Int}{f:List Tm}{t':ES}(h:C8 E r.1=some (d,j,f)) (hb:Ca (Df d j).name t.branches=some t'):QT E S W n t v r=Dp E S W n t' (v++f) r.1 r.2:=by unfold QT;rw[h];simp only[hb]
end
section
variable {E:List B5}{σ:Type}{S:Sys σ}{W:σ→Tm→Out (Tm×σ)}{n:Nat}{h m:Tm}{a:List Tm}{s:σ}{d:B5}{x:Fq}
theorem JO (he:(BY d.value h.levels).2≠0):Eg S d h a s= .ok (none,s):=by rw[Eg,if_pos he]
theorem Jr (he:(BY d.value h.levels).2=0):Eg S d h a s=S.put s ((BY d.value h.levels).1,0) fun t s'=> .ok (some (apply t a),s'):=by rw[Eg,if_neg An]
theorem Mz (hc:C8 E m=none):Es E S d h a m s= .ok (none,s):=by unfold Es;rw[hc]
theorem RK {e:B5}{j:Int}{f:List Tm}(hc:C8 E m=some (e,j,f)) (hn:e.name≠d.name∨j≥(d.recs.rules.length:Int)):Es E S d h a m s= .ok (none,s):=by unfold Es;rw[hc];simp only[if_pos hn]
theorem Mf {e:B5}{j:Int}{f:List Tm}{r:Tm}(hc:C8 E m=some (e,j,f)) (hn:¬(e.name≠d.name∨j≥(d.recs.rules.length:Int))) (hr:d.recs.rules[j.toNat]?=some r) (he:(BY r h.levels).2≠0):Es E S d h a m s= .ok (none,s):=by
 unfold Es;rw[hc];simp only[if_neg hn,Hy,B6 hr,if_pos he]
theorem NG {e:B5}{j:Int}{f:List Tm}{r:Tm}(hc:C8 E m=some (e,j,f)) (hn:¬(e.name≠d.name∨j≥(d.recs.rules.length:Int))) (hr:d.recs.rules[j.toNat]?=some r) (he:(BY r h.levels).2=0) :
  Es E S d h a m s=S.put s (apply (apply (BY r h.levels).1 (a.take (d.fixed+1+d.ctors.length).toNat)) f,0) fun t s'=> .ok (some (apply t (a.drop (CB d+1).toNat)),s'):=by
 unfold Es;rw[hc];simp only[if_neg hn,Hy,B6 hr,if_neg (show ¬(BY r h.levels).2≠0 by omega)]
theorem Ig {b:Tm}{vars rest:List Tm}(he:(BY b h.levels).2≠0):GD S h b vars rest s= .ok (none,s):=by rw[GD,if_pos he]
theorem RF {b:Tm}{vars rest:List Tm}(hs:GD S h b vars rest s≠ .stuck) (he:(BY b h.levels).2=0):okB (BY b h.levels).1=true∧(∀v∈vars,okB v=true)∧BX vars<1125899906842624∧GD S h b vars rest s=S.put s (CD (BY b h.levels).1 vars.reverse 0) fun t s'=> .ok (some (apply t rest),s'):=by
 rw[GD,if_neg An] at hs ⊢;split at hs
 ·exact absurd O hs
 rename_i hc;have hn:=hc;simp only[not_or,Bool.not_eq_false] at hc;exact⟨hc.1,fun v hv=>List.all_eq_true.1 hc.2.1 v hv,by omega,by rw[if_neg hn]⟩
def PY (S:Sys σ) (f:Hp) (h:Tm) (a:List Tm) (q:(Option (Tm×List Tm)×Tm)×σ):Out (Option Tm×σ):=match q.1.1 with
 | none=> .ok (none,q.2)
 | some (b,vars)=>if S.over q.2=true then .ok (none,q.2) else GD S h b vars (a.drop f.arity.toNat) q.2
theorem Ki {f:Hp}(hl:(a.length:Int)<f.arity):I0 E S W n f h a s= .ok (none,s):=by rw[I0,if_pos hl]
theorem Kq {f:Hp}(hl:¬(a.length:Int)<f.arity):I0 E S W n f h a s=(Dp E S W n f.tree (a.take f.arity.toNat) Bh s).bind (PY S f h a):=by rw[I0,if_neg hl];rfl
theorem Oo (hl:(a.length:Int)≤CB d):Qx E S W d h a s= .ok (none,s):=by rw[Qx,if_pos hl]
theorem RY {y:Tm}(hl:¬(a.length:Int)≤CB d) (hy:a[(CB d).toNat]?=some y):Qx E S W d h a s=(W s y).chk fun r=>Es E S d h a r.1 r.2:=by rw[Qx,if_neg hl,B6 hy]
theorem JT (hu:Tl E h=false):ED E S W n h a s= .ok (none,s):=by
 unfold ED;rw[C3,hu];simp
section
variable (hu:Tl E h=true) (hd:E[(Bb E h.name).1.decl.toNat]?=some d)
include hu hd
theorem JI (hk:(Bb E h.name).1.kind=1):ED E S W n h a s=Eg S d h a s:=by
 unfold ED;rw[C3,hu,if_pos rfl];simp only[if_pos hk,Bo,B6 hd]
theorem Hx (hk:(Bb E h.name).1.kind=5):ED E S W n h a s=Qx E S W d h a s:=by
 unfold ED;rw[C3,hu,if_pos rfl];simp only[hk,Bo,B6 hd];rfl
theorem HM {f:Hp}(hk:(Bb E h.name).1.kind=6) (hf:d.funs[(Bb E h.name).1.item.toNat]?=some f):ED E S W n h a s=I0 E S W n f h a s:=by
 unfold ED;rw[C3,hu,if_pos rfl];simp only[hk,Bo,B6 hd,EX,B6 hf];rfl
omit hd
theorem Ip (h1:(Bb E h.name).1.kind≠1) (h5:(Bb E h.name).1.kind≠5) (h6:(Bb E h.name).1.kind≠6):ED E S W n h a s= .ok (none,s):=by
 unfold ED;rw[C3,hu,if_pos rfl];simp only[if_neg h1,if_neg h5,if_neg h6]
end
end
section
variable {E:List B5}{σ:Type}{S:Sys σ}{n:Nat}{t:Tm}{s:σ}{X:Out (Tm×σ)}
theorem bW (h:DK E S n s t=X) (hX:X≠ .stuck):∃k,n=k+1:=by
 cases n with
 | zero=>rw[DK] at h;exact absurd h.symm hX
 | succ k=>exact⟨k,rfl⟩
theorem VO (h:DK E S (n+1) s t=X) (hX:X≠ .stuck):okB t=true:=by
 rw[DK] at h;split at h
 ·exact absurd h.symm hX
 rename_i hc;simpa using hc
theorem bO (ho:okB t=true) (h:S.over s=true):DK E S (n+1) s t= .ok (t,s):=by rw[DK,if_neg (by simp[ho]),if_pos h]
theorem Vn (ho:okB t=true) (h:S.over s=false) (hm:S.many (A8 t).2.length=true):DK E S (n+1) s t= .fail:=by rw[DK,if_neg (by simp[ho]),if_neg (by simp[h]),if_pos hm]
section
variable (ho:okB t=true) (h:S.over s=false) (hm:S.many (A8 t).2.length=false)
include ho h hm
theorem My (hk:(A8 t).1.kind=5) (hl:(A8 t).2.length=0):DK E S (n+1) s t= .ok (t,s):=by
 rw[DK,if_neg (by simp[ho]),if_neg (by simp[h]),if_neg (by simp[hm]),if_pos hk,if_pos hl]
theorem QC {b:Tm}(hk:(A8 t).1.kind=5) (hl:(A8 t).2.length≠0) (hb:(A8 t).1.kids[1]?=some b) :
  DK E S (n+1) s t=S.put s (CD b ((A8 t).2.take 1) 0) fun x s'=>DK E S n s' (apply x ((A8 t).2.drop 1)):=by
 rw[DK,if_neg (by simp[ho]),if_neg (by simp[h]),if_neg (by simp[hm]),if_pos hk,if_neg hl,PJ,hb]
theorem PQ {v b:Tm}(hk:(A8 t).1.kind=11) (hv:(A8 t).1.kids[1]?=some v) (hb:(A8 t).1.kids[2]?=some b) :
  DK E S (n+1) s t=S.put s (CD b [v] 0) fun x s'=>DK E S n s' (apply x (A8 t).2):=by
 rw[DK,if_neg (by simp[ho]),if_neg (by simp[h]),if_neg (by simp[hm]),if_neg An,if_pos hk,Vq,hv,hb]
def Qe (E:List B5) (S:Sys σ) (n:Nat) (h:Tm) (a:List Tm) (r:Tm×σ):Out (Tm×σ) :=
 if r.1.kind≠8 then .ok (apply (Hn h.kind r.1) a,r.2) else NP S h r.1 a r.2 fun x s'=>DK E S n s' x
theorem Ml {p:Tm}(hk:(A8 t).1.kind=9∨(A8 t).1.kind=10) (hp:(A8 t).1.kids[0]?=some p) :
  DK E S (n+1) s t=(DK E S n s p).chk (Qe E S n (A8 t).1 (A8 t).2):=by
 rw[DK,if_neg (by simp[ho]),if_neg (by simp[h]),if_neg (by simp[hm]),if_neg An,if_neg An,if_pos hk,hp];rfl
def YZ (E:List B5) (S:Sys σ) (n:Nat) (t:Tm) (r:Option Tm×σ):Out (Tm×σ):=match r.1 with
 | none=> .ok (t,r.2)
 | some x=>DK E S n r.2 x
theorem Jq (hk:(A8 t).1.kind=3):DK E S (n+1) s t=(ED E S (DK E S n) n (A8 t).1 (A8 t).2 s).bind (YZ E S n t):=by
 rw[DK,if_neg (by simp[ho]),if_neg (by simp[h]),if_neg (by simp[hm]),if_neg An,if_neg An,if_neg An,if_pos hk];rfl
theorem Tw (h1:(A8 t).1.kind≠5) (h2:(A8 t).1.kind≠11) (h3:(A8 t).1.kind≠9) (h4:(A8 t).1.kind≠10) (h5:(A8 t).1.kind≠3):DK E S (n+1) s t= .ok (t,s):=by
 rw[DK,if_neg (by simp[ho]),if_neg (by simp[h]),if_neg (by simp[hm]),if_neg h1,if_neg h2,if_neg An,if_neg h5]
end
theorem KV {h:Tm}{a:List Tm}{r:Tm×σ}(hk:r.1.kind≠8):Qe E S n h a r= .ok (apply (Hn h.kind r.1) a,r.2):=by rw[Qe,if_pos hk]
theorem L5 {h:Tm}{a:List Tm}{r:Tm×σ}{q:Tm}(hk:r.1.kind=8) (hq:r.1.kids[(1+h.kind - 9).toNat]?=some q):Qe E S n h a r=S.put r.2 (q,0) fun x s'=>DK E S n s' (apply x a):=by
 rw[Qe,if_neg An,NP,hq]
end
theorem fG (i:Int):Ci (OH i):=⟨Bool.and_eq_true_iff.2 ⟨by simp,rfl⟩,trivial⟩
mutual
theorem Uc (b fr:Int):∀(t:Tm) (d er:Int),Ci t→Ci (CT b fr d er t).1
 | .mk k i n l ks,d,er,h=>by
  rw[CT];split
  ·split
   ·exact h
   split
   ·exact h
   exact fG _
  exact⟨h.1,Sv b fr k ks d 0 er h.2⟩
theorem Sv (b fr k:Int):∀(ts:List Tm) (d:Int) (j:Nat) (er:Int),aY ts→aY (Cy b fr k d j er ts).1
 | [],d,j,er,h=>trivial
 | t::ts,d,j,er,h=>⟨Uc b fr t _ er h.1,Sv b fr k ts d (j+1) _ h.2⟩
end
mutual
theorem UR {vs:List Tm}(hv:aY vs):∀(t:Tm) (d er nd:Int),Ci t→Ci (B0 vs d er nd t).1
 | .mk k i n l ks,d,er,nd,h=>by
  rw[B0];split
  ·exact h
  split
  ·exact Uc _ _ _ _ _ (YF hv _)
  split
  ·split
   ·exact fG _
   exact h
  exact⟨h.1,S1 hv k ks d 0 er _ h.2⟩
theorem S1 {vs:List Tm}(hv:aY vs) (k:Int):∀(ts:List Tm) (d:Int) (j:Nat) (er nd:Int),aY ts→aY (CW vs k d j er nd ts).1
 | [],d,j,er,nd,h=>trivial
 | t::ts,d,j,er,nd,h=>⟨UR hv t _ er nd h.1,S1 hv k ts d (j+1) _ _ h.2⟩
end
theorem eW (t:Tm) (vs:List Tm) (d:Int) (h:Ci t) (hv:aY vs):Ci (CD t vs d).1:=by
 have hz:Ci Bh:=⟨by decide,trivial⟩;unfold CD;split
 ·exact hz
 split
 ·exact hz
 split
 ·exact hz
 exact UR hv t _ _ _ h
theorem FD {vs:List Tm}(h:∀v∈vs,okB v=true):NI vs∧OA vs∧Oh vs∧aY vs:=Nf vs (JV.2 fun t ht=>IW (h t ht))
theorem cK {vs:List Tm}(h:∀v∈vs,okB v=true) (hl:vs.length<549755813888):Qz vs 0 :=
 ⟨(FD h).2.1,(FD h).2.2.1,fun x hx=>by have:=FC (h x hx);omega,by omega,by omega,by omega⟩
theorem IH {b:Tm}{vs:List Tm}(hb:okB b=true) (hv:∀v∈vs,okB v=true):size (CD b vs 0).1≤4096 :=
 Wi b vs 0 (B2.1 hb).wt (FD hv).2.1 fun x hx=>by have:=FC (hv x hx);omega
theorem Kb {b:Tm}{vs:List Tm}(hb:okB b=true) (hv:∀v∈vs,okB v=true) (hl:vs.length<549755813888):okB (CD b vs 0).1=true:=by
 have o:=B2.1 hb;obtain⟨h1,h2,h3,h4⟩:=FD hv;have:=IH hb hv;exact B2.2 ⟨dL b vs 0 o.nd h1,e7 b vs 0 o.wt h2,dZ (cK hv hl) o.vp (by have:=o.sz;omega),eW b vs 0 o.ci h4,by omega⟩
theorem JG.zero:JG FU:=JG.num (n:=0) An
theorem P2 {ps:List CS}(hp:∀p∈ps,B9 p=true):∀(vs:List CF) (out:CS),JG out→(∀v∈vs,(0≤v.plus∧v.plus≤100)∧ -65536≤v.index∧v.index<8)→JG (GK ps out vs).1
 | [],out,h,_=>h
 | v::vs,out,h,hv=>by
  have h1:=hv v Ao;have h2:∀u∈vs,(0≤u.plus∧u.plus≤100)∧ -65536≤u.index∧u.index<8:=fun u hu=>hv u (by simp[hu]);rw[GK];split
  ·rename_i hi;split
   ·exact JG.zero
   rename_i he;refine P2 hp vs _ (h.join ?_) h2;have hlt:v.index.toNat<ps.length:=by omega
   have hg:ps.getD v.index.toNat default∈ps:=by rw[B6 (List.getElem?_eq_getElem hlt)];exact List.getElem_mem hlt
   exact JG.plus (hp _ hg) h1.1.1 h1.1.2 (Decidable.not_not.1 he)
  exact P2 hp vs _ (h.join (JG.one h1)) h2
theorem ZC (l:CS) (ps:List CS):JG (Cu l ps).1:=by
 unfold Cu;split
 ·exact JG.zero
 rename_i h;simp only[not_or,Bool.not_eq_false,List.all_eq_true] at h;split
 ·exact JG.zero
 have hl:=JG.of h.1;exact P2 h.2 l.vars _ (JG.num hl.c) hl.rg
theorem T5 (ps:List CS):∀(ls:List CS) (er:Int),(EO ps er ls).1.length=ls.length∧(EO ps er ls).1.all Z3=true
 | [],er=>⟨rfl,rfl⟩
 | l::ls,er=>by
  obtain⟨h1,h2⟩:=T5 ps ls (GB er (Cu l ps).2);simp only[EO,List.length_cons,List.all_cons,Bool.and_eq_true];exact⟨by rw[h1],bw (ZC l ps).nd,h2⟩
mutual
theorem R2 (ps:List CS):∀(t:Tm) (er:Int),Uq t=true→Uq (Fx ps er t).1=true∧size (Fx ps er t).1=size t
 | .mk k i n ls ks,er,h=>by
  rw[LR,Bool.and_eq_true] at h;obtain⟨h1,h2⟩:=T5 ps ls er;obtain⟨h3,h4,h5⟩:=Uw ps ks (EO ps er ls).2 h.2;simp only[Fx,LR,size,Bool.and_eq_true];refine⟨⟨?_,h4⟩,by rw[h5]⟩;have g:=h.1;simp only[qC,Bool.and_eq_true] at g ⊢;rw[h1,h3];exact⟨⟨⟨⟨⟨⟨⟨⟨⟨g.1.1.1.1.1.1.1.1.1,g.1.1.1.1.1.1.1.1.2⟩,h2⟩,g.1.1.1.1.1.1.2⟩,g.1.1.1.1.1.2⟩,g.1.1.1.1.2⟩,g.1.1.1.2⟩,g.1.1.2⟩,g.1.2⟩,g.2⟩
theorem Uw (ps:List CS):∀(ts:List Tm) (er:Int),L0 ts=true→(Fe ps er ts).1.length=ts.length∧L0 (Fe ps er ts).1=true∧BX (Fe ps er ts).1=BX ts
 | [],er,_=>⟨rfl,rfl,rfl⟩
 | t::ts,er,h=>by
  simp only[L0,Bool.and_eq_true] at h;obtain⟨h1,h2⟩:=R2 ps t er h.1;obtain⟨h3,h4,h5⟩:=Uw ps ts (Fx ps er t).2 h.2;simp only[Fe,List.length_cons,L0,Bool.and_eq_true,BX];exact⟨by rw[h3],⟨h1,h4⟩,by rw[h2,h5]⟩
end
theorem jB:Uq Bh=true:=by decide
theorem IY:okB Bh=true:=by decide
theorem J9 {t:Tm}(ps:List CS) (h:okB t=true):size (BY t ps).1≤size t:=by
 unfold BY;split
 ·exact size_pos t
 exact Nat.le_of_eq (R2 ps t 0 (IW h)).2
theorem JL {t:Tm}(ps:List CS) (h:okB t=true):okB (BY t ps).1=true:=by
 have:=J9 ps h;have:=FC h;refine LM ?_ An;unfold BY;split
 ·exact jB
 exact(R2 ps t 0 (IW h)).1
theorem Fs {f:Tm}{xs:List Tm}(h:okB f=true) (hx:∀x∈xs,okB x=true) (hs:size f+BX xs+xs.length<549755813888):okB (apply f xs)=true :=
 LM (JK (IW h) fun x hx'=>IW (hx x hx')) (by rw[Ch];exact hs)
theorem bh {k:Int}{p:Tm}(hk:k=9∨k=10) (h:okB p=true) (hs:size p+1<549755813888):okB (Hn k p)=true:=by
 refine LM ?_ (by simp only[Hn,size,BX];omega);rw[Hn,LR,Bool.and_eq_true];refine⟨?_,by simp[L0,IW h]⟩;rcases hk with rfl | rfl<;>rfl
theorem DC (l:List Tm) (k:Nat):BX (l.take k)+BX (l.drop k)=BX l:=by rw[←Hi,List.take_append_drop]
theorem Ps {l:List Tm}{i:Nat}{x y:Tm}(h:l[i]?=some x):BX (l.set i y)+size x=BX l+size y:=by
 induction l generalizing i with
 | nil=>simp at h
 | cons a l ih =>
  cases i with
  | zero=>simp at h;subst h;simp only[List.set_cons_zero,BX];omega
  | succ i =>
   have:=ih (i:=i) (by simpa using h);simp only[List.set_cons_succ,BX];omega
theorem Fk:∀(t:Tm),size (A8 t).1+BX (A8 t).2+(A8 t).2.length=size t
 | .mk k i n l [f,a]=>by
  unfold A8;split
  ·have:=Fk f;simp only[Hi,BX,size,List.length_append,List.length_cons,List.length_nil];omega
  ·simp[BX]
 | .mk k i n l []=>by simp[A8,BX]
 | .mk k i n l [_]=>by simp[A8,BX]
 | .mk k i n l (_::_::_::_)=>by simp[A8,BX]
mutual
def Dc:ES→Nat
 | .mk _ _ _ l=>1+LI l
def ZM:GC→Nat
 | .mk _ _ t=>Dc t
def LI:List GC→Nat
 | []=>0
 | b::l=>max (ZM b) (LI l)
end
theorem Sw:∀t:ES,1≤Dc t
 | .mk k b v l=>by simp only[Dc];omega
structure Gi (E:List B5):Prop where
 g:Ju E
 vl:∀d∈E,size d.value≤400
 ru:∀d∈E,∀t∈d.recs.rules,size t≤400
 fu:∀d∈E,∀f∈d.funs,Dc f.tree≤50
theorem YP {nm:ByteArray}:∀{l:List GC}{t:ES},Ca nm l=some t→SZ l→EW t∧Dc t≤LI l
 | .mk c a q::l,t,h,ho=>by
  simp only[SZ,nY] at ho;rw[Ca] at h;simp only[LI,ZM];split at h
  ·split at h
   ·cases h
   cases h;exact⟨ho.1,by simp only[GC.tree];omega⟩
  obtain⟨h1,h2⟩:=YP h ho.2;exact⟨h1,by omega⟩
theorem Sx {nm:ByteArray}{t t':ES}(h:Ca nm t.branches=some t') (ho:EW t):EW t'∧Dc t' < Dc t:=by
 obtain⟨k,b,v,l⟩:=t;simp only[EW] at ho;obtain⟨h1,h2⟩:=YP h ho.2;exact⟨h1,by simp only[Dc,ES.branches] at *;omega⟩
theorem JS {E:List B5}{h:Tm}(hu:Tl E h=true):∃(i:Nat) (d:B5),E[i]?=some d∧Xw d i (Bb E h.name).1∧d∈E∧E[(Bb E h.name).1.decl.toNat]?=some d:=by
 simp only[Tl,Bool.and_eq_true,decide_eq_true_eq] at hu;obtain⟨i,d,h1,h2⟩:=ON hu.1;exact⟨i,d,h1,h2,List.mem_of_getElem? h1,by rw[h2.decl];simpa using h1⟩
theorem Pu {E:List B5}{nm:ByteArray}{d:B5}{j:Int}(h:D7 E nm=some (d,j)):d∈E∧(0≤j→j<d.ctors.length):=by
 unfold D7 at h;split at h
 ·cases h
 rename_i h0;obtain⟨i,d',h1,h2⟩:=ON (Decidable.not_not.1 h0);have hd:Bo E (Bb E nm).1.decl=d':=B6 (by rw[h2.decl];simpa using h1);have hm:=List.mem_of_getElem? h1;rw[hd] at h;split at h
 ·cases h;exact⟨hm,fun q=>by omega⟩
 split at h
 ·rename_i h4;obtain⟨k,c,h5,h6⟩:=h2.ctor h4;cases h;exact⟨hm,fun _=>by have:=(List.getElem?_eq_some_iff.1 h5).1;omega⟩
 split at h
 ·cases h;exact⟨hm,fun q=>by omega⟩
 cases h
structure pN (E:List B5) (t:Tm) (d:B5) (j:Int) (f:List Tm):Prop where
 mem:d∈E
 lo:0≤j
 hi:j<d.ctors.length
 fs:f=(A8 t).2.drop d.fixed.toNat
 len:((A8 t).2.length:Int)=d.fixed+C7 d j
 kind:(A8 t).1.kind=3
theorem Eo {E:List B5}{t:Tm}{d:B5}{j:Int}{f:List Tm}(h:C8 E t=some (d,j,f)):pN E t d j f:=by
 unfold C8 at h;split at h
 ·cases h
 rename_i hk;split at h
 ·cases h
 rename_i d' j' hf;obtain⟨h1,h2⟩:=Pu hf;split at h
 ·cases h
 split at h
 ·cases h
 rename_i h3 h4;cases h;exact⟨h1,by omega,h2 An,rfl,Decidable.not_not.1 h4,Decidable.not_not.1 hk⟩
theorem GL {E:List B5}{t:Tm}{d:B5}{j:Int}{f:List Tm}(h:C8 E t=some (d,j,f)) (ho:okB t=true):(∀x∈f,okB x=true∧size x<size t)∧BX f+f.length<size t:=by
 have c:=Eo h;have hs:=Fk t;have hp:=size_pos (A8 t).1;have hd:=DC (A8 t).2 d.fixed.toNat;rw[c.fs];refine⟨fun x hx=>⟨(FO ho).2 x (List.mem_of_mem_drop hx),?_⟩,by rw[List.length_drop];omega⟩;have:=En (List.mem_of_mem_drop hx);omega
theorem Io {E:List B5}{t:Tm}{d:B5}{j:Int}{f:List Tm}(hE:Ju E) (h:C8 E t=some (d,j,f)):f.length≤1000000:=by
 have c:=Eo h;have hd:=hE.all d c.mem;have hlo:=c.lo;have hhi:=c.hi;have hlt:j.toNat<d.ctors.length:=by omega
 have hx:=List.getElem?_eq_getElem hlt;have hs:=(hd.din.cs _ (List.getElem_mem hlt)).ty.sz;have hl:=IX d.ctors[j.toNat].type;have hfx:=hd.fx;have hlen:=c.len;rw[c.fs,List.length_drop];unfold C7 Ze Df at hlen;rw[B6 hx] at hlen;omega
def Ct {α:Type}(o:Out α) (p:α→Prop):Prop:=match o with
 | .stuck=>False
 | .fail=>True
 | .ok a=>p a
section
variable {α β σ:Type}
theorem Ct.ok {a:α}{p:α→Prop}(h:p a):Ct (.ok a) p:=h
theorem Ct.ns {o:Out α}{p:α→Prop}(h:Ct o p):o≠ .stuck:=fun e=>by rw[e] at h;exact h
theorem Ct.get {o:Out α}{p:α→Prop}{a:α}(h:Ct o p) (e:o= .ok a):p a:=by rw[e] at h;exact h
theorem Ct.mono {o:Out α}{p q:α→Prop}(h:Ct o p) (hpq:∀a,p a→q a):Ct o q:=by
 cases o with
 | stuck=>exact h
 | fail=>trivial
 | ok a=>exact hpq a h
theorem Ct.bind {o:Out α}{k:α→Out β}{p:α→Prop}{q:β→Prop}(h:Ct o p) (hk:∀a,p a→Ct (k a) q):Ct (o.bind k) q:=by
 cases o with
 | stuck=>exact h
 | fail=>trivial
 | ok a=>exact hk a h
theorem Ct.chk {o:Out (Tm×σ)}{k:Tm×σ→Out β}{p:Tm×σ→Prop}{q:β→Prop}(h:Ct o p) (hk:∀a,p a→okB a.1=true∧Ct (k a) q):Ct (o.chk k) q :=
 Ct.bind h fun a ha=>by rw[if_pos (hk a ha).1];exact(hk a ha).2
theorem Ct.put {S:Sys σ}{s:σ}{x:Tm×Int}{k:Tm→σ→Out β}{q:β→Prop}(ho:okB x.1=true) (hk:∀s',S.res s x.1 x.2=some s'→Ct (k x.1 s') q):Ct (S.put s x k) q:=by
 unfold Sys.put;rw[if_pos ho];cases h:S.res s x.1 x.2 with
 | none=>trivial
 | some s'=>exact hk s' h
end
structure ZZ {σ:Type} (S:Sys σ) (J:σ→Prop) (cnt:σ→Nat) (C:Nat):Prop where
 nov:∀s,J s→S.over s=false→cnt s≤C
 res:∀s t e s',J s→cnt s<1152921504606846976→okB t=true→S.res s t e=some s'→J s'∧cnt s'=cnt s+1
 hC:C≤20000
section
variable {σ:Type}(S:Sys σ) (J:σ→Prop) (cnt:σ→Nat) (C:Nat)
structure Ub (s:σ) (t:Tm) (r:Tm×σ):Prop where
 j:J r.2
 ok:okB r.1=true
 le:cnt s≤cnt r.2
 sz:size r.1≤size t+(cnt r.2 - cnt s)*4500
 ub:S.over s=false→cnt r.2≤C+1+size t+(C - cnt s)*4500
 st:S.over s=true→r.2=s
structure v7 (n:Nat) (s:σ) (t:Tm):Prop where
 j:J s
 ok:okB t=true
 pm:S.over s=false→size t+(C - cnt s)*4500≤90100000
 fu:S.over s=false→size t+(C - cnt s)*4501+100≤n
 n1:1≤n
def pc (n:Nat) (W:σ→Tm→Out (Tm×σ)):Prop:=∀s t,v7 S J cnt C n s t→Ct (W s t) (Ub S J cnt C s t)
end
section
variable {σ:Type}{S:Sys σ}{J:σ→Prop}{cnt:σ→Nat}{C:Nat}{E:List B5}{n:Nat}{W:σ→Tm→Out (Tm×σ)}
variable (hS:ZZ S J cnt C) (hE:Gi E) (hW:pc S J cnt C n W)
structure vd (S:Sys σ) (J:σ→Prop) (cnt:σ→Nat) (C n V Z:Nat) (s:σ) (vars:List Tm) (last:Tm):Prop where
 j:J s
 ok:∀v∈vars,okB v=true
 lok:okB last=true
 pm:S.over s=false→∀v∈vars,size v+(C - cnt s)*4500≤V
 fu:S.over s=false→∀v∈vars,size v+(C - cnt s)*4501+100≤n
 lm:S.over s=false→size last+(C - cnt s)*4500≤V∧size last+(C - cnt s)*4501+100≤n
 zs:∀v∈vars,size v≤Z
 lz:size last≤Z
structure nH (S:Sys σ) (J:σ→Prop) (cnt:σ→Nat) (C n V L Z:Nat) (s:σ) (q:(Option (Tm×List Tm)×Tm)×σ):Prop where
 j:J q.2
 le:cnt s≤cnt q.2
 ub:S.over s=false→cnt q.2≤C+1+V
 st:S.over s=true→q.2=s
 ok:∀b vars,q.1.1=some (b,vars)→okB b=true∧∀v∈vars,okB v=true
 vl:∀b vars,q.1.1=some (b,vars)→vars.length≤L∧BX vars<1125899906842624
 lok:okB q.1.2=true
 lz:q.1.1=none→size q.1.2≤Z+(cnt q.2 - cnt s)*4500
 lm:S.over q.2=false→q.1.1=none→size q.1.2+(C - cnt q.2)*4500≤V∧size q.1.2+(C - cnt q.2)*4501+100≤n
include hS hE hW
theorem XE {V L:Nat}(hV:V≤90100000):∀(m:Nat) (t:ES) (vars:List Tm) (last:Tm) (s:σ) (Z:Nat),Dc t≤m→EW t→1≤n→vars.length+Dc t*1000000≤L→BX vars+Dc t*549755813888<1125899906842624→vd S J cnt C n V Z s vars last→Ct (Dp E S W m t vars last s) (nH S J cnt C n V L Z s)
 | 0,t,vars,last,s,Z,h,_,_,_,_,_=>absurd h (by have:=Sw t;omega)
 | m+1,t,vars,last,s,Z,h,ht,hn,hL,hM,hp=>by
  by_cases hk:t.kind=1
  ·by_cases hb:t.var<0∨t.var≥(vars.length:Int)∨S.over s=true
   ·rw[JP hk hb];exact Ct.ok ⟨hp.j,Nat.le_refl _,fun h=>by have:=hS.nov s hp.j h;simp only;omega,fun _=>rfl,fun b v e=>by simp at e,fun b v e=>by simp at e,hp.lok,fun _=>by have:=hp.lz;simp only;omega,fun h _=>hp.lm h⟩
   have hlt:t.var.toNat<vars.length:=by omega
   have ho:S.over s=false:=by simpa using fun e=>hb (.inr (.inr e))
   have hx:=List.getElem?_eq_getElem hlt;have hm:=List.getElem_mem hlt;rw[LW hk hb hx];have hcs:=hS.nov s hp.j ho;refine Ct.chk (hW s _ ⟨hp.j,hp.ok _ hm,fun _=>by have:=hp.pm ho _ hm;omega,fun _=>hp.fu ho _ hm,hn⟩) fun r hr=>⟨hr.ok,?_⟩;have hpm:=hp.pm ho _ hm;have hfu:=hp.fu ho _ hm;have hub:=hr.ub ho;have hle:=hr.le;have hsz:=hr.sz;have hlm:S.over r.2=false→size r.1+(C - cnt r.2)*4500≤V∧size r.1+(C - cnt r.2)*4501+100≤n:=fun h=>by have:=hS.nov _ hr.j h;omega
   have hstop:Ct (.ok ((none,r.1),r.2)) (nH S J cnt C n V L Z s) :=
    Ct.ok ⟨hr.j,hr.le,fun _=>by simp only;omega,fun e=>absurd (ho.symm.trans e) Ao,fun b v e=>by simp at e,fun b v e=>by simp at e,hr.ok,fun _=>by have:=hp.zs _ hm;simp only;omega,fun h _=>hlm h⟩
   cases hc:C8 E r.1 with
   | none=>rw[GW hc];exact hstop
   | some q =>
    obtain⟨d,j,f⟩:=q;cases hbr:Ca (Df d j).name t.branches with
    | none=>rw[Ia hc hbr];exact hstop
    | some t' =>
     rw[Ic hc hbr];obtain⟨h1,h2⟩:=Sx hbr ht;obtain⟨h3,h4⟩:=GL hc hr.ok;have h5:=FC hr.ok;refine Ct.mono (XE (L:=L) hV m t' (vars++f) r.1 r.2 (Z+(cnt r.2 - cnt s)*4500) An h1 hn (by have:=Io hE.g hc;rw[List.length_append];omega) (by rw[Hi];omega) ⟨hr.j,fun v hv=>?_,hr.ok,fun h v hv=>?_,fun h v hv=>?_,hlm,fun v hv=>?_,by have:=hp.zs _ hm;omega⟩) fun q hq=>?_
     ·rcases List.mem_append.1 hv with hv | hv
      ·exact hp.ok v hv
      exact(h3 v hv).1
     ·have:=hS.nov _ hr.j h;rcases List.mem_append.1 hv with hv | hv
      ·have:=hp.pm ho v hv;omega
      have:=(h3 v hv).2;omega
     ·have:=hS.nov _ hr.j h;rcases List.mem_append.1 hv with hv | hv
      ·have:=hp.fu ho v hv;omega
      have:=(h3 v hv).2;omega
     ·have hzm:=hp.zs _ hm;rcases List.mem_append.1 hv with hv | hv
      ·have:=hp.zs v hv;omega
      have:=(h3 v hv).2;omega
     refine⟨hq.j,by have:=hq.le;omega,fun _=>?_,fun e=>absurd (ho.symm.trans e) Ao,hq.ok,hq.vl,hq.lok,fun e=>by have:=hq.lz e;have:=hq.le;omega,hq.lm⟩;cases hov:S.over r.2 with
     | true=>rw[hq.st hov];omega
     | false=>exact hq.ub hov
  rw[Hz hk];refine Ct.ok ⟨hp.j,Nat.le_refl _,fun h=>by have:=hS.nov s hp.j h;simp only;omega,fun _=>rfl,fun b v e=>?_,fun b v e=>?_,IY,fun e=>by simp at e,fun h e=>by simp at e⟩
  ·simp only[Option.some.injEq,Prod.mk.injEq] at e;obtain⟨rfl,rfl⟩:=e;refine⟨?_,hp.ok⟩;obtain⟨k,b,v,l⟩:=t;simp only[EW] at ht;exact ht.1
  simp only[Option.some.injEq,Prod.mk.injEq] at e;obtain⟨rfl,rfl⟩:=e;omega
end
section
variable {σ:Type}{S:Sys σ}{J:σ→Prop}{cnt:σ→Nat}{C:Nat}{E:List B5}{n:Nat}{W:σ→Tm→Out (Tm×σ)}
structure bu (S:Sys σ) (J:σ→Prop) (cnt:σ→Nat) (C:Nat) (s:σ) (z:Nat) (r:Option Tm×σ):Prop where
 j:J r.2
 le:cnt s≤cnt r.2
 ub:cnt r.2≤C+1+z+(C - cnt s)*4500
 ok:∀x,r.1=some x→okB x=true∧cnt s+1≤cnt r.2∧size x≤z+(cnt r.2 - cnt s)*4500
variable (hS:ZZ S J cnt C)
include hS
theorem eQ {d:B5}{h:Tm}{a:List Tm}{s:σ}(hj:J s) (hc:cnt s≤C) (hv:okB d.value=true) (hs:size d.value≤400) (ha:∀x∈a,okB x=true) (hz:size h+BX a+a.length≤90100000):Ct (Eg S d h a s) (bu S J cnt C s (size h+BX a+a.length)):=by
 have hC:=hS.hC;by_cases he:(BY d.value h.levels).2=0
 ·rw[Jr he];have h1:=J9 h.levels hv;have h2:=JL h.levels hv;refine Ct.put h2 fun s' hs'=>?_;obtain⟨h3,h4⟩:=hS.res _ _ _ _ hj An h2 hs';have h5:=Ch a (BY d.value h.levels).1;refine Ct.ok ⟨h3,by simp only;omega,by simp only;omega,fun x hx=>?_⟩;simp only[Option.some.injEq] at hx;subst hx;exact⟨Fs h2 ha An,by simp only;omega,by simp only;omega⟩
 rw[JO he];exact Ct.ok ⟨hj,Nat.le_refl _,by simp only;omega,fun x hx=>by cases hx⟩
theorem gQ {b h:Tm}{vars rest:List Tm}{s:σ}{z:Nat}(hj:J s) (hc:cnt s≤C) (hb:okB b=true) (hv:∀v∈vars,okB v=true) (hl:vars.length<549755813888) (hsv:BX vars<1125899906842624) (hr:∀x∈rest,okB x=true) (hz:BX rest+rest.length≤z) (hz2:z≤90100000):Ct (GD S h b vars rest s) (fun r=>J r.2∧cnt s≤cnt r.2∧cnt r.2≤cnt s+1∧∀x,r.1=some x→okB x=true∧cnt r.2=cnt s+1∧size x≤z+4096):=by
 have hC:=hS.hC;by_cases he:(BY b h.levels).2=0
 ·have h1:=JL h.levels hb;have hvr:∀v∈vars.reverse,okB v=true:=fun v hm=>hv v (List.mem_reverse.1 hm);have h2:=Kb h1 hvr (by rw[List.length_reverse];exact hl);have h3:=IH h1 hvr;rw[GD,if_neg An,if_neg (by simp only[not_or,Bool.not_eq_false];exact⟨h1,List.all_eq_true.2 hv,by omega⟩)];refine Ct.put h2 fun s' hs'=>?_;obtain⟨h4,h5⟩:=hS.res _ _ _ _ hj An h2 hs';have h6:=Ch rest (CD (BY b h.levels).1 vars.reverse 0).1;refine Ct.ok ⟨h4,by simp only;omega,by simp only;omega,fun x hx=>?_⟩;simp only[Option.some.injEq] at hx;subst hx;exact⟨Fs h2 hr An,by simp only;omega,by omega⟩
 rw[Ig he];exact Ct.ok ⟨hj,Nat.le_refl _,by simp only;omega,fun x hx=>by cases hx⟩
variable (hE:Gi E)
include hE
theorem XH {d:B5}{h m:Tm}{a:List Tm}{s:σ}(hd:d∈E) (hj:J s) (hc:cnt s≤90200000) (hm:okB m=true) (ha:∀x∈a,okB x=true) {z:Nat}{y:Tm}(hy:a[(CB d).toNat]?=some y) (hz:BX a+a.length+size m≤z+size y) (hz2:z≤500000000000) :
  Ct (Es E S d h a m s) (fun r=>J r.2∧cnt s≤cnt r.2∧cnt r.2≤cnt s+1∧∀x,r.1=some x→okB x=true∧cnt r.2=cnt s+1∧size x≤z+4500):=by
 have hg:=hE.g.all d hd;have hnone:Ct (.ok (none,s)) (fun r:Option Tm×σ=>J r.2∧cnt s≤cnt r.2∧cnt r.2≤cnt s+1∧∀x,r.1=some x→okB x=true∧cnt r.2=cnt s+1∧size x≤z+4500) :=
  Ct.ok ⟨hj,Nat.le_refl _,by simp only;omega,fun x hx=>by cases hx⟩
 cases hcw:C8 E m with
 | none=>rw[Mz hcw];exact hnone
 | some q =>
  obtain⟨e,j,f⟩:=q;by_cases hn:e.name≠d.name∨j≥(d.recs.rules.length:Int)
  ·rw[RK hcw hn];exact hnone
  have hcf:=Eo hcw;have hlo:=hcf.lo;have hlt:j.toNat<d.recs.rules.length:=by omega
  have hr:=List.getElem?_eq_getElem hlt;have hrm:=List.getElem_mem hlt;by_cases he:(BY d.recs.rules[j.toNat] h.levels).2=0
  ·rw[NG hcw hn hr he];have h1:=hg.ru _ hrm;have h2:=JL h.levels h1;have h3:=J9 h.levels h1;have h4:=hE.ru d hd _ hrm;obtain⟨h5,h6⟩:=GL hcw hm;have hni:=(Fa hg.din hg.fx).1;have hf0:=hg.fx.1;have hk:(d.fixed+1+d.ctors.length).toNat≤(CB d).toNat:=by unfold CB;omega
   have hnn:(CB d+1).toNat=(CB d).toNat+1:=by unfold CB;omega
   have t1:=DC a (CB d).toNat;have t2:=DC (a.take (CB d).toNat) (d.fixed+1+d.ctors.length).toNat;rw[List.take_take,Nat.min_eq_left hk] at t2;rw[Cg hy] at t1;simp only[BX] at t1;have hlen:=(List.getElem?_eq_some_iff.1 hy).1;have u1:=Ch (a.take (d.fixed+1+d.ctors.length).toNat) (BY d.recs.rules[j.toNat] h.levels).1;have u2:=Ch f (apply (BY d.recs.rules[j.toNat] h.levels).1 (a.take (d.fixed+1+d.ctors.length).toNat));have hl1:(a.take (d.fixed+1+d.ctors.length).toNat).length≤(CB d).toNat:=by rw[List.length_take];omega
   have hl2:(a.drop ((CB d).toNat+1)).length+(CB d).toNat+1=a.length:=by rw[List.length_drop];omega
   have h7:okB (apply (apply (BY d.recs.rules[j.toNat] h.levels).1 (a.take (d.fixed+1+d.ctors.length).toNat)) f)=true :=
    LM (JK (JK (IW h2) fun x hx=>IW (ha x (List.mem_of_mem_take hx))) fun x hx=>IW (h5 x hx).1) (by rw[u2,u1];omega)
   refine Ct.put h7 fun s' hs'=>?_;obtain⟨h8,h9⟩:=hS.res _ _ _ _ hj An h7 hs';have u3:=Ch (a.drop (CB d+1).toNat) (apply (apply (BY d.recs.rules[j.toNat] h.levels).1 (a.take (d.fixed+1+d.ctors.length).toNat)) f);rw[hnn] at u3;refine Ct.ok ⟨h8,by simp only;omega,by simp only;omega,fun x hx=>?_⟩;simp only[Option.some.injEq] at hx;subst hx;rw[hnn];exact⟨LM (JK (IW h7) fun x hx=>IW (ha x (List.mem_of_mem_drop hx))) An,h9,by omega⟩
  rw[Mf hcw hn hr he];exact hnone
variable (hW:pc S J cnt C n W)
include hW
theorem eH {h:Tm}{a:List Tm}{s:σ}(hn:100≤n) (hj:J s) (ho:S.over s=false) (ha:∀x∈a,okB x=true) (hz:size h+BX a+a.length+(C - cnt s)*4500≤90100000) (hf:size h+BX a+a.length+(C - cnt s)*4501+100≤n+1) :
  Ct (ED E S W n h a s) (bu S J cnt C s (size h+BX a+a.length)):=by
 have hC:=hS.hC;have hc:=hS.nov s hj ho;have hh:=size_pos h;have hnone:Ct (.ok (none,s)) (bu S J cnt C s (size h+BX a+a.length)):=Ct.ok ⟨hj,Nat.le_refl _,by simp only;omega,fun x hx=>by cases hx⟩;cases hu:Tl E h with
 | false=>rw[JT hu];exact hnone
 | true =>
  obtain⟨i,d,h1,h2,hd,h3⟩:=JS hu;have hg:=hE.g.all d hd;by_cases k1:(Bb E h.name).1.kind=1
  ·rw[JI hu h3 k1];exact eQ hS hj hc hg.vl (hE.vl d hd) ha An
  by_cases k5:(Bb E h.name).1.kind=5
  ·rw[Hx hu h3 k5];by_cases hl:(a.length:Int)≤CB d
   ·rw[Oo hl];exact hnone
   have hni:=(Fa hg.din hg.fx).1;have hf0:=hg.fx.1;have hlt:(CB d).toNat<a.length:=by unfold CB at *;omega
   have hy:=List.getElem?_eq_getElem hlt;have hym:=List.getElem_mem hlt;have hys:=En hym;rw[RY hl hy];refine Ct.chk (hW s _ ⟨hj,ha _ hym,fun _=>by omega,fun _=>by omega,by omega⟩) fun r hr=>⟨hr.ok,?_⟩;have hub:=hr.ub ho;have hsz:=hr.sz;have hle:=hr.le;refine Ct.mono (XH hS hE hd hr.j An hr.ok ha (z:=BX a+a.length+(cnt r.2 - cnt s)*4500) hy An An) fun q hq=>?_;obtain⟨q1,q2,q3,q4⟩:=hq;exact⟨q1,by omega,by omega,fun x hx=>by obtain⟨q5,q6,q7⟩:=q4 x hx;exact⟨q5,by omega,by omega⟩⟩
  by_cases k6:(Bb E h.name).1.kind=6
  ·obtain⟨k,f,h4,h5⟩:=h2.func k6;have hf3:d.funs[(Bb E h.name).1.item.toNat]?=some f:=by rw[h5];simpa using h4
   have hfm:=List.mem_of_getElem? h4;obtain⟨f1,f2,f3⟩:=hg.fu f hfm;rw[HM hu h3 k6 hf3];by_cases hl:(a.length:Int)<f.arity
   ·rw[Ki hl];exact hnone
   rw[Kq hl];have hts:=DC a f.arity.toNat;refine Ct.bind (XE hS hE hW (V:=size h+BX a+a.length - 1+(C - cnt s)*4500) (L:=60000000) An n f.tree (a.take f.arity.toNat) Bh s (size h+BX a+a.length) (by have:=hE.fu d hd f hfm;omega) f3 An (by have:=hE.fu d hd f hfm;rw[List.length_take];omega) (by have:=hE.fu d hd f hfm;omega)
    ⟨hj,fun v hv=>ha v (List.mem_of_mem_take hv),IY,fun _ v hv=>by have:=En (List.mem_of_mem_take hv);omega,fun _ v hv=>by have:=En (List.mem_of_mem_take hv);omega,fun _=>?_,fun v hv=>by have:=En (List.mem_of_mem_take hv);omega,by have:size Bh=1:=rfl;omega⟩) fun q hq=>?_
   ·have:size Bh=1:=rfl;have:1≤a.length:=by omega
    omega
   have hub:=hq.ub ho;have hle:=hq.le;have hstop:Ct (.ok (none,q.2)) (bu S J cnt C s (size h+BX a+a.length)):=Ct.ok ⟨hq.j,hq.le,by simp only;omega,fun x hx=>by cases hx⟩;unfold PY;cases hq1:q.1.1 with
   | none=>exact hstop
   | some bv =>
    obtain⟨b,vars⟩:=bv;obtain⟨o1,o2⟩:=hq.ok b vars hq1;simp only;cases hov:S.over q.2 with
    | true=>rw[if_pos rfl];exact hstop
    | false =>
     rw[if_neg Ao];have hc2:=hS.nov _ hq.j hov;refine Ct.mono (gQ hS (z:=BX a+a.length) hq.j hc2 o1 o2 (by have:=(hq.vl b vars hq1).1;omega) (hq.vl b vars hq1).2 (fun x hx=>ha x (List.mem_of_mem_drop hx)) (by rw[List.length_drop];omega) An) fun r hr=>?_;obtain⟨q1,q2,q3,q4⟩:=hr;exact⟨q1,by omega,by omega,fun x hx=>by obtain⟨q5,q6,q7⟩:=q4 x hx;exact⟨q5,by omega,by omega⟩⟩
  rw[Ip hu k1 k5 k6];exact hnone
end
theorem GA {h:Tm}(ho:okB h=true) {i:Nat}(hi:(i:Int)<arity h.kind):∃x,h.kids[i]?=some x∧okB x=true∧size x<size h:=by
 obtain⟨k,j,n,l,ks⟩:=h;have hw:=(B2.1 ho).wt;simp only[Wt] at hw;simp only[Tm.kind] at hi;have hlt:i<ks.length:=by have:=hw.1;omega
 have hx:(Tm.mk k j n l ks).kids[i]?=some ks[i]:=List.getElem?_eq_getElem hlt;exact⟨ks[i],hx,ER ho hx,by have:=Cb (List.getElem?_eq_getElem hlt);simp only[size];omega⟩
section
variable {σ:Type}{S:Sys σ}{J:σ→Prop}{cnt:σ→Nat}{C:Nat}{E:List B5}
variable (hS:ZZ S J cnt C) (hE:Gi E)
include hS
theorem j0 {β:Type}{s:σ}{x:Tm×Int}{k:Tm→σ→Out β}{q:β→Prop}(hj:J s) (hc:cnt s<1152921504606846976) (ho:okB x.1=true) (hk:∀s',J s'→cnt s'=cnt s+1→Ct (k x.1 s') q):Ct (S.put s x k) q :=
 Ct.put ho fun s' hs'=>by obtain⟨h1,h2⟩:=hS.res _ _ _ _ hj hc ho hs';exact hk s' h1 h2
theorem nQ {β:Type}{h:Tm}{a:List Tm}{s:σ}{k:Tm→σ→Out β}{q:β→Prop}(hj:J s) (hc:cnt s<1152921504606846976) (hh:okB h=true) (ha:∀x∈a,okB x=true) (hk:h.kind=5) (hl:a.length≠0) (hz:BX a+a.length<500000000000)
  (hq:∀x s',J s'→cnt s'=cnt s+1→okB x=true→size x≤4096+BX a+a.length→Ct (k x s') q):Ct (PJ S h a s k) q:=by
 obtain⟨b,hb,ho,hs⟩:=GA hh (i:=1) (by rw[hk];decide);rw[PJ,hb];simp only;have hv:∀v∈a.take 1,okB v=true:=fun v hv=>ha v (List.mem_of_mem_take hv);have h1:=Kb ho hv (by rw[List.length_take];omega);have h2:=IH ho hv;refine j0 hS hj hc h1 fun s' g1 g2=>?_;have h3:=DC a 1;have h4:=Ch (a.drop 1) (CD b (a.take 1) 0).1;have h5:(a.drop 1).length≤a.length:=by rw[List.length_drop];omega
 exact hq _ s' g1 g2 (Fs h1 (fun x hx=>ha x (List.mem_of_mem_drop hx)) An) An
theorem rH {β:Type}{h:Tm}{a:List Tm}{s:σ}{k:Tm→σ→Out β}{q:β→Prop}(hj:J s) (hc:cnt s<1152921504606846976) (hh:okB h=true) (ha:∀x∈a,okB x=true) (hk:h.kind=11) (hz:BX a+a.length<500000000000)
  (hq:∀x s',J s'→cnt s'=cnt s+1→okB x=true→size x≤4096+BX a+a.length→Ct (k x s') q):Ct (Vq S h a s k) q:=by
 obtain⟨v,hv,ho,hs⟩:=GA hh (i:=1) (by rw[hk];decide);obtain⟨b,hb,ho2,hs2⟩:=GA hh (i:=2) (by rw[hk];decide);rw[Vq,hv,hb];simp only;have hvs:∀x∈[v],okB x=true:=fun x hx=>by rw[List.mem_singleton.1 hx];exact ho
 have h1:=Kb ho2 hvs Ao;have h2:=IH ho2 hvs;refine j0 hS hj hc h1 fun s' g1 g2=>?_;have h4:=Ch a (CD b [v] 0).1;exact hq _ s' g1 g2 (Fs h1 ha An) An
theorem nJ {β:Type}{h p:Tm}{a:List Tm}{s:σ}{k:Tm→σ→Out β}{q:β→Prop}(hj:J s) (hc:cnt s<1152921504606846976) (hp:okB p=true) (ha:∀x∈a,okB x=true) (hk:h.kind=9∨h.kind=10) (h8:p.kind=8) (hz:size p+BX a+a.length<540000000000)
  (hq:∀x s',J s'→cnt s'=cnt s+1→okB x=true→size x<size p+BX a+a.length→Ct (k x s') q):Ct (NP S h p a s k) q:=by
 have har:arity 8=3:=rfl;obtain⟨y,hy,ho,hs⟩:=GA hp (i:=(1+h.kind - 9).toNat) (by rw[h8,har];omega);rw[NP,hy];simp only;refine j0 hS hj hc ho fun s' g1 g2=>?_;have h4:=Ch a y;exact hq (apply y a) s' g1 g2 (Fs ho ha An) An
include hE
theorem Wc:∀n,pc S J cnt C n (DK E S n)
 | 0=>fun s t hp=>absurd hp.n1 An
 | n+1=>fun s t hp=>by
  have ih:=Wc n;have hC:=hS.hC;cases ho:S.over s with
  | true=>rw[bO hp.ok ho];exact Ct.ok ⟨hp.j,hp.ok,Nat.le_refl _,by simp,fun h=>absurd (ho.symm.trans h) Ao,fun _=>rfl⟩
  | false =>
   have hc:=hS.nov s hp.j ho;have hpm:=hp.pm ho;have hfu:=hp.fu ho;have hst:=size_pos t;have hss:=Fk t;obtain⟨oh,oa⟩:=FO hp.ok;have hsame:∀s',J s'→cnt s≤cnt s'→cnt s'≤C+1+size t+(C - cnt s)*4500→Ct (.ok (t,s')) (Ub S J cnt C s t):=fun s' g1 g2 g3 =>
    Ct.ok ⟨g1,hp.ok,g2,by simp only;omega,fun _=>g3,fun e=>absurd (ho.symm.trans e) Ao⟩
   have cont:∀(x:Tm) (s':σ),J s'→okB x=true→cnt s+1≤cnt s'→size x≤size t+(cnt s' - cnt s)*4500→cnt s'≤C+1+size t+(C - cnt s)*4500→Ct (DK E S n s' x) (Ub S J cnt C s t):=by
    intro x s' g1 g2 g3 g4 g5;refine Ct.mono (ih s' x ⟨g1,g2,fun h=>by have:=hS.nov _ g1 h;omega,fun h=>by have:=hS.nov _ g1 h;omega,by omega⟩) fun r hr=>?_;have hle:=hr.le;have hsz:=hr.sz;refine⟨hr.j,hr.ok,by omega,by omega,fun _=>?_,fun e=>absurd (ho.symm.trans e) Ao⟩;cases hov:S.over s' with
    | true=>rw[hr.st hov];exact g5
    | false=>have:=hr.ub hov;have:=hS.nov _ g1 hov;omega
   cases hm:S.many (A8 t).2.length with
   | true=>rw[Vn hp.ok ho hm];trivial
   | false =>
    by_cases k5:(A8 t).1.kind=5
    ·by_cases hl:(A8 t).2.length=0
     ·rw[My hp.ok ho hm k5 hl];exact hsame s hp.j (Nat.le_refl _) An
     obtain⟨b,hb,_⟩:=GA oh (i:=1) (by rw[k5];decide);have e:=QC (E:=E) (n:=n) hp.ok ho hm k5 hl hb;rw[e];have hbt:=nQ hS (k:=fun x s'=>DK E S n s' x) (q:=Ub S J cnt C s t) hp.j An oh oa k5 hl An fun x s' g1 g2 g3 g4=>cont x s' g1 g3 An An An;rw[PJ,hb] at hbt;exact hbt
    by_cases k11:(A8 t).1.kind=11
    ·obtain⟨v,hv,_⟩:=GA oh (i:=1) (by rw[k11];decide);obtain⟨b,hb,_⟩:=GA oh (i:=2) (by rw[k11];decide);rw[PQ (E:=E) (n:=n) hp.ok ho hm k11 hv hb];have hbt:=rH hS (k:=fun x s'=>DK E S n s' x) (q:=Ub S J cnt C s t) hp.j An oh oa k11 An fun x s' g1 g2 g3 g4=>cont x s' g1 g3 An An An;rw[Vq,hv,hb] at hbt;exact hbt
    by_cases k9:(A8 t).1.kind=9∨(A8 t).1.kind=10
    ·obtain⟨p,hpk,op,sp⟩:=GA oh (i:=0) (by rcases k9 with h | h<;>rw[h]<;>decide);rw[Ml (E:=E) (n:=n) hp.ok ho hm k9 hpk];refine Ct.chk (ih s p ⟨hp.j,op,fun _=>by omega,fun _=>by omega,by omega⟩) fun r hr=>⟨hr.ok,?_⟩;have hub:=hr.ub ho;have hsz:=hr.sz;have hle:=hr.le;by_cases k8:r.1.kind=8
     ·have e:Qe E S n (A8 t).1 (A8 t).2 r=NP S (A8 t).1 r.1 (A8 t).2 r.2 fun x s'=>DK E S n s' x:=by rw[Qe,if_neg An]
      rw[e];exact nJ hS hr.j An hr.ok oa k9 k8 An fun x s' g1 g2 g3 g4=>cont x s' g1 g3 An An An
     rw[KV k8];have h4:=Ch (A8 t).2 (Hn (A8 t).1.kind r.1);have h5:size (Hn (A8 t).1.kind r.1)=1+size r.1:=by simp only[Hn,size,BX];omega
     have h6:1+size p≤size (A8 t).1:=by omega
     exact Ct.ok ⟨hr.j,Fs (bh k9 hr.ok An) oa An,hle,by simp only;omega,fun _=>by simp only;omega,fun e=>absurd (ho.symm.trans e) Ao⟩
    by_cases k3:(A8 t).1.kind=3
    ·rw[Jq (E:=E) (n:=n) hp.ok ho hm k3];refine Ct.bind (eH hS hE ih An hp.j ho oa An An) fun r hr=>?_;have hub:=hr.ub;unfold YZ;cases hr1:r.1 with
     | none=>exact hsame r.2 hr.j hr.le An
     | some x =>
      obtain⟨g1,g2,g3⟩:=hr.ok x hr1;exact cont x r.2 hr.j g1 g2 An An
    rw[Tw (E:=E) (n:=n) hp.ok ho hm k5 k11 (fun h=>k9 (.inl h)) (fun h=>k9 (.inr h)) k3];exact hsame s hp.j (Nat.le_refl _) An
end
def PO:Tm→List Int→Tm→Prop
 | t,[],v=>t=v
 | t,p::ps,v=>∃y,(A8 t).2[p.toNat]?=some y∧PO y ps v
theorem Um {k:Int}{w:Tm}:∀{ps:List Int}{t v:Tm},PO t ps v→(A8 v).2[k.toNat]?=some w→PO t (ps++[k]) w
 | [],t,v,h,hw=>by cases h;exact⟨w,hw,rfl⟩
 | p::ps,t,v,⟨y,h1,h2⟩,hw=>⟨y,h1,Um h2 hw⟩
theorem VU {l:List Tm}{i:Nat}{x:Tm}(h:∀y∈l,okB y=true) (hx:okB x=true):∀y∈l.set i x,okB y=true:=fun y hy=>by
 rcases List.mem_or_eq_of_mem_set hy with hy | hy
 ·exact h y hy
 rw[hy];exact hx
theorem Xb {x v:Tm}(hx:okB x=true):∀(ps:List Int) (t:Tm),PO t ps v→okB t=true→size t+size x<549755813888→∃z,HR t ps x=some z∧okB z=true∧size z+size v=size t+size x
 | [],t,h,ho,hs=>by cases h;exact⟨x,by rw[HR],hx,by omega⟩
 | p::ps,t,⟨y,h1,h2⟩,ho,hs=>by
  have h3:=Fk t;obtain⟨oh,oa⟩:=FO ho;have hm:=List.mem_of_getElem? h1;have h4:=En hm;obtain⟨z,e1,e2,e3⟩:=Xb hx ps y h2 (oa y hm) An;have h5:=Ps (y:=z) h1;have h6:=Ch ((A8 t).2.set p.toNat z) (A8 t).1;have h7:((A8 t).2.set p.toNat z).length=(A8 t).2.length:=List.length_set;exact⟨apply (A8 t).1 ((A8 t).2.set p.toNat z),by rw[HR,h1];simp only[e1,Option.map_some],Fs oh (VU oa e2) An,by omega⟩
structure Yr (a vars:List Tm) (pl:List (Int×List Int)):Prop where
 len:pl.length=vars.length
 at_:∀(i:Nat) v,vars[i]?=some v→∃j path y,pl[i]?=some (j,path)∧a[j.toNat]?=some y∧PO y path v
theorem K3 (p:Int×List Int) (fx:Int) (n:Nat):(Ed p fx n).length=n:=by simp[Ed]
theorem Yr.more {a vars:List Tm}{pl:List (Int×List Int)}(h:Yr a vars pl) {i:Nat}{v:Tm}{p:Int×List Int}(hv:vars[i]?=some v) (hp:pl[i]?=some p) {fx:Int}(hfx:0≤fx):Yr a (vars++(A8 v).2.drop fx.toNat) (pl++Ed p fx ((A8 v).2.drop fx.toNat).length):=by
 refine⟨by rw[List.length_append,List.length_append,h.len,K3],fun q w hw=>?_⟩;by_cases hq:q<vars.length
 ·rw[List.getElem?_append_left hq] at hw;rw[List.getElem?_append_left (by rw[h.len];exact hq)];exact h.at_ q w hw
 rw[List.getElem?_append_right An] at hw;rw[List.getElem?_append_right (by rw[h.len];omega),h.len];obtain⟨j,path,y,h1,h2,h3⟩:=h.at_ i v hv;rw[hp] at h1;cases h1;have hlt:=(List.getElem?_eq_some_iff.1 hw).1;rw[List.getElem?_drop] at hw;refine⟨j,path++[fx+((q - vars.length:Nat):Int)],y,?_,h2,Um h3 (by rw[show (fx+((q - vars.length:Nat):Int)).toNat=fx.toNat+(q - vars.length) by omega];exact hw)⟩;rw[Ed,List.getElem?_map,List.getElem?_range hlt];rfl
theorem P8 (a:List Tm) (n:Nat) (hn:n≤a.length):Yr a (a.take n) ((List.range n).map fun i:Nat=>((i:Int),[])):=by
 refine⟨by simp;omega,fun i v hv=>?_⟩;have hlt:=(List.getElem?_eq_some_iff.1 hv).1;rw[List.length_take] at hlt;rw[List.getElem?_take_of_lt An] at hv;exact⟨(i:Int),[],v,by rw[List.getElem?_map,List.getElem?_range An];rfl,by simpa using hv,rfl⟩
section
variable {σ:Type}{S:Sys σ}{J:σ→Prop}{cnt:σ→Nat}{C:Nat}{E:List B5}
structure R6 (S:Sys σ) (J:σ→Prop) (cnt:σ→Nat) (s:σ) (z:Nat) (r:Option Tm×σ):Prop where
 j:J r.2
 le:cnt s≤cnt r.2
 ub:cnt r.2≤cnt s+1
 ok:∀x,r.1=some x→okB x=true∧size x≤z+4500
variable (hS:ZZ S J cnt C) (hE:Gi E)
omit hS hE in
theorem J6 {s:σ}{z:Nat}(hj:J s):Ct (.ok (none,s)) (R6 S J cnt s z):=Ct.ok ⟨hj,Nat.le_refl _,by simp,fun x e=>by simp at e⟩
include hS
theorem j1 {b h:Tm}{vars rest:List Tm}{s:σ}{z:Nat}(hj:J s) (hc:cnt s≤90000000) (hb:okB b=true) (hv:∀v∈vars,okB v=true) (hl:vars.length<549755813888) (hsv:BX vars<1125899906842624) (hr:∀x∈rest,okB x=true) (hz:BX rest+rest.length≤z) (hz2:z≤500000000000):Ct (GD S h b vars rest s) (R6 S J cnt s z):=by
 by_cases he:(BY b h.levels).2=0
 ·have h1:=JL h.levels hb;have hvr:∀v∈vars.reverse,okB v=true:=fun v hm=>hv v (List.mem_reverse.1 hm);have h2:=Kb h1 hvr (by rw[List.length_reverse];exact hl);have h3:=IH h1 hvr;rw[GD,if_neg An,if_neg (by simp only[not_or,Bool.not_eq_false];exact⟨h1,List.all_eq_true.2 hv,by omega⟩)];refine j0 hS hj An h2 fun s' h4 h5=>?_;have h6:=Ch rest (CD (BY b h.levels).1 vars.reverse 0).1;refine Ct.ok ⟨h4,by simp only;omega,by simp only;omega,fun x hx=>?_⟩;simp only[Option.some.injEq] at hx;subst hx;exact⟨Fs h2 hr An,by omega⟩
 rw[Ig he];exact J6 hj
include hE
theorem bq {T:σ→Tm→Out (Option Tm×σ)}{h:Tm}{ar:Int}{a:List Tm}{z:Nat}(hh:okB h=true) (ha:∀x∈a,okB x=true) (hz:size h+BX a+a.length≤z) (hz2:z≤1000000000) (hT:∀v s,J s→cnt s≤90000000→okB v=true→size v<z→Ct (T s v) (R6 S J cnt s (size v))) :
  ∀(m:Nat) (t:ES) (vars:List Tm) (pl:List (Int×List Int)) (s:σ),Dc t≤m→EW t→(∀v∈vars,okB v=true∧size v<z)→vars.length+Dc t*1000000≤100000000→BX vars+Dc t*549755813888<1125899906842624→Yr a vars pl→J s→cnt s≤90000000→Ct (Ix E S T h ar a m t vars pl s) (R6 S J cnt s z)
 | 0,t,vars,pl,s,hd,_,_,_,_,_,_,_=>absurd hd (by have:=Sw t;omega)
 | m+1,t,vars,pl,s,hd,ht,hv,hL,hM,hp,hj,hc=>by
  rw[Ix];split
  ·split
   ·exact J6 hj
   rename_i hb;have hlt:t.var.toNat<vars.length:=by omega
   have hx:=List.getElem?_eq_getElem hlt;have hxm:=List.getElem_mem hlt;obtain⟨j,path,y,p1,p2,p3⟩:=hp.at_ _ _ hx;rw[B6 hx,B6 p1];obtain⟨v1,v2⟩:=hv _ hxm;have hym:=List.mem_of_getElem? p2;have hys:=En hym;cases hc2:C8 E vars[t.var.toNat] with
   | none =>
    refine Ct.bind (hT _ s hj hc v1 v2) fun r hr=>?_;cases hr1:r.1 with
    | none=>exact Ct.ok ⟨hr.j,hr.le,hr.ub,fun x e=>by simp at e⟩
    | some x =>
     obtain⟨o1,o2⟩:=hr.ok x hr1;simp only[B6 p2];obtain⟨w,e1,e2,e3⟩:=Xb o1 path y p3 (ha y hym) An;rw[e1];have h5:=Ps (y:=w) p2;have h6:=Ch (a.set j.toNat w) h;have h7:(a.set j.toNat w).length=a.length:=List.length_set;refine Ct.ok ⟨hr.j,hr.le,hr.ub,fun q e=>?_⟩;simp only[Option.some.injEq] at e;subst e;exact⟨Fs hh (VU ha e2) An,by omega⟩
   | some q =>
    obtain⟨d,k,f⟩:=q;simp only;cases hbr:Ca (Df d k).name t.branches with
    | none=>exact J6 hj
    | some t' =>
     have hcf:=Eo hc2;obtain⟨b1,b2⟩:=Sx hbr ht;obtain⟨f1,f2⟩:=GL hc2 v1;have hfx:=(hE.g.all d hcf.mem).fx.1;have hfl:=Io hE.g hc2;have hmore:=hp.more hx p1 hfx;rw[←hcf.fs] at hmore;simp only;exact bq hh ha hz hz2 hT m t' (vars++f) _ s An b1 (fun v hm=>by
      rcases List.mem_append.1 hm with hm | hm
      ·exact hv v hm
      exact⟨(f1 v hm).1,by have:=(f1 v hm).2;omega⟩) (by rw[List.length_append];omega) (by rw[Hi];omega) hmore hj hc
  obtain⟨k,b,v,l⟩:=t;simp only[EW] at ht;have hd:=DC a ar.toNat;have hdl:(a.drop ar.toNat).length≤a.length:=by rw[List.length_drop];omega
  exact j1 hS hj hc ht.1 (fun v hm=>(hv v hm).1) An An (fun x hm=>ha x (List.mem_of_mem_drop hm)) An An
theorem RQ:∀(n:Nat) (s:σ) (t:Tm),J s→cnt s≤90000000→okB t=true→size t+100≤n→size t≤1000000000→Ct (Dl E S n s t) (R6 S J cnt s (size t))
 | 0,s,t,_,_,_,h,_=>absurd h An
 | n+1,s,t,hj,hc,ho,hn,hz=>by
  have hst:=size_pos t;have hss:=Fk t;obtain⟨oh,oa⟩:=FO ho;have hhp:=size_pos (A8 t).1;have one:∀(x:Tm) (s':σ),J s'→cnt s'=cnt s+1→okB x=true→size x≤4096+size t→Ct (.ok (some x,s')) (R6 S J cnt s (size t)):=fun x s' g1 g2 g3 g4 =>
   Ct.ok ⟨g1,by simp only;omega,by simp only;omega,fun y e=>by simp only[Option.some.injEq] at e;subst e;exact⟨g3,by omega⟩⟩
  rw[Dl,if_neg (by simp[ho])];split
  ·rename_i k5;split
   ·exact J6 hj
   rename_i hl;exact nQ hS hj An oh oa k5 hl An fun x s' g1 g2 g3 g4=>one x s' g1 g2 g3 An
  split
  ·rename_i k11;exact rH hS hj An oh oa k11 An fun x s' g1 g2 g3 g4=>one x s' g1 g2 g3 An
  split
  ·rename_i k9;obtain⟨p,hpk,op,sp⟩:=GA oh (i:=0) (by rcases k9 with h | h<;>rw[h]<;>decide);rw[hpk];simp only;split
   ·rename_i k8;exact nJ hS hj An op oa k9 k8 An fun x s' g1 g2 g3 g4=>one x s' g1 g2 g3 An
   refine Ct.bind (RQ n s p hj hc op An An) fun r hr=>?_;cases hr1:r.1 with
   | none=>exact Ct.ok ⟨hr.j,hr.le,hr.ub,fun x e=>by simp at e⟩
   | some x =>
    obtain⟨o1,o2⟩:=hr.ok x hr1;have h4:=Ch (A8 t).2 (Hn (A8 t).1.kind x);have h5:size (Hn (A8 t).1.kind x)=1+size x:=by simp only[Hn,size,BX];omega
    refine Ct.ok ⟨hr.j,hr.le,hr.ub,fun y e=>?_⟩;simp only[Option.some.injEq] at e;subst e;exact⟨Fs (bh k9 o1 An) oa An,by omega⟩
  split
  ·cases hu:Tl E (A8 t).1 with
   | false=>rw[C3,hu];exact J6 hj
   | true =>
    obtain⟨i,d,h1,h2,hd,h3⟩:=JS hu;have hg:=hE.g.all d hd;have hda:Bo E (Bb E (A8 t).1.name).1.decl=d:=B6 h3;rw[C3,hu,if_pos rfl];simp only[hda];split
    ·by_cases he:(BY d.value (A8 t).1.levels).2=0
     ·rw[Jr he];have l1:=J9 (A8 t).1.levels hg.vl;have l2:=JL (A8 t).1.levels hg.vl;have l3:=hE.vl d hd;refine j0 hS hj An l2 fun s' g1 g2=>?_;have h5:=Ch (A8 t).2 (BY d.value (A8 t).1.levels).1;exact one _ s' g1 g2 (Fs l2 oa (by simp only;omega)) (by simp only;omega)
     rw[JO he];exact J6 hj
    split
    ·rename_i hr5;have hni:=(Fa hg.din hg.fx).1;have hf0:=hg.fx.1;have hlt:(CB d).toNat<(A8 t).2.length:=by have:=hr5.2;unfold CB at *;omega
     have hy:=List.getElem?_eq_getElem hlt;have hym:=List.getElem_mem hlt;have hys:=En hym;rw[B6 hy];cases hcw:C8 E (A8 t).2[(CB d).toNat] with
     | some q =>
      refine Ct.mono (XH hS hE hd hj An (oa _ hym) oa (z:=BX (A8 t).2+(A8 t).2.length) hy An An) fun q hq=>?_;obtain⟨q1,q2,q3,q4⟩:=hq;exact⟨q1,q2,q3,fun x hx=>by obtain⟨q5,q6,q7⟩:=q4 x hx;exact⟨q5,by omega⟩⟩
     | none =>
      refine Ct.bind (RQ n s _ hj hc (oa _ hym) An An) fun r hr=>?_;cases hr1:r.1 with
      | none=>exact Ct.ok ⟨hr.j,hr.le,hr.ub,fun x e=>by simp at e⟩
      | some x =>
       obtain⟨o1,o2⟩:=hr.ok x hr1;have h5:=Ps (y:=x) hy;have h6:=Ch ((A8 t).2.set (CB d).toNat x) (A8 t).1;have h7:((A8 t).2.set (CB d).toNat x).length=(A8 t).2.length:=List.length_set;refine Ct.ok ⟨hr.j,hr.le,hr.ub,fun y e=>?_⟩;simp only[Option.some.injEq] at e;subst e;exact⟨Fs oh (VU oa o1) An,by omega⟩
    split
    ·rename_i hr6;obtain⟨k,f,h4,h5⟩:=h2.func hr6.1;have hfa:EX d (Bb E (A8 t).1.name).1.item=f:=B6 (by rw[h5];simpa using h4);have hfm:=List.mem_of_getElem? h4;obtain⟨f1,f2,f3⟩:=hg.fu f hfm;have hdep:=hE.fu d hd f hfm;rw[hfa] at hr6 ⊢;refine bq hS hE (z:=size t) oh oa An hz (fun v s' g1 g2 g3 g4=>RQ n s' v g1 g2 g3 An An) n f.tree _ _ s An f3 (fun v hv=>⟨oa v (List.mem_of_mem_take hv),by have:=En (List.mem_of_mem_take hv);omega⟩) (by rw[List.length_take];omega) (by have:=DC (A8 t).2 f.arity.toNat;omega) ?_ hj hc;exact P8 _ _ An
    exact J6 hj
  exact J6 hj
end
section
variable {σ:Type}{S:Sys σ}{J:σ→Prop}{cnt:σ→Nat}{C:Nat}{E:List B5}
variable (hS:ZZ S J cnt C) (hE:Gi E)
include hS hE
end
def sc (c:Et):Prop:=c.limit=1000∧0≤c.steps∧(c.over=false→c.steps≤1000)
theorem lg:ZZ Db sc (fun c=>c.steps.toNat) 1000:=by
 refine⟨fun c h ho=>?_,fun c t e c' h hc ho hr=>?_,by omega⟩
 ·have h1:=h.2.1;have h2:=h.2.2 ho;omega
 simp only[Db,Option.some.injEq] at hr;subst hr;obtain⟨h1,h2,h3⟩:=h;have hw:wr (c.steps+1)=c.steps+1:=EP (by unfold JE;omega);simp only[Et.result,Et.form,sc,hw,h1];refine⟨⟨Ap,by omega,fun ho=>?_⟩,by omega⟩;simp only[Bool.or_eq_false_iff,decide_eq_false_iff_not] at ho;omega
def Gl (n:Int):Prop:=0≤n∧n≤20000
theorem WD:ZZ Bp Gl (fun n=>(20000 - n).toNat) 20000:=by
 refine⟨fun n h _=>?_,fun n t e n' h hc ho hr=>?_,by omega⟩
 ·have:=h.1;omega
 simp only[Bp] at hr;split at hr
 ·cases hr
 cases hr;unfold Gl at *;omega
theorem OG {E:List B5}{nm:ByteArray}(h:(Cd E nm).2.2=true):D7 E nm=some ((Cd E nm).1,(Cd E nm).2.1):=by
 unfold Cd at h ⊢;split at h
 ·rename_i d j e;rw[e]
 cases h
theorem l4 {E:List B5}{nm:ByteArray}(h:(Cd E nm).2.2=false):D7 E nm=none:=by
 unfold Cd at h;split at h
 ·cases h
 rename_i e;exact e
theorem Yz {E:List B5}{nm:ByteArray}(hE:Ju E) (h:(Cd E nm).2.2=true) (hj:¬(Cd E nm).2.1<0):Ox (Cd E nm).1∧(0≤(Cd E nm).1.fixed∧(Cd E nm).1.fixed≤1000000)∧0≤(Cd E nm).2.1∧(Cd E nm).2.1<(Cd E nm).1.ctors.length:=by
 obtain⟨h1,h2⟩:=Pu (OG h);exact⟨(hE.all _ h1).din,(hE.all _ h1).fx,by omega,h2 An⟩
section
variable {E:List B5}{t:Tm}{k i:Int}{n:ByteArray}{ls:List CS}{ks:List Tm}
theorem bY (hz:(A8 t).1= .mk k i n ls ks) (h:k≠3):C8 E t=none:=by
 have hk:(A8 t).1.kind=k:=by rw[hz];rfl
 unfold C8;rw[if_pos An]
theorem bz (hz:(A8 t).1= .mk k i n ls ks) (h3:k=3) (h:(Cd E n).2.2=false∨(Cd E n).2.1<0):C8 E t=none:=by
 have hk:(A8 t).1.kind=k:=by rw[hz];rfl
 have hnm:(A8 t).1.name=n:=by rw[hz];rfl
 unfold C8;rw[if_neg An,hnm];cases hf:(Cd E n).2.2 with
 | false=>rw[l4 hf]
 | true =>
  rw[OG hf];rcases h with h | h
  ·rw[hf] at h;cases h
  simp only[if_pos h]
theorem aT (hz:(A8 t).1= .mk k i n ls ks) (h3:k=3) (hf:(Cd E n).2.2=true) (hj:¬(Cd E n).2.1<0) (h:((A8 t).2.length:Int)≠(Cd E n).1.fixed+C7 (Cd E n).1 (Cd E n).2.1):C8 E t=none:=by
 have hk:(A8 t).1.kind=k:=by rw[hz];rfl
 have hnm:(A8 t).1.name=n:=by rw[hz];rfl
 unfold C8;rw[if_neg An,hnm,OG hf];simp only[if_neg hj,if_pos h]
theorem iQ (hz:(A8 t).1= .mk k i n ls ks) (h3:k=3) (hf:(Cd E n).2.2=true) (hj:¬(Cd E n).2.1<0) (h:((A8 t).2.length:Int)=(Cd E n).1.fixed+C7 (Cd E n).1 (Cd E n).2.1):C8 E t=some ((Cd E n).1,(Cd E n).2.1,(A8 t).2.drop (Cd E n).1.fixed.toNat):=by
 have hk:(A8 t).1.kind=k:=by rw[hz];rfl
 have hnm:(A8 t).1.name=n:=by rw[hz];rfl
 unfold C8;rw[if_neg An,hnm,OG hf];simp only[if_neg hj,if_neg (show ¬((A8 t).2.length:Int)≠(Cd E n).1.fixed+C7 (Cd E n).1 (Cd E n).2.1 by omega)]
end
theorem K1 {d:B5}{j:Int}(h:Ox d) (h0:0≤j) (h1:j<d.ctors.length) (hf:0≤d.fixed):0≤C7 d j∧C7 d j≤1000000:=by
 have hlt:j.toNat<d.ctors.length:=by omega
 have hx:=List.getElem?_eq_getElem hlt;have hs:=(h.cs _ (List.getElem_mem hlt)).ty.sz;have hl:=IX d.ctors[j.toNat].type;unfold C7 Ze Df;rw[B6 hx];omega
section
variable {E:List B5}{t:Tm}{k i:Int}{n:ByteArray}{ls:List CS}{ks:List Tm}
theorem kQ (hz:(A8 t).1= .mk k i n ls ks) (h3:k=3) (h:(Cd E n).2.2=false∨(Cd E n).2.1<0∨((A8 t).2.length:Int)≠(Cd E n).1.fixed+C7 (Cd E n).1 (Cd E n).2.1):C8 E t=none:=by
 by_cases h1:(Cd E n).2.2=false∨(Cd E n).2.1<0
 ·exact bz hz h3 h1
 rcases h with h | h | h
 ·exact absurd (.inl h) h1
 ·exact absurd (.inr h) h1
 exact aT hz h3 (by simpa using fun e=>h1 (.inl e)) (fun e=>h1 (.inr e)) h
end
theorem SG {d:B5}{j:Int}{x:IS}(hx:d.ctors[j.toNat]?=some x) (hf:0≤d.fixed):d.fixed+C7 d j=max d.fixed (((HB x.type).1.length:Nat):Int):=by
 unfold C7 Ze Df;rw[B6 hx];omega
def CL (E:List B5) (t:Tm):B5×Int×List Tm×Bool:=match C8 E t with
 | some (d,j,l)=>(d,j,l,true)
 | none=>(Yd,0,[],false)
theorem Mm {E:List B5}{t:Tm}(h:C8 E t=none):CL E t=(Yd,0,[],false):=by unfold CL;rw[h]
theorem RE {E:List B5}{t:Tm}{d:B5}{j:Int}{l:List Tm}(h:C8 E t=some (d,j,l)):CL E t=(d,j,l,true):=by unfold CL;rw[h]
theorem M0 {E:List B5}{t:Tm}(h:(CL E t).2.2.2=true):C8 E t=some ((CL E t).1,(CL E t).2.1,(CL E t).2.2.1):=by
 cases e:C8 E t with
 | none=>rw[Mm e] at h;cases h
 | some q=>obtain⟨d,j,l⟩:=q;rw[RE e]
theorem Ob {E:List B5}{t:Tm}(h:(CL E t).2.2.2=false):C8 E t=none:=by
 cases e:C8 E t with
 | none=>rfl
 | some q=>obtain⟨d,j,l⟩:=q;rw[RE e] at h;cases h
end Go.Eu
namespace Go.Eu
def NJ (nm:ByteArray):List GC→Int→Int
 | [],_=> -1
 | b::l,i=>if b.ctor=nm then i else NJ nm l (i+1)
theorem kh {nm:ByteArray}{l:List GC}{i:Nat}{x:GC}{k:Int}(h:l[i]?=some x) (e:x.ctor.toList=nm.toList):NJ nm (l.drop i) k=k:=by
 rw[Cg h,NJ,if_pos (F3 e)]
theorem po {nm:ByteArray}{l:List GC}{i:Nat}{x:GC}{k:Int}(h:l[i]?=some x) (e:¬x.ctor.toList=nm.toList):NJ nm (l.drop i) k=NJ nm (l.drop (i+1)) (k+1):=by
 rw[Cg h,NJ,if_neg (fun q=>e (by rw[q]))]
theorem Zy {nm:ByteArray}:∀(l:List GC) (k:Int),0≤k→NJ nm l k<0∧Ca nm l=none∨∃(j:Nat) (x:GC),NJ nm l k=k+j∧l[j]?=some x∧Ca nm l=if x.absurd=true then none else some x.tree
 | [],k,h=> .inl ⟨by simp[NJ],rfl⟩
 | b::l,k,h=>by
  rw[NJ,Ca];split
  ·exact .inr ⟨0,b,by simp,rfl,rfl⟩
  rcases Zy l (k+1) An with h1 | ⟨j,x,h1,h2,h3⟩
  ·exact .inl h1
  exact .inr ⟨j+1,x,by rw[h1];push_cast;omega,by simpa using h2,h3⟩
theorem iD {nm:ByteArray}{l:List GC}(h:NJ nm l 0<0):Ca nm l=none:=by
 rcases Zy (nm:=nm) l 0 An with h1 | ⟨j,x,h1,h2,h3⟩
 ·exact h1.2
 omega
theorem pw {nm:ByteArray}{l:List GC}(h:¬NJ nm l 0<0):∃x,l[(NJ nm l 0).toNat]?=some x∧Ca nm l=if x.absurd=true then none else some x.tree:=by
 rcases Zy (nm:=nm) l 0 An with h1 | ⟨j,x,h1,h2,h3⟩
 ·exact absurd h1.1 h
 exact⟨x,by rw[h1];simpa using h2,h3⟩
end Go.Eu
namespace Go.Eu
open Go.Abs
theorem fy {nm:ByteArray}:∀{l:List GC}{t:ES},Ca nm l=some t→Nb l→Hu t
 | .mk c a q::l,t,h,ho=>by
  simp only[Nb,Rz] at ho;rw[Ca] at h;split at h
  ·split at h
   ·cases h
   cases h;exact ho.1.2
  exact fy h ho.2
theorem qv {nm:ByteArray}{t t':ES}(h:Ca nm t.branches=some t') (ho:Hu t):Hu t':=fy h ho.bs
def KY (q:Option (Tm×List Tm)×Tm):Tm:=match q.1 with
 | some (b,_)=>b
 | none=>Bh
def N9 (q:Option (Tm×List Tm)×Tm):List Tm:=match q.1 with
 | some (_,v)=>v
 | none=>[]
structure Tg (y:ES) (us:List Tm):Prop where
 tin:Hu y
 tok:EW y
 len:us.length+Dc y*1000000≤100000000
 ok:∀v∈us,okB v=true
theorem Tg.next {E:List B5}{y q:ES}{us f:List Tm}{x:Tm}{nm:ByteArray}{d:B5}{j:Int}(h:Tg y us) (hE:Ju E) (hx:okB x=true) (hc:C8 E x=some (d,j,f)) (hb:Ca nm y.branches=some q):Tg q (us++f):=by
 obtain⟨h1,h2⟩:=Sx hb h.tok;have h3:=Io hE hc;have h4:=h.len;refine⟨qv hb h.tin,h1,by rw[List.length_append];omega,fun v hv=>?_⟩;rcases List.mem_append.1 hv with hv | hv
 ·exact h.ok v hv
 exact((GL hc hx).1 v hv).1
def Yu:ES:= .mk 0 Bh 0 []
def ZB (nm:ByteArray):List GC→ES×Bool
 | []=>(Yu,false)
 | b::l=>if b.ctor=nm then (b.tree,!b.absurd) else ZB nm l
theorem jo {nm:ByteArray}{l:List GC}{i:Nat}{x:GC}(h:l[i]?=some x):ZB nm (l.drop i)=if x.ctor=nm then (x.tree,!x.absurd) else ZB nm (l.drop (i+1)):=by rw[Cg h,ZB]
theorem fH (nm:ByteArray):∀(l:List GC),Ca nm l=if (ZB nm l).2=true then some (ZB nm l).1 else none
 | []=>rfl
 | b::l=>by
  rw[Ca,ZB];split
  ·cases b.absurd<;>rfl
  exact fH nm l
theorem iW {nm:ByteArray}{l:List GC}(h:(ZB nm l).2=true):Ca nm l=some (ZB nm l).1:=by rw[fH,if_pos h]
theorem gz {nm:ByteArray}{l:List GC}(h:(ZB nm l).2=false):Ca nm l=none:=by rw[fH,if_neg (by simp[h])]
def e9 (nm:ByteArray) (l:List GC):ES×Bool:=match Ca nm l with
 | some q=>(q,true)
 | none=>(Yu,false)
theorem fZ {nm:ByteArray}{l:List GC}(h:Ca nm l=none):e9 nm l=(Yu,false):=by unfold e9;rw[h]
theorem jL {nm:ByteArray}{l:List GC}{q:ES}(h:Ca nm l=some q):e9 nm l=(q,true):=by unfold e9;rw[h]
theorem W5 {nm:ByteArray}{l:List GC}(h:(e9 nm l).2=true):Ca nm l=some (e9 nm l).1:=by
 cases e:Ca nm l with
 | none=>rw[fZ e] at h;cases h
 | some q=>rw[jL e]
theorem Wq {nm:ByteArray}{l:List GC}(h:(e9 nm l).2=false):Ca nm l=none:=by
 cases e:Ca nm l with
 | none=>rfl
 | some q=>rw[jL e] at h;cases h
end Go.Eu
namespace Go.Proofs.YtboammbpdaoojaaGreat
open Go.Abs Go.Eu
theorem _root_.Go.AR {α:Prop}(h:α:=by simp only[BQ,List.length_map];omega):α:=h
theorem Ww:∀(ds:List B5) (t:Tm),(Ju ds)→(okB t=true)→ET Tryz.prog 49 [.p (.lst (List.map Bi ds)),.agg ((BP t).map .p)] (.tup [.agg ((Bi ((CL ds t).1)).map .p),.p (I ((CL ds t).2.1)),.p (.lst (BE ((CL ds t).2.2.1))),.p (.bool ((CL ds t).2.2.2))]):=by
 intro ds t h1 h2;have ho:=B2.1 h2;have hosz:=ho.sz;have hoss:=Fk t;have hosl:=Po t;have hosp:=FO h2;refine A5 Tryz.func49 O vH (n:=54) O O (Aw (BF O (BN O) fun b3=>BF O (A7 Jw O) fun b4=>Ar Ay 3 [] O (Aw (Aq O (BU (i:=1) BZ O O Ag) (Aq O (BC O O (Ri _ t (Nat.le_refl _) Ab) O) (Ax Ay 3 [] O (BF O (A7 Bx O) fun b8=>Ar Ay 2 [0,1] O (As (Aw (Aq O (Az HJ O O) ?_))))))))));generalize hz:(A8 t).1=z;obtain⟨zk,zi,zn,zl,zs⟩:=z;refine Ar Ay 2 [0] O (Av O (fun c=>?_) (fun c=>?_))
 ·simp only[sd,se] at c;refine Au Ay 5 [1,0] O (BH (BW (i:=1) O) (BH (D3 6) (A1 (⟨O,_,_,⟨_,_,O,(BA (i:=1) FZ O O O),⟨_,_,O,O,⟨_,_,O,O,⟨_,_,O,O,O⟩⟩⟩⟩,(List.nil_sublist _),?_⟩))))
  all_goals exact⟨by show (.tup [.agg [.p (I 0),.p (.str ⟨#[]⟩),.p (I 0),.p (I 0),.p (I 0),.p (.str ⟨#[]⟩),.p (.lst []),.p (.lst []),.p (I 0),.p (I 0),.p (.str ⟨#[]⟩),.p (.lst []),.p (.lst []),.p (I 0),.p (.lst []),.p (I 0),.p (I 0),.p (I 0),.p (.str ⟨#[]⟩),.p (.lst []),.p (.lst []),.p (.lst []),.p (.lst [])],.p (I 0),.p (.lst (BE [])),.p (.bool false)]:AV)=_;rw[Mm (bY hz c)];rfl,rfl⟩
 simp only[sd,se] at c;refine A2 (Aw (Ax Ay 3 [0] O (Aq O (BC O O (TS ds zn h1.env) O) (Ax Ay 4 [] O (BF O (A7 Jw O) fun b10=>Ar Ay 3 [0,1] O (As (As (BT [4,9,10,11] 46 (fun y=>y= .p (.bool (((!((Cd ds zn).2.2))||(decide (((Cd ds zn).2.1:Int)<(0:Int))))||(((((A8 t).2).length:Nat):Int) !=((((Cd ds zn).1).fixed:Int)+(C7 (Cd ds zn).1 (Cd ds zn).2.1:Int):Int))))) ?_ ?_))))))))
 ·refine Bt (fun k=>false) Dn (BR Ay 3 [] O (D6 32 O (fun g=>?_) (fun g=>?_)))
  ·simp only[sd,se] at g;exact Bk Ay 14 [] O (⟨O,O,AM,AI,⟨O,O,O,O,Ap⟩⟩)
  simp only[sd,se] at g;have hf1:(Cd ds zn).2.2=true:=by simpa using g
  refine BR Ay 4 [] O (D6 36 O (fun g1=>?_) (fun g1=>?_))
  ·simp only[sd,se] at g1;exact Bk Ay 10 [] O (⟨O,O,AM,AI,⟨O,O,O,O,Ap⟩⟩)
  simp only[sd,se] at g1;have hf2:¬(Cd ds zn).2.1<0:=by simpa using g1
  have hfd:=Yz h1 hf1 hf2;have hfr:=K1 hfd.1 hfd.2.2.1 hfd.2.2.2 hfd.2.1.1;have hfx:=hfd.2.1;exact Ce O (fun _=>Ba O) Ap (Ce O (fun _=>BJ Bf O (BQ _)) Ap (Ce O (fun _=>Az C5 O O) Ap (MB (i:=0) O O O O O (fun H i hi=>A0 (i:=i) DM O hi (Cr _)) AB Ap (BR Ay 2 [0] O (Ce O (fun _=>BC O O (Uu ((Cd ds zn).1) ((Cd ds zn).2.1) hfd.1 hfd.2.1 hfd.2.2.1 hfd.2.2.2) O) Ap (Bk Ay 3 [] O (⟨O,O,AM,AI,⟨O,O,O,O,Ap⟩⟩)))))))
 rintro _ rfl;refine Av O (fun c1=>?_) (fun c1=>?_)
 ·simp only[sd,se] at c1;have hcc:=or_assoc.1 c1;refine Au Ay 5 [2,0] O (BH (BW (i:=2) O) (BH (D3 6) (A1 (⟨O,_,_,⟨_,_,O,(BA (i:=2) FZ O O O),⟨_,_,O,O,⟨_,_,O,O,⟨_,_,O,O,O⟩⟩⟩⟩,(List.nil_sublist _),?_⟩))))
  all_goals exact⟨by show (.tup [.agg [.p (I 0),.p (.str ⟨#[]⟩),.p (I 0),.p (I 0),.p (I 0),.p (.str ⟨#[]⟩),.p (.lst []),.p (.lst []),.p (I 0),.p (I 0),.p (.str ⟨#[]⟩),.p (.lst []),.p (.lst []),.p (I 0),.p (.lst []),.p (I 0),.p (I 0),.p (I 0),.p (.str ⟨#[]⟩),.p (.lst []),.p (.lst []),.p (.lst []),.p (.lst [])],.p (I 0),.p (.lst (BE [])),.p (.bool false)]:AV)=_;rw[Mm (kQ hz (by simpa using c) hcc)];rfl,rfl⟩
 simp only[sd,se] at c1;have hcc:(Cd ds zn).2.2=true∧¬(Cd ds zn).2.1<0∧((A8 t).2.length:Int)=(Cd ds zn).1.fixed+C7 (Cd ds zn).1 (Cd ds zn).2.1:=⟨c1.1.1,by omega,c1.2⟩;have hfd:=Yz h1 hcc.1 hcc.2.1;have hfr:=K1 hfd.1 hfd.2.2.1 hfd.2.2.2 hfd.2.1.1;have hfx:=hfd.2.1;have hl3:=hcc.2.2;refine A2 (As (Bt (fun k=>false) Dn (BR Ay 4 [0] O (CV (j:=0) O O O (fun H i hi=>A0 (i:=i) DM O hi (Cr _)) AB Ap (BG O (fun _=>CZ (lo:=(((Cd ds zn).1).fixed:Int).toNat) Bf O (CG (Bv _)) ⟨_,pI An⟩ O AR (Nat.le_refl _) (J0 ((A8 t).2) ((((Cd ds zn).1).fixed:Int).toNat))) Ap (Bk Ay 4 [2,1] O (A1 (⟨O,_,_,⟨_,_,O,(BA (i:=2) FZ O O Ad),⟨_,_,O,O,⟨_,_,O,O,⟨_,_,O,O,O⟩⟩⟩⟩,(List.nil_sublist _),?_⟩))))))))
 all_goals exact⟨by show (.tup [.agg ((Bi ((Cd ds zn).1)).map .p),.p (I ((Cd ds zn).2.1)),.p (.lst (BE (((A8 t).2).drop ((((Cd ds zn).1).fixed:Int).toNat)))),.p (.bool true)]:AV)=_;rw[RE (iQ hz (by simpa using c) hcc.1 hcc.2.1 hcc.2.2)],rfl⟩
theorem pA:∀(l b1 b2:Nat) (d:B5) (at_:Int) (nm:ByteArray) (TA:Fq→List BK) (T0:List BK),(d.kind=0∨Ox d)→(∀s e,(s,e)∈Ew d at_→MJ Tryz.prog l [.p (.str s),.agg ((DS e).map .p)] T0 (Wh (.p (.bool (!decide (s=nm)))) (fun T=>T=if s=nm then TA e else T0)))→Bn Tryz.prog 170 [.fn (.yield l) [] [],.ptr b2 0,.ptr b1 0] (.box b1 ((Bi d).map .p):: .box b2 [.p (I at_)]::T0) (Wh (.tup []) (fun H=>∃T,T=I3 TA T0 nm (Ew d at_)∧H= .box b1 ((Bi d).map .p):: .box b2 [.p (I at_)]::T)):=by
 intro l b1 b2 d at_ nm TA T0 h1 h2;refine A5 Tryz.func170 O rj (n:=98) O O (Aw (Ax Ay 2 [1] O (Aq O (A0 (i:=0) DM O O (Cn _)) (Aq O (Az C5 O O) (Aq O (Bw (i:=0) BZ O O (E3 _) (BD _)) (Aq O (CO GO IK (fj O O O)) (BF O (A7 IK O) fun b4=>Ar Ay 1 [0,1] O (Aw (Aq O (Az C5 O O) (Aq O (A0 (i:=1) DM O O (Dz _)) (Bg O (A9 (As (Au Ay 2 [] O (BT [0,1,2,4,16] 17 (fun y=>y= .p (.bool (decide (d.kind=0∨d.kind=1∨d.kind=2)))) ?_ ?_)))))))))))))))
 ·refine Av O (fun c=>?_) (fun c=>?_)
  ·simp only[sd,se] at c;exact A2 (⟨O,O,(List.Sublist.refl _),(by refine pB (Bool.eq_iff_iff.2 ?_);simp only[beq_iff_eq,decide_eq_true_eq];omega),⟨O,O,O,O,O,Ap⟩⟩)
  simp only[sd,se] at c;refine Au Ay 2 [] O (Av O (fun c1=>?_) (fun c1=>?_))
  ·simp only[sd,se] at c1;exact A2 (⟨O,O,(List.Sublist.refl _),(by refine pB (Bool.eq_iff_iff.2 ?_);simp only[beq_iff_eq,decide_eq_true_eq];omega),⟨O,O,O,O,O,Ap⟩⟩)
  simp only[sd,se] at c1;exact A3 (Ar Ay 2 [] O (⟨O,O,(List.Sublist.refl _),(by refine pB (Bool.eq_iff_iff.2 ?_);simp only[beq_iff_eq,decide_eq_true_eq];omega),⟨O,O,O,O,O,Ap⟩⟩))
 rintro _ rfl;refine Av O (fun c=>?_) (fun c=>?_)
 ·simp only[sd,se] at c;have hx0:([0,1,2]:List Int)[d.kind.toNat]?=some d.kind:=by
   have:d.kind=0∨d.kind=1∨d.kind=2:=by simpa using c
   rcases this with e | e | e<;>rw[e]<;>rfl
  have hk0:0≤d.kind∧d.kind<3:=by
   have:d.kind=0∨d.kind=1∨d.kind=2:=by simpa using c
   omega
  refine Aw (Aq O (Bl Hr ki O O O O O) (Aq O (Az C5 O O) (Aq O (A0 (i:=1) DM O O (Dz _)) (Aq O (A4 Hr O O An (MS hx0) (O)) (Ax Ay 2 [] O (Aq O (Dw (i:=0) (ds:=(DS (Fq.mk d.kind at_ 0 d.params d.type)).map .p) DM O O O O O O O) (Bg O (A3 (Ax Ay 2 [] O (Aq O (A0 (i:=1) MI O O (DF _)) (Aq O (BU (i:=0) L3 O O Af) (JH [_,_,_] O O O O (h2 _ _ (gZ (by simpa using c))) O ?_ (fun _ _ h=>h.elim)))))))))))));rintro _ T ⟨rfl,hT⟩;refine Bg O ⟨O,_,_,O,(G3 [1,2] [_,_,_] O),?_⟩;exact⟨O,_,(hT.trans (ZA (by simpa using c)).symm),O⟩
 simp only[sd,se] at c;have hD:Ox d:=by
  rcases h1 with h | h
  ·exact absurd (show d.kind=0∨d.kind=1∨d.kind=2 from .inl h) (by simpa using c)
  exact h
 have hcl:=hD.cl;have hfl:=hD.fl;refine Au Ay 2 [] O (Av O (fun c1=>?_) (fun c1=>?_))
 ·simp only[sd,se] at c1;refine Aw (Aq O (Az GO O O) (Aq O (Dw (i:=0) (ds:=(DS (Fq.mk 3 at_ 0 d.params d.type)).map .p) DM O O O O O O O) (Bg O (As (Aw (Ax Ay 2 [] O (Aq O (A0 (i:=1) MI O O (DF _)) (Aq O (BU (i:=0) L3 O O Af) (JH [_,_,_] O O O O (h2 _ _ (mS (by simpa using c1))) O ?_ (fun _ _ h=>h.elim))))))))));rintro _ T ⟨rfl,hT⟩;refine Ar Ay 1 [] O (Av O (fun c2=>?_) (fun c2=>?_))
  ·simp only[sd,se] at c2;refine A1 ⟨O,_,_,O,(G3 [1,2] [_,_,_] O),?_⟩;exact⟨O,_,(hT.trans ((if_pos (by simpa using c2)).trans (eg (by simpa using c1) (by simpa using c2)).symm)),O⟩
  simp only[sd,se] at c2;have qc2:¬(d.name=nm):=by simpa using c2
  rw[if_neg qc2] at hT;have hT:=hT.symm;subst hT;refine A2 (As (Aw (Aq O (Az C5 O O) (Aq O (A0 (i:=1) H4 O O (CC _)) (Aq O (BJ Hc O (List.length_map _)) (Ar Ay 1 [] O (A9 ?_)))))));refine Bc (α:=Nat) (fun i=>⟨98,mk [(0,.fn (.yield l) [] []),(1,.ptr b2 0),(2,.ptr b1 0),(42,.p (.lst (List.map G1 d.ctors))),(43,.p (I (d.ctors.length:Nat))),(44,.p (I (i:Int)))],(.box b1 ((Bi d).map .p):: .box b2 [.p (I at_)]::T0),[]⟩) (fun i=>d.ctors.length - i) (fun i=>i≤d.ctors.length∧(∀j,j<i→∀y,d.ctors[j]?=some y→y.name≠nm)) 0 (⟨by omega,fun j h=>by omega⟩) ?_ ?_
  ·exact BS ⟨we O,we O,we O,we O,we O,we O,Ap⟩ (aW [1,2] [_,_,_] (l':=[_,_]) O (wl (oe O) (wl (oe O) (C2))))
  rintro i hC
  try simp only at hC
  obtain⟨hi,hC⟩:=hC;refine Au Ay 1 [] O (As (Av O (fun c3=>?_) (fun c3=>?_)))
  ·simp only[sd,se] at c3;refine A2 (As (A9 (Aw (Br O ?_))));obtain⟨x,hx⟩:=A6 (l:=d.ctors) (i:=i) An;refine Aq O (A4 Hc O O An (Em hx) (EE _)) (Aq O (BM tK O (EE _)) (BF O (A7 aj O) fun b6=>Ar Ay 2 [0,1] O (Aw (Ax Ay 2 [] O (Aq O (A0 (i:=0) MI O O (Fg _)) (Ax Ay 3 [2] O (Aq O (A0 (i:=1) DM O O (Cn _)) (Aq O (Az Jh O O) (Aq O (Bw (i:=0) BZ O O (Fi _) (BD _)) (Aq O (CO GO IK (Ot O O O O O)) (JH [_,_,_] O O O O (h2 _ _ (im (by simpa using c1) hx)) O ?_ (fun _ _ h=>h.elim))))))))))));rintro _ T1 ⟨rfl,hT1⟩;refine Ar Ay 1 [] O (Av O (fun c4=>?_) (fun c4=>?_))
   ·simp only[sd,se] at c4;refine A1 ⟨O,_,_,O,(G3 [1,2] [_,_,_] O),?_⟩;exact⟨O,_,(hT1.trans ((if_pos (by simpa using c4)).trans (ZE (by simpa using c1) qc2 hx (by simpa using c4) hC).symm)),O⟩
   simp only[sd,se] at c4;have qc4:¬(x.name=nm):=by simpa using c4
   rw[if_neg qc4] at hT1;have hT1:=hT1.symm;subst hT1;refine A2 (A3 (Ar Ay 2 [] O (⟨(i+1),AW,⟨by omega,Cx (p:=fun _ (y:IS)=>y.name≠nm) hC hx qc4⟩,BS ⟨we rfl,we rfl,we rfl,we rfl,we rfl,we rfl,trivial⟩ (aW [1,2] [_,_,_] (l':=[_,_]) rfl (wl (oe rfl) (wl (oe rfl) (C2))))⟩)))
  simp only[sd,se] at c3;refine Be (A3 (Ax Ay 2 [] O (Aq O (A0 (i:=0) MI O O (DF _)) (Aq O (RZ O O (by have:(⟨#[46,114,101,99]⟩:ByteArray).size=4:=rfl;have:=hD.nm;omega)) (Ax Ay 3 [1] O (Aq O (A0 (i:=0) DM O O (Da _)) (Ax Ay 2 [] O (Aq O (Bw (i:=0) BZ O O (E5 _) (BD _)) (Aq O (CO GO IK (ax O O O O)) (JH [_,_] O O O O (h2 _ _ (kv (by simpa using c1))) O ?_ (fun _ _ h=>h.elim)))))))))));rintro _ T1 ⟨rfl,hT1⟩;refine Bg O ⟨O,_,_,O,(G3 [0,1] [_,_] O),?_⟩;exact⟨O,_,(hT1.trans (dB (by simpa using c1) qc2 fun j hj=>hC j An).symm),O⟩
 simp only[sd,se] at c1;refine Au Ay 2 [] O (Av O (fun c2=>?_) (fun c2=>?_))
 ·simp only[sd,se] at c2;refine Aw (Aq O (Az C5 O O) (Aq O (A0 (i:=1) Hq O O (CJ _)) (Aq O (BJ HV O (List.length_map _)) (Ar Ay 1 [] O (A9 ?_)))));refine Bc (α:=Nat) (fun i=>⟨98,mk [(0,.fn (.yield l) [] []),(1,.ptr b2 0),(2,.ptr b1 0),(78,.p (.lst (List.map FH d.funs))),(79,.p (I (d.funs.length:Nat))),(80,.p (I (i:Int)))],(.box b1 ((Bi d).map .p):: .box b2 [.p (I at_)]::T0),[]⟩) (fun i=>d.funs.length - i) (fun i=>i≤d.funs.length∧(∀j,j<i→∀y,d.funs[j]?=some y→y.name≠nm)) 0 (⟨by omega,fun j h=>by omega⟩) ?_ ?_
  ·exact BS ⟨we O,we O,we O,we O,we O,we O,Ap⟩ (aW [1,2] [_,_,_] (l':=[_,_]) O (wl (oe O) (wl (oe O) (C2))))
  rintro i hC
  try simp only at hC
  obtain⟨hi,hC⟩:=hC;refine Au Ay 1 [] O (As (Av O (fun c3=>?_) (fun c3=>?_)))
  ·simp only[sd,se] at c3;refine A2 (As (A9 (Aw (Br O ?_))));obtain⟨x,hx⟩:=A6 (l:=d.funs) (i:=i) An;refine Aq O (A4 HV O O An (EZ hx) (DZ _)) (Aq O (BM jN O (DZ _)) (BF O (A7 dR O) fun b8=>Ar Ay 2 [0,1] O (Aw (Ax Ay 2 [] O (Aq O (A0 (i:=0) MI O O (I7 _)) (Ax Ay 3 [2] O (Aq O (A0 (i:=1) DM O O (Cn _)) (Aq O (Az HE O O) (Aq O (Bw (i:=0) BZ O O (JC _) (BD _)) (Aq O (CO GO IK (Ot O O O O O)) (JH [_,_,_] rfl rfl rfl rfl (h2 _ _ (kp (by simpa using c2) hx)) rfl ?_ (fun _ _ h=>h.elim))))))))))));rintro _ T ⟨rfl,hT⟩;refine Ar Ay 1 [] O (Av O (fun c4=>?_) (fun c4=>?_))
   ·simp only[sd,se] at c4;refine A1 ⟨O,_,_,O,(G3 [1,2] [_,_,_] O),?_⟩;exact⟨O,_,(hT.trans ((if_pos (by simpa using c4)).trans (eC (by simpa using c2) hx (by simpa using c4) hC).symm)),O⟩
   simp only[sd,se] at c4;have qc4:¬(x.name=nm):=by simpa using c4
   rw[if_neg qc4] at hT;have hT:=hT.symm;subst hT;refine A2 (A3 (Ar Ay 2 [] O (⟨(i+1),AW,⟨by omega,Cx (p:=fun _ (y:Hp)=>y.name≠nm) hC hx qc4⟩,BS ⟨we rfl,we rfl,we rfl,we rfl,we rfl,we rfl,trivial⟩ (aW [1,2] [_,_,_] (l':=[_,_]) rfl (wl (oe rfl) (wl (oe rfl) (C2))))⟩)))
  simp only[sd,se] at c3;refine Be ⟨O,_,_,O,(G3 [0,1] [_,_] O),?_⟩;exact⟨O,_,(Yt (by simpa using c2) fun j hj=>hC j An).symm,O⟩
 simp only[sd,se] at c2;refine A2 ⟨O,_,_,O,(G3 [1,2] [_,_,_] O),?_⟩;exact⟨O,_,(Z6 (by simpa using c) (by simpa using c1) (by simpa using c2)).symm,O⟩
theorem py:∀(d:B5) (at_:Int),Bn Tryz.prog 144 [.agg ((Bi d).map .p),.p (I at_)] [] (fun r H'=>∃b1 b2,r= .val (.fn (.func 170) [] [.ptr b2 0,.ptr b1 0])∧H'=[.box b2 [.p (I at_)],.box b1 ((Bi d).map .p)]):=by
 intro d at_;refine A5 Tryz.func144 O qi (n:=6) O O (Aw (BF O (BN O) fun b2=>BF O (BN O) fun b3=>Ar Ay 1 [] O (Au Ay 2 [] O (A1 (⟨O,_,_,⟨_,_,O,O,O⟩,(B8 (is:=[0,1]) O),?_⟩)))));exact⟨_,_,O,O⟩
theorem cN:∀(ds:List B5) (nm:ByteArray),(ds.length<DY)→(wF ds)→ET Tryz.prog 116 [.p (.lst (List.map Bi ds)),.p (.str nm)] (.tup [.agg ((DS ((Bb ds nm).1)).map .p),.p (I ((Bb ds nm).2))]):=by
 intro ds nm h1 h2;simp only[DY] at h1;refine FW Tryz.func116 O tE (n:=28) O O (Aw (BF O (BN O) fun b3=>BF O (A7 IK O) fun b4=>BF O (A7 j8 O) fun b5=>Bg O (As (Aw (Br O (Aq O (BJ IF O (List.length_map _)) (Ar Ay 1 [] O (A9 ?_))))))));refine Bc (α:=Nat×List Nat) (fun(i,U)=>⟨28,mk [(3,.ptr b3 0),(4,.ptr b4 0),(5,.ptr b5 0),(10,.p (.lst (List.map Bi ds))),(11,.p (I (ds.length:Nat))),(12,.p (I (i:Int)))],(.box b5 [.p (I 0)]:: .box b4 [.p (I 0),.p (I 0),.p (I 0),.p (I 0),.p (I 0),.p (I 0),.p (.str ⟨#[]⟩),.p (.nils),.p (.nils)]:: .box b3 [.p (.str nm)]::(U.map BK.dfr)),(U.map EG.mark)⟩) (fun(i,U)=>ds.length - i) (fun(i,U)=>i≤ds.length∧(∀j,j<i→∀y,ds[j]?=some y→Cm nm (Ew y j)=none)) ⟨0,[]⟩ (⟨by omega,fun j h=>by omega⟩) ?_ ?_
 ·exact BS ⟨we O,we O,we O,we O,we O,we O,Ap⟩ (aW [0,1,2] [_,_,_] (l':=[_,_,_]) O (wl (oe O) (wl (oe O) (wl (oe O) (C2)))))
 rintro⟨i,U⟩ hC
 try simp only at hC
 obtain⟨hi,hC⟩:=hC;refine Au Ay 1 [] O (As (Av O (fun c=>?_) (fun c=>?_)))
 ·simp only[sd,se] at c;refine A2 (As (A9 (Aw (Br O ?_))));obtain⟨x,hx⟩:=A6 (l:=ds) (i:=i) An;have hx0:=h2 _ (List.mem_of_getElem? hx);refine Aq O (A4 IF O O An (D8 hx) (Cp _)) (Aq O (BM FZ O (Cp _)) (BF O (A7 Jw O) fun b7=>Ar Ay 2 [0,1] O (Aw (Ax Ay 2 [0] O ?_))));refine I6 (Hs:=[]) O O O (.inl ⟨O,O,O⟩) (List.Perm.refl _) ((py x ((i:Int))).args (aw (we O) (aw (we O) E0))) (.inl O) ?_ (fun _ _ ⟨_,_,h,_⟩=>by cases h);rintro _ _ ⟨bd,ba,h,rfl⟩;cases h;refine Bg O (A9 (TB (.inr O) fun dd l L hL=>⟨_,_,Te (is:=[3,2,0,4,5,6,7]) (base:=[_,_,_,_,_,_,_,_]) (rest:=[.dfr dd]) Am ⟨_,_,O,O,⟨_,_,O,O,⟨_,_,O,O,⟨_,_,O,O,⟨_,_,O,O,⟨_,_,O,O,⟨_,_,O,O,O⟩⟩⟩⟩⟩⟩⟩ O,?_⟩));have hy:∀(sn:ByteArray) (en:Fq),(sn,en)∈Ew x ((i:Int))→MJ Tryz.prog l [.p (.str sn),.agg ((DS en).map .p)] [.loop l L,.box b7 ((Bi x).map .p),.box b5 [.p (I 0)],.box b4 [.p (I 0),.p (I 0),.p (I 0),.p (I 0),.p (I 0),.p (I 0),.p (.str ⟨#[]⟩),.p (.nils),.p (.nils)],.box b3 [.p (.str nm)]] (Wh (.p (.bool (!decide (sn=nm)))) (fun T:List BK=>T=if sn=nm then [.loop l { L with state:= .done,pending:=some .ret },.box b7 ((Bi x).map .p),.box b5 [.p (I 0)],.box b4 ((DS en).map .p),.box b3 [.p (.str nm)]] else [.loop l L,.box b7 ((Bi x).map .p),.box b5 [.p (I 0)],.box b4 [.p (I 0),.p (I 0),.p (I 0),.p (I 0),.p (I 0),.p (I 0),.p (.str ⟨#[]⟩),.p (.nils),.p (.nils)],.box b3 [.p (.str nm)]])):=by
   intro sn en hm;obtain⟨LB,hLB⟩:∃x,x=BK.loop l { L with state:= .busy }:=⟨_,rfl⟩;subst hL;refine Ui (i:=0) O O O O (Au Ay 1 [] O (A3 (BF O (A7 IK O) fun b9=>Ar Ay 1 [0,1] O ⟨O,1,O,?_⟩)));rw[←hLB];refine A9 (Aw (Ax Ay 2 [5] O (Aq O (FV O O) (Bg O (Av O (fun c1=>?_) (fun c1=>?_))))))
   ·simp only[sd,se] at c1;refine Au Ay 3 [0,4,1,3,0] O (A1 ?_);subst hLB;refine⟨1,_,O,B8 (is:=[1,2,3,4,5]) O,?_⟩;have hcc:sn=nm:=F3 (by simpa using c1);exact⟨by simp[hcc],(if_pos hcc).symm⟩
   simp only[sd,se] at c1;refine A2 ?_;subst hLB;refine⟨1,_,O,B8 (is:=[1,2,3,4,5]) O,?_⟩;have hcc:¬(sn=nm):=fun h=>by simp[h] at c1
   exact⟨by simp[hcc],(if_neg hcc).symm⟩
  refine(pA l bd ba x ((i:Int)) nm (fun en=>[.loop l { L with state:= .done,pending:=some .ret },.box b7 ((Bi x).map .p),.box b5 [.p (I 0)],.box b4 ((DS en).map .p),.box b3 [.p (.str nm)]]) _ (hx0) hy).mono ?_;rintro(v | v) H' hR
  rotate_left
  ·exact hR.elim
  obtain⟨rfl,_,hT,rfl⟩:=hR;subst hL;unfold I3 at hT;cases hF:Cm nm (Ew x ((i:Int))) with
  | some en =>
   rw[hF] at hT;simp only at hT;subst hT;refine Zd (i:=2) (.box bd ((Bi x).map .p):: .box ba [.p (I (i:Int))]:: .box b7 ((Bi x).map .p):: .box b5 [.p (I 0)]:: .box b4 ((DS en).map .p):: .box b3 [.p (.str nm)]::(.dfr dd::U.map BK.dfr)) O Ao O O (A1 (QM (dd::U) (Hs:=[_,_,_,_,_,_]) (⟨_,_,⟨_,_,O,(BA (i:=4) L3 O O Af),⟨_,_,O,(Gu (i:=3) Tu O O),O⟩⟩,(List.nil_sublist _),?_⟩)))
   all_goals exact⟨by show (.tup [.agg ((DS en).map .p),.p (I 0)]:AV)=_;rw[jx hx hC hF],rfl⟩
  | none =>
   rw[hF] at hT;simp only at hT;subst hT;refine XX (i:=2) (.box bd ((Bi x).map .p):: .box ba [.p (I (i:Int))]:: .box b7 ((Bi x).map .p):: .box b5 [.p (I 0)]:: .box b4 [.p (I 0),.p (I 0),.p (I 0),.p (I 0),.p (I 0),.p (I 0),.p (.str ⟨#[]⟩),.p (.nils),.p (.nils)]:: .box b3 [.p (.str nm)]::(.dfr dd::U.map BK.dfr)) O Ao O O (A3 (Ar Ay 2 [] O (⟨⟨i+1,dd::U⟩,AW,⟨by omega,Cx (p:=fun j (y:B5)=>Cm nm (Ew y j)=none) hC hx hF⟩,BS ⟨we rfl,we rfl,we rfl,we rfl,we rfl,we rfl,trivial⟩ (aW [3,4,5] [_,_,_,_,_,_] (l':=[_,_,_]) rfl (wl (oe rfl) (wl (oe rfl) (wl (oe rfl) (C2)))))⟩)))
 simp only[sd,se] at c;refine Be (Au Ay 3 [1,0,0,0] O (BH (BW (i:=1) O) (A1 (QM U (Hs:=[_,_,_]) (⟨_,_,⟨_,_,O,(BA (i:=1) L3 O O O),⟨_,_,O,(Gu (i:=0) Tu O O),O⟩⟩,(List.nil_sublist _),?_⟩)))))
 all_goals exact⟨by show (.tup [.agg [.p (I 0),.p (I 0),.p (I 0),.p (I 0),.p (I 0),.p (I 0),.p (.str ⟨#[]⟩),.p (.lst []),.p (.lst [])],.p (I 9)]:AV)=_;rw[ic fun j hj=>hC j An];rfl,rfl⟩
theorem eY:∀(ds:List B5) (nm:ByteArray),(Hg ds)→ET Tryz.prog 127 [.p (.lst (List.map Bi ds)),.p (.str nm)] (.tup [.agg ((Bi ((Cd ds nm).1)).map .p),.p (I ((Cd ds nm).2.1)),.p (.bool ((Cd ds nm).2.2))]):=by
 intro ds nm h1;have hl:=h1.len;refine A5 Tryz.func127 O rC (n:=44) O O (Aw (BF O (A7 Jw O) fun b4=>Ar Ay 2 [] O (Aw (Ax Ay 2 [] O (Aq rfl (BC rfl rfl (cN ds nm Ab (fun d hd=> .inr (h1.all d hd))) rfl) (Ax Ay 3 [] O (BF O (A7 IK O) fun b7=>Ar Ay 2 [0,1] O (As (Au Ay 2 [] O (Av O (fun c=>?_) (fun c=>?_)))))))))))
 ·simp only[sd,se] at c;refine Au Ay 4 [1,0] O (BH (BW (i:=1) O) (A1 (⟨O,_,_,⟨_,_,O,(BA (i:=1) FZ O O O),⟨_,_,O,O,⟨_,_,O,O,O⟩⟩⟩,(List.nil_sublist _),?_⟩)))
  all_goals exact⟨by show (.tup [.agg [.p (I 0),.p (.str ⟨#[]⟩),.p (I 0),.p (I 0),.p (I 0),.p (.str ⟨#[]⟩),.p (.lst []),.p (.lst []),.p (I 0),.p (I 0),.p (.str ⟨#[]⟩),.p (.lst []),.p (.lst []),.p (I 0),.p (.lst []),.p (I 0),.p (I 0),.p (I 0),.p (.str ⟨#[]⟩),.p (.lst []),.p (.lst []),.p (.lst []),.p (.lst [])],.p (I 0),.p (.bool false)]:AV)=_;rw[bL An];rfl,rfl⟩
 simp only[sd,se] at c;obtain⟨fi,fd,hfi,hfo⟩:=ON (ds:=ds) (nm:=nm) An;have hdl:=hfo.decl;have hfl:=(List.getElem?_eq_some_iff.1 hfi).1;refine A2 (As (Aw (Aq O (Az GO O O) (Aq O (A0 (i:=0) DM O O (DV _)) (Bg O (A9 (Au Ay 2 [] O (Av O (fun c1=>?_) (fun c1=>?_)))))))))
 ·simp only[sd,se] at c1;refine Aw (Ax Ay 2 [] O (Aq O (A0 (i:=0) DM O O (DW _)) ?_));obtain⟨x,hx⟩:=A6 (l:=ds) (i:=(((Bb ds nm).1).decl:Int).toNat) An;refine Aq O (A4 IF O O An (D8 hx) (Cp _)) (Ar Ay 4 [1,1] O (A1 (⟨O,_,_,⟨_,_,O,(BA (i:=1) FZ O O Ad),⟨_,_,O,O,⟨_,_,O,O,O⟩⟩⟩,(List.nil_sublist _),?_⟩)))
  all_goals exact⟨by show (.tup [.agg ((Bi x).map .p),.p (I (-1)),.p (.bool true)]:AV)=_;rw[nB An An hx],rfl⟩
 simp only[sd,se] at c1;refine Au Ay 2 [] O (Av O (fun c2=>?_) (fun c2=>?_))
 ·simp only[sd,se] at c2;refine As (Bt (fun k=>false) Dn (BR Ay 2 [] O (CV (j:=0) O O O (fun H i hi=>A0 (i:=i) DM O hi (DW _)) AB Ap ?_)));obtain⟨x,hx⟩:=A6 (l:=ds) (i:=(((Bb ds nm).1).decl:Int).toNat) An;refine BG O (fun _=>A4 IF O O An (D8 hx) (Cp _)) Ap (BR Ay 2 [] O (CV (j:=0) O O O (fun H i hi=>A0 (i:=i) DM O hi (Fm _)) AB Ap (Bk Ay 3 [1,1] O (A1 (⟨O,_,_,⟨_,_,O,(BA (i:=1) FZ O O Ad),⟨_,_,O,O,⟨_,_,O,O,O⟩⟩⟩,(List.nil_sublist _),?_⟩)))))
  all_goals exact⟨by show (.tup [.agg ((Bi x).map .p),.p (I (((Bb ds nm).1).item)),.p (.bool true)]:AV)=_;rw[nU An An hx],rfl⟩
 simp only[sd,se] at c2;refine Au Ay 2 [] O (Av O (fun c3=>?_) (fun c3=>?_))
 ·simp only[sd,se] at c3;refine Aw (Ax Ay 2 [] O (Aq O (A0 (i:=0) DM O O (DW _)) ?_));obtain⟨x,hx⟩:=A6 (l:=ds) (i:=(((Bb ds nm).1).decl:Int).toNat) An;refine Aq O (A4 IF O O An (D8 hx) (Cp _)) (Ar Ay 4 [1,1] O (A1 (⟨O,_,_,⟨_,_,O,(BA (i:=1) FZ O O Ad),⟨_,_,O,O,⟨_,_,O,O,O⟩⟩⟩,(List.nil_sublist _),?_⟩)))
  all_goals exact⟨by show (.tup [.agg ((Bi x).map .p),.p (I (-2)),.p (.bool true)]:AV)=_;rw[fo An An hx],rfl⟩
 simp only[sd,se] at c3;refine A2 (Au Ay 4 [1,0] O (BH (BW (i:=1) O) (A1 (⟨O,_,_,⟨_,_,O,(BA (i:=1) FZ O O O),⟨_,_,O,O,⟨_,_,O,O,O⟩⟩⟩,(List.nil_sublist _),?_⟩))))
 all_goals exact⟨by show (.tup [.agg [.p (I 0),.p (.str ⟨#[]⟩),.p (I 0),.p (I 0),.p (I 0),.p (.str ⟨#[]⟩),.p (.lst []),.p (.lst []),.p (I 0),.p (I 0),.p (.str ⟨#[]⟩),.p (.lst []),.p (.lst []),.p (I 0),.p (.lst []),.p (I 0),.p (I 0),.p (I 0),.p (.str ⟨#[]⟩),.p (.lst []),.p (.lst []),.p (.lst []),.p (.lst [])],.p (I 0),.p (.bool false)]:AV)=_;rw[jM An An An];rfl,rfl⟩
theorem PZ:∀(m:Nat) (ds:List B5) (n:Int) (h:Tm),(Hg ds)→Bn Tryz.prog 89 [.ptr m 0,.agg ((BP h).map .p)] [.box m [.p (.lst (List.map Bi ds)),.p (I n)]] (Gk (.tup [.agg ((DS ((Bb ds h.name).1)).map .p),.p (.bool (Tl ds h))]) [.box m [.p (.lst (List.map Bi ds)),.p (I n)]]):=by
 intro m ds n h h1;have hel:=h1.len;obtain⟨hk,hi,hn,hl,hs⟩:=h;refine A5 Tryz.func89 O wG (n:=29) O O (Aw (BF O (BN O) fun b3=>BF O (A7 IK O) fun b4=>Ar Ay 1 [] O (As (Bt (fun k=>Nat.beq k 10) Dn (BR Ay 6 [2,1] O (BG rfl (fun _=>BC rfl rfl (cN ds hn Ab (fun d hd=> .inr (h1.all d hd))) rfl) trivial (BR Ay 3 [] O (HC [] O O (A7 IK O) Aj fun b6=>⟨AB,Ap,?_⟩))))))));refine Bk Ay 2 [0,1] O (As (Bt (fun k=>false) Dn (BR Ay 4 [0] O (D6 21 O (fun g=>?_) (fun g=>?_)))))
 ·simp only[sd,se] at g;refine BR Ay 2 [2] O (Ce O (fun _=>BJ EV O (List.length_map _)) Ap (Ce O (fun _=>Az GO O O) Ap (MB (i:=0) O O O O O (fun H i hi=>A0 (i:=i) DM O hi (HX _)) AB Ap (Bk Ay 4 [1,1] O (A1 (⟨O,_,_,⟨_,_,O,(BA (i:=1) L3 O O Af),⟨_,_,O,O,O⟩⟩,(B8 (is:=[3]) O),?_⟩))))))
  all_goals exact⟨by show (.tup [.agg ((DS ((Bb ds hn).1)).map .p),.p (.bool (((hl.length:Nat):Int)==(((Bb ds hn).1).params:Int)))]:AV)=_;rw[gb (k:=hk) (i:=hi) (ks:=hs) (by first | exact g | omega)];rfl,rfl⟩
 simp only[sd,se] at g;refine Bk Ay 9 [1,1] O (A1 (⟨O,_,_,⟨_,_,O,(BA (i:=1) L3 O O Af),⟨_,_,O,O,O⟩⟩,(B8 (is:=[3]) O),?_⟩))
 all_goals exact⟨by show (.tup [.agg ((DS ((Bb ds hn).1)).map .p),.p (.bool false)]:AV)=_;rw[nR (k:=hk) (i:=hi) (ls:=hl) (ks:=hs) (by first | exact g | omega)];rfl,rfl⟩
theorem RG:∀(m:Nat) (ds:List B5) (n:Int) (t:Tm),(Ju ds)→(okB t=true)→Bn Tryz.prog 96 [.ptr m 0,.agg ((BP t).map .p)] [.box m [.p (.lst (List.map Bi ds)),.p (I n)]] (Gk (.tup [.agg ((Bi ((CL ds t).1)).map .p),.p (I ((CL ds t).2.1)),.p (.lst (BE ((CL ds t).2.2.1))),.p (.bool ((CL ds t).2.2.2))]) [.box m [.p (.lst (List.map Bi ds)),.p (I n)]]):=by
 intro m ds n t h1 h2;have ho:=B2.1 h2;have hosz:=ho.sz;have hoss:=Fk t;have hosl:=Po t;have hosp:=FO h2;refine A5 Tryz.func96 O vV (n:=67) O O (Aw (BF O (BN O) fun b3=>BF O (A7 Jw O) fun b4=>Ar Ay 3 [] O (Aw (Aq O (BU (i:=1) BZ O O Ag) (Aq O (BC O O (Ma t ho.nd Ab) O) (Ax Ay 3 [] O (BF O (A7 Bx O) fun b8=>Ar Ay 2 [0,1] O (As (Aw (Aq O (Az HJ O O) ?_))))))))));generalize hz:(A8 t).1=z;obtain⟨zk,zi,zn,zl,zs⟩:=z;refine Ar Ay 2 [0] O (Av O (fun c=>?_) (fun c=>?_))
 ·simp only[sd,se] at c;refine Au Ay 5 [1,0] O (BH (BW (i:=1) O) (BH (D3 6) (A1 (⟨O,_,_,⟨_,_,O,(BA (i:=1) FZ O O O),⟨_,_,O,O,⟨_,_,O,O,⟨_,_,O,O,O⟩⟩⟩⟩,(B8 (is:=[3]) O),?_⟩))))
  all_goals exact⟨by show (.tup [.agg [.p (I 0),.p (.str ⟨#[]⟩),.p (I 0),.p (I 0),.p (I 0),.p (.str ⟨#[]⟩),.p (.lst []),.p (.lst []),.p (I 0),.p (I 0),.p (.str ⟨#[]⟩),.p (.lst []),.p (.lst []),.p (I 0),.p (.lst []),.p (I 0),.p (I 0),.p (I 0),.p (.str ⟨#[]⟩),.p (.lst []),.p (.lst []),.p (.lst []),.p (.lst [])],.p (I 0),.p (.lst (BE [])),.p (.bool false)]:AV)=_;rw[Mm (bY hz c)];rfl,rfl⟩
 simp only[sd,se] at c;refine A2 (As (Bt (fun k=>Nat.beq k 11) Dn (BR Ay 6 [3,0] O (BG O (fun _=>BC O O (eY ds zn h1.env) O) Ap (BR Ay 4 [] O (HC [] O O (A7 Jw O) Aj fun b10=>⟨AB,Ap,?_⟩))))));refine Bk Ay 3 [0,1] O (As (As (BT [4,9,10,11] 40 (fun y=>y= .p (.bool ((!((Cd ds zn).2.2))||(decide (((Cd ds zn).2.1:Int)<(0:Int)))))) ?_ ?_)))
 ·refine A3 (Ax Ay 3 [] O (BO 37 O (fun g=>?_) (fun g=>?_)))
  ·simp only[sd,se] at g;exact Ar Ay 3 [] O (⟨O,O,AM,AI,⟨O,O,O,O,Ap⟩⟩)
  simp only[sd,se] at g;exact Ar Ay 3 [] O (⟨O,O,AM,AI,⟨O,O,O,O,Ap⟩⟩)
 rintro _ rfl;refine Av O (fun c1=>?_) (fun c1=>?_)
 ·simp only[sd,se] at c1;have hcc:=c1;refine Au Ay 5 [2,0] O (BH (BW (i:=2) O) (BH (D3 6) (A1 (⟨O,_,_,⟨_,_,O,(BA (i:=2) FZ O O O),⟨_,_,O,O,⟨_,_,O,O,⟨_,_,O,O,O⟩⟩⟩⟩,(B8 (is:=[4]) O),?_⟩))))
  all_goals exact⟨by show (.tup [.agg [.p (I 0),.p (.str ⟨#[]⟩),.p (I 0),.p (I 0),.p (I 0),.p (.str ⟨#[]⟩),.p (.lst []),.p (.lst []),.p (I 0),.p (I 0),.p (.str ⟨#[]⟩),.p (.lst []),.p (.lst []),.p (I 0),.p (.lst []),.p (I 0),.p (I 0),.p (I 0),.p (.str ⟨#[]⟩),.p (.lst []),.p (.lst []),.p (.lst []),.p (.lst [])],.p (I 0),.p (.lst (BE [])),.p (.bool false)]:AV)=_;rw[Mm (bz hz (by simpa using c) hcc)];rfl,rfl⟩
 simp only[sd,se] at c1;have hcc:(Cd ds zn).2.2=true∧¬(Cd ds zn).2.1<0:=⟨c1.1,by omega⟩;have hfd:=Yz h1 hcc.1 hcc.2;have hfr:=K1 hfd.1 hfd.2.2.1 hfd.2.2.2 hfd.2.1.1;have hfx:=hfd.2.1;refine A2 (Aw (Aq O (Az C5 O O) (Aq O (A0 (i:=0) H4 O O (CC _)) (Br O ?_))));obtain⟨x,hx⟩:=A6 (l:=((Cd ds zn).1).ctors) (i:=((Cd ds zn).2.1:Int).toNat) An;have hal:=IX x.type;have hxs:=(hfd.1.cs _ (List.mem_of_getElem? hx)).ty;refine Aq O (A4 Hc O O An (Em hx) (EE _)) (Aq O (B1 Jh O O) (Aq O (DP BZ O (Fi _) (BD _)) (Aq O (BC O O (cO x.type hxs.nd hxs.sz) O) (Ax Ay 3 [] O (BF O (A7 Bx O) fun b14=>Ar Ay 2 [0,1] O (As (Aw (Br O (Aq O (BJ Bf O (BQ _)) (Aq O (Az C5 O O) (Aq O (A0 (i:=1) DM O O (Cr _)) (Br O (Aq O (BJ Bf O (BQ _)) (Aq O (FI O O) (Ar Ay 1 [] O (Av O (fun c2=>?_) (fun c2=>?_)))))))))))))))))
 ·simp only[sd,se] at c2;refine Au Ay 5 [3,0] O (BH (BW (i:=3) O) (BH (D3 6) (A1 (⟨O,_,_,⟨_,_,O,(BA (i:=3) FZ O O O),⟨_,_,O,O,⟨_,_,O,O,⟨_,_,O,O,O⟩⟩⟩⟩,(B8 (is:=[5]) O),?_⟩))))
  all_goals exact⟨by show (.tup [.agg [.p (I 0),.p (.str ⟨#[]⟩),.p (I 0),.p (I 0),.p (I 0),.p (.str ⟨#[]⟩),.p (.lst []),.p (.lst []),.p (I 0),.p (I 0),.p (.str ⟨#[]⟩),.p (.lst []),.p (.lst []),.p (I 0),.p (.lst []),.p (I 0),.p (I 0),.p (I 0),.p (.str ⟨#[]⟩),.p (.lst []),.p (.lst []),.p (.lst []),.p (.lst [])],.p (I 0),.p (.lst (BE [])),.p (.bool false)]:AV)=_;rw[Mm (aT hz (by simpa using c) hcc.1 hcc.2 (by rw[SG hx hfx.1];exact c2))];rfl,rfl⟩
 simp only[sd,se] at c2;have hl3:=c2;refine A2 (As (Bt (fun k=>false) Dn (BR Ay 4 [1] O (CV (j:=1) O O O (fun H i hi=>A0 (i:=i) DM O hi (Cr _)) AB Ap (BG O (fun _=>CZ (lo:=(((Cd ds zn).1).fixed:Int).toNat) Bf O (CG (Bv _)) ⟨_,pI An⟩ O AR (Nat.le_refl _) (J0 ((A8 t).2) ((((Cd ds zn).1).fixed:Int).toNat))) Ap (Bk Ay 4 [3,1] O (A1 (⟨O,_,_,⟨_,_,O,(BA (i:=3) FZ O O Ad),⟨_,_,O,O,⟨_,_,O,O,⟨_,_,O,O,O⟩⟩⟩⟩,(B8 (is:=[5]) O),?_⟩))))))))
 all_goals exact⟨by show (.tup [.agg ((Bi ((Cd ds zn).1)).map .p),.p (I ((Cd ds zn).2.1)),.p (.lst (BE (((A8 t).2).drop ((((Cd ds zn).1).fixed:Int).toNat)))),.p (.bool true)]:AV)=_;rw[RE (iQ hz (by simpa using c) hcc.1 hcc.2 (by rw[SG hx hfx.1];exact c2))],rfl⟩
theorem lU:∀(b0:Nat) (x:GC) (nm:ByteArray),Bn Tryz.prog 129 [.agg ((Gy x).map .p),.ptr b0 0] [.box b0 [.p (.str nm)]] (Gk (.p (.bool (x.ctor.toList==nm.toList))) [.box b0 [.p (.str nm)]]):=by
 intro b0 x nm;refine A5 Tryz.func129 O qW (n:=8) O O (Aw (BF O (BN O) fun b2=>Ar Ay 1 [] O (Aw (Aq O (Az IZ O O) (Aq O (A0 (i:=0) MI O O (Gd _)) (Aq O (B7 (i:=1) MI O O O) (Aq O (FV O O) (Ar Ay 1 [] O (A1 (⟨O,_,_,⟨_,_,O,O,O⟩,(B8 (is:=[1]) O),?_⟩))))))))))
 all_goals exact⟨rfl,rfl⟩
theorem pW:∀(b0:Nat) (nm:ByteArray) (l:List GC),(l.length<2000000)→Bn Tryz.prog 128 [.p (.lst (Lr l)),.fn (.func 129) [] [.ptr b0 0]] [.box b0 [.p (.str nm)]] (Gk (.p (I (NJ nm l 0))) [.box b0 [.p (.str nm)]]):=by
 intro b0 nm l h1;refine A5 Tryz.func128 O tq (n:=19) O O (Au Ay 1 [] O (As (Aw (Br O (Aq O (BJ Jt O (F6 _)) (Ar Ay 1 [] O (A9 (Bc (α:=Nat) (fun i=>⟨19,mk [(0,.p (.lst (Lr l))),(1,.fn (.func 129) [] [.ptr b0 0]),(7,.p (I (l.length:Nat))),(8,.p (I (i:Int)))],[.box b0 [.p (.str nm)]],[]⟩) (fun i=>l.length - i) (fun i=>i≤l.length∧(NJ nm (l.drop i) (i:Int)=NJ nm l 0)) 0 (⟨by omega,rfl⟩) ?_ ?_))))))))
 ·exact BS ⟨we O,we O,we O,we O,Ap⟩ (leH (is:=[0]) O (wl (oe O) (C2)))
 rintro i hC
 try simp only at hC
 obtain⟨hi,hC⟩:=hC;refine Au Ay 1 [] O (As (Av O (fun c=>?_) (fun c=>?_)))
 ·simp only[sd,se] at c;refine A2 (As (A9 (Au Ay 2 [] O (Aw (Ax Ay 3 [] O ?_)))));obtain⟨x,hx⟩:=A6 (l:=l) (i:=i) An;refine Aq O (A4 Jt O O An (FQ hx) (DL _)) (Aq O (BM UB O (DL _)) (Aq O (CE [0] O (.inr O) (lU b0 x nm) ⟨_,_,O,O,O⟩ Am O (.inl O)) (Bg O (Av O (fun c1=>?_) (fun c1=>?_)))))
  ·simp only[sd,se] at c1;refine Au Ay 2 [] O (A1 (⟨O,_,_,⟨_,_,O,O,O⟩,(B8 (is:=[0]) O),?_⟩))
   all_goals exact⟨pI (by rw[←hC,kh hx (by simpa using c1)]),rfl⟩
  simp only[sd,se] at c1;refine A2 (A3 (Ar Ay 2 [] O ?_));refine⟨(i+1),AW,⟨by omega,by rw[←hC,po hx (by simpa using c1)];rfl⟩,BS ⟨we rfl,we rfl,we rfl,we rfl,trivial⟩ (leH (is:=[0]) rfl (wl (oe rfl) (C2)))⟩
 simp only[sd,se] at c;refine Be (Au Ay 1 [] O (A1 (⟨O,_,_,⟨_,_,O,O,O⟩,(B8 (is:=[0]) O),?_⟩)))
 all_goals exact⟨pI (by rw[←hC,List.drop_eq_nil_of_le An];rfl),rfl⟩
end Go.Proofs.YtboammbpdaoojaaGreat
