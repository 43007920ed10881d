/- Part of the proofs: an abstract program logic, plain models and contracts of functions. -/
import Derived.Shelf.SlIterI.Nil
import Derived.Shelf.SortM.Plain
import Derived.Shelf.SortM.SortNone
import Derived.Ground.GgzProg
import Derived.Ground.SlgmProg
import Derived.Test.YtboammbpdaoojaaGreatProg
import Derived.Test.YtboammbpdaoojaaGreatPe
import Derived.Test.YtboammbpdaoojaaGreatPb
import Derived.Test.YtboammbpdaoojaaGreatPf
import Derived.Test.YtboammbpdaoojaaGreatPd
import Derived.Test.YtboammbpdaoojaaGreatPc
set_option linter.unusedVariables false
set_option linter.unusedSimpArgs false
set_option maxRecDepth 100000
namespace Go.Proofs
open Go.Shelf
def Tryz.keysA_ren:Go.Shelf.Ren:=⟨fun | 7=>193 | 10=>199 | n=>n,fun | 23=>229 | 26=>3 | 3=>3 | 28=>240 | 0=>0 | 27=>239 | 33=>245 | 4=>4 | n=>n,fun | n=>n⟩
theorem Tryz.keysA:Go.Proofs.SlLaysZI.n7 Tryz.prog Tryz.keysA_ren:={
 mixed:=by kernel_rfl
 f7:=⟨Tryz.f193.name,by decide,Tryz.func193.trans (congrArg some Aj)⟩
 f10:=⟨Tryz.f199.name,by decide,Tryz.func199.trans (congrArg some Aj)⟩
 t0:=Tryz.underlying0
 a0:=Tryz.isAgg0
 z0:=Tryz.sizeOf0
 v0:=Tryz.zeroValue0
 t4:=Tryz.underlying4
 a4:=Tryz.isAgg4
 z4:=Tryz.sizeOf4
 v4:=Tryz.zeroValue4
 t23:=Tryz.underlying229
 a23:=Tryz.isAgg229
 z23:=Tryz.sizeOf229
 v23:=Tryz.zeroValue229
 t26:=Tryz.underlying3
 a26:=Tryz.isAgg3
 z26:=Tryz.sizeOf3
 v26:=Tryz.zeroValue3
 t27:=Tryz.underlying239
 a27:=Tryz.isAgg239
 z27:=Tryz.sizeOf239
 v27:=Tryz.zeroValue239
 t28:=Tryz.underlying240
 a28:=Tryz.isAgg240
 z28:=Tryz.sizeOf240
 v28:=Tryz.zeroValue240
 t33:=Tryz.underlying245
 a33:=Tryz.isAgg245
 z33:=Tryz.sizeOf245
 v33:=Tryz.zeroValue245 }
def Tryz.sortedA_ren:Go.Shelf.Ren:=⟨fun | 6=>192 | 8=>197 | 9=>198 | 11=>201 | 13=>203 | 12=>202 | 23=>213 | 24=>214 | 14=>204 | 15=>205 | 16=>206 | 17=>207 | 18=>208 | 19=>209 | 20=>210 | 21=>211 | 22=>212 | 25=>215 | 26=>216 | 27=>217 | 28=>218 | 29=>219 | 30=>220 | 31=>221 | n=>n,fun | 26=>3 | 28=>240 | 24=>137 | 0=>0 | 3=>3 | 37=>250 | 48=>260 | 50=>262 | 4=>4 | 40=>253 | 39=>252 | 45=>45 | 5=>5 | 9=>9 | 51=>263 | 55=>267 | 57=>269 | 58=>110 | 33=>245 | n=>n,fun | n=>n⟩
theorem Tryz.sortedA:Go.Proofs.SlLaysZI.n6 Tryz.prog Tryz.sortedA_ren:={
 mixed:=by kernel_rfl
 f6:=⟨Tryz.f192.name,by decide,Tryz.func192.trans (congrArg some Aj)⟩
 f8:=⟨Tryz.f197.name,by decide,Tryz.func197.trans (congrArg some Aj)⟩
 f11:=⟨Tryz.f201.name,by decide,Tryz.func201.trans (congrArg some Aj)⟩
 t0:=Tryz.underlying0
 a0:=Tryz.isAgg0
 z0:=Tryz.sizeOf0
 v0:=Tryz.zeroValue0
 t24:=Tryz.underlying137
 a24:=Tryz.isAgg137
 z24:=Tryz.sizeOf137
 v24:=Tryz.zeroValue137
 t26:=Tryz.underlying3
 a26:=Tryz.isAgg3
 z26:=Tryz.sizeOf3
 v26:=Tryz.zeroValue3
 t28:=Tryz.underlying240
 a28:=Tryz.isAgg240
 z28:=Tryz.sizeOf240
 v28:=Tryz.zeroValue240
 i26:=by kernel_rfl }
def Tryz.sortA_ren:Go.Shelf.Ren:=⟨fun | 5=>198 | 8=>203 | 7=>202 | 19=>213 | 20=>214 | 10=>204 | 11=>205 | 12=>206 | 13=>207 | 14=>208 | 15=>209 | 16=>210 | 17=>211 | 18=>212 | 30=>215 | 31=>216 | 32=>217 | 33=>218 | 34=>219 | 35=>220 | 40=>221 | n=>n,fun | 23=>137 | 25=>3 | 3=>3 | 32=>250 | 22=>137 | 0=>0 | 44=>260 | 46=>262 | 4=>4 | 36=>253 | 35=>252 | 41=>45 | 5=>5 | 9=>9 | 53=>263 | 57=>267 | 63=>269 | 64=>110 | n=>n,fun | n=>n⟩
theorem Tryz.sortA:Go.Proofs.SlLaysM.n5 Tryz.prog Tryz.sortA_ren:={
 mixed:=by kernel_rfl
 f5:=⟨Tryz.f198.name,by decide,Tryz.func198.trans (congrArg some Aj)⟩
 f7:=⟨Tryz.f202.name,by decide,Tryz.func202.trans (congrArg some Aj)⟩
 f8:=Tryz.func203.trans (congrArg some Aj)
 f10:=⟨Tryz.f204.name,by decide,Tryz.func204.trans (congrArg some Aj)⟩
 f11:=⟨Tryz.f205.name,by decide,Tryz.func205.trans (congrArg some Aj)⟩
 f12:=⟨Tryz.f206.name,by decide,Tryz.func206.trans (congrArg some Aj)⟩
 f13:=⟨Tryz.f207.name,by decide,Tryz.func207.trans (congrArg some Aj)⟩
 f14:=⟨Tryz.f208.name,by decide,Tryz.func208.trans (congrArg some Aj)⟩
 f15:=⟨Tryz.f209.name,by decide,Tryz.func209.trans (congrArg some Aj)⟩
 f16:=⟨Tryz.f210.name,by decide,Tryz.func210.trans (congrArg some Aj)⟩
 f17:=⟨Tryz.f211.name,by decide,Tryz.func211.trans (congrArg some Aj)⟩
 f18:=⟨Tryz.f212.name,by decide,Tryz.func212.trans (congrArg some Aj)⟩
 f19:=Tryz.func213.trans (congrArg some Aj)
 f20:=Tryz.func214.trans (congrArg some Aj)
 f30:=⟨Tryz.f215.name,by decide,Tryz.func215.trans (congrArg some Aj)⟩
 f31:=Tryz.func216.trans (congrArg some Aj)
 f32:=Tryz.func217.trans (congrArg some Aj)
 f33:=⟨Tryz.f218.name,by decide,Tryz.func218.trans (congrArg some Aj)⟩
 f34:=⟨Tryz.f219.name,by decide,Tryz.func219.trans (congrArg some Aj)⟩
 f35:=⟨Tryz.f220.name,by decide,Tryz.func220.trans (congrArg some Aj)⟩
 f40:=⟨Tryz.f221.name,by decide,Tryz.func221.trans (congrArg some Aj)⟩
 t0:=Tryz.underlying0
 a0:=Tryz.isAgg0
 z0:=Tryz.sizeOf0
 v0:=Tryz.zeroValue0
 t3:=Tryz.underlying3
 a3:=Tryz.isAgg3
 z3:=Tryz.sizeOf3
 v3:=Tryz.zeroValue3
 t4:=Tryz.underlying4
 a4:=Tryz.isAgg4
 z4:=Tryz.sizeOf4
 v4:=Tryz.zeroValue4
 t5:=Tryz.underlying5
 a5:=Tryz.isAgg5
 z5:=Tryz.sizeOf5
 v5:=Tryz.zeroValue5
 t9:=Tryz.underlying9
 a9:=Tryz.isAgg9
 z9:=Tryz.sizeOf9
 v9:=Tryz.zeroValue9
 t22:=Tryz.underlying137
 a22:=Tryz.isAgg137
 z22:=Tryz.sizeOf137
 v22:=Tryz.zeroValue137
 t23:=Tryz.underlying137
 a23:=Tryz.isAgg137
 z23:=Tryz.sizeOf137
 v23:=Tryz.zeroValue137
 t25:=Tryz.underlying3
 a25:=Tryz.isAgg3
 z25:=Tryz.sizeOf3
 v25:=Tryz.zeroValue3
 t32:=Tryz.underlying250
 a32:=Tryz.isAgg250
 z32:=Tryz.sizeOf250
 v32:=Tryz.zeroValue250
 t35:=Tryz.underlying252
 a35:=Tryz.isAgg252
 z35:=Tryz.sizeOf252
 v35:=Tryz.zeroValue252
 t36:=Tryz.underlying253
 a36:=Tryz.isAgg253
 z36:=Tryz.sizeOf253
 v36:=Tryz.zeroValue253
 t41:=Tryz.underlying45
 a41:=Tryz.isAgg45
 z41:=Tryz.sizeOf45
 v41:=Tryz.zeroValue45
 t44:=Tryz.underlying260
 a44:=Tryz.isAgg260
 z44:=Tryz.sizeOf260
 v44:=Tryz.zeroValue260
 t46:=Tryz.underlying262
 a46:=Tryz.isAgg262
 z46:=Tryz.sizeOf262
 v46:=Tryz.zeroValue262
 t53:=Tryz.underlying263
 a53:=Tryz.isAgg263
 z53:=Tryz.sizeOf263
 v53:=Tryz.zeroValue263
 t57:=Tryz.underlying267
 a57:=Tryz.isAgg267
 z57:=Tryz.sizeOf267
 v57:=Tryz.zeroValue267
 t63:=Tryz.underlying269
 a63:=Tryz.isAgg269
 z63:=Tryz.sizeOf269
 v63:=Tryz.zeroValue269
 t64:=Tryz.underlying110
 a64:=Tryz.isAgg110
 z64:=Tryz.sizeOf110
 v64:=Tryz.zeroValue110 }
end Go.Proofs
namespace Go.Proofs
open Go.RowKit Go.Maps Go.Sort Go.Shelf
theorem Tryz.sortsA (m:Nat):AnyZI.SortsIn Tryz.prog Tryz.sortedA_ren Fence.wide m :=
 ⟨fun blk off cap ss W hH hblk hsz=>callsIn_wide.2 (AnyM.slices_Sort_int Tryz.sortA blk off cap ss W hH hblk hsz),
  fun p cap W=>callsIn_wide.2 (AnyM.slices_Sort_int_none Tryz.sortA p cap W)⟩
set_option maxHeartbeats 1000000 in
theorem Tryz.sortedKeys {H:Type}(Bm b nn:Nat) (D0:DataW H) (R:Value→Option (DataW H×List MemPlace)) (w:World) (hBm:Bm<w.heap.size) (hcell:w.cell? ⟨Bm,0,none⟩=some (.map (some b))) (hown:w.ownsMap Tryz.prog 3 R b nn D0) (hmax:Maps.size D0≤maxLen) (hbytes:Maps.size D0*8≤140737488355328) :
  Calls Tryz.prog 192 #[.func (.func 199) #[] #[.pointer (some ⟨Bm,0,none⟩)]] w fun e w'=>∃(v:Value) (ss:List Int),e= .returned v∧ss.Perm (intKeys D0) ∧
   w'.ownsRow w.heap.size 3 1 v ss.length ((ss.mergeSort (fun x y=>decide (x≤y))).map encZ)∧(v= .slice none 0 0↔ss=[])∧Below w.heap.size w w':=by
 refine(callsIn_wide (n:=5)).1 ?_;have hseq:SeqGives Fence.wide 2 Tryz.prog 199 #[.pointer (some ⟨Bm,0,none⟩)] encZ (fun ss=>ss.Perm (intKeys D0)) (Maps.size D0) w :=
  AnyZI.keys_gives (ρ:=Tryz.keysA_ren) { Tryz.keysA with } Fence.wide _ trivial rfl An Bm b nn D0 w hBm hcell hown
 exact AnyZI.sorted_in Tryz.sortedA Fence.wide 5 Ap Ap Ap Ap O An (Tryz.sortsA _) (enters_of Tryz.func198 Aj O) 199 #[.pointer (some ⟨Bm,0,none⟩)] Ap (enters_of Tryz.func199 Aj O) _ _ hmax hbytes _ hseq
end Go.Proofs
namespace Go.Proofs.YtboammbpdaoojaaGreat
open Go.Abs Go.Eu
theorem gU:∀(m:Nat),Bo Tryz.prog 193 [.map m] [] (dg (fun b=> .fn (.func 199) [] [.ptr b 0]) [.map m]):=by
 intro m;refine A5 Tryz.func193 O mr (n:=4) O O (Aw (BF O (BN O) fun b1=>Ar Ay 1 [] O (Au Ay 2 [] O (Az (⟨O,_,_,⟨_,_,O,O,O⟩,(B4 (is:=[0]) O),?_⟩)))));exact⟨_,O,O⟩
theorem aW:∀(b m:Nat) (M:List (Int×Int)),M.length<1000000→(∀k∈M.map Prod.fst,-65536≤k∧k<8)→Bo Tryz.prog 192 [.fn (.func 199) [] [.ptr b 0]] [.box b [.map m],.map m (EI (G0 M))] (GU (.p (.lst ((FB (M.map Prod.fst)).map Gl))) [.box b [.map m],.map m (EI (G0 M))]):=fun b m M h1 h2=>QK (kT:=3) (eT:=3) Aj Aj (fun Bm b nn D0 R w g1 g2 g3 g4 g5=>Tryz.sortedKeys Bm b nn D0 R w g1 g2 g3 g4 g5) b m M h1 h2
theorem Za:∀(s m:Nat) (M:List (Int×Int)) (C:Int),(XB (M,C))→Bo Tryz.prog 186 [.ptr s 0] [.box s [.map m,.p (I C)],.map m (EI (G0 M))] (GU (.tup [.agg ((Bz ((JR ⟨C,G4 M⟩).1)).map .p),.p (I ((JR ⟨C,G4 M⟩).2))]) [.box s [.map m,.p (I C)],.map m (EI (G0 M))]):=by
 intro s m M C h1;have hkl:(FB (M.map Prod.fst)).length=M.length:=by simp[Tv]
 have hml:M.length≤65544:=h1.len;refine A5 Tryz.func186 O og (n:=41) O O (Aw (BF O (A7 EK O) fun b2=>Ar Ay 1 [] O (Aw (Ax Ay 5 [1] O (BF O (A7 EK O) fun b4=>Ar Ay 1 [0,0] O (As (Aw (B2 (Hr (i:=0) O (YA (aw (we O) (aw (I2) (Eo))))) (B2 (Hq (sz:=2)) (Ax Ay 4 [3] O (YS O O O (.inl ⟨O,O,O⟩) (gU m) (DF _) fun bk=>Aq O (B9 [0,5] O (.inl ⟨O,O,O⟩) (aW bk m M An h1.r) ⟨_,_,O,O,⟨_,_,O,O,O⟩⟩ Am O (.inl O)) (Aq O (BK Hh O (List.length_map _)) (Ar Ay 1 [] O (A8 ?_))))))))))))));refine Bb (α:=Nat×Option Nat×Nat) (fun(i,o,cp)=>⟨41,mk [(0,.ptr s 0),(2,.ptr b2 0),(4,.ptr b4 0),(17,.p (.lst (List.map Gl (FB (M.map Prod.fst))))),(18,.p (I ((FB (M.map Prod.fst)).length:Nat))),(19,.p (I (i:Int)))],[.vec o 2 (List.map Dy (((FB (M.map Prod.fst)).take i).map (QH M))) cp,.box b4 [.p (I C),.vs o (List.map Dy (((FB (M.map Prod.fst)).take i).map (QH M))).length cp],.box b2 [.p (I 0),.p (.nils)],.box s [.map m,.p (I C)],.map m (EI (G0 M))],[]⟩) (fun(i,o,cp)=>(FB (M.map Prod.fst)).length - i) (fun(i,o,cp)=>i≤(FB (M.map Prod.fst)).length) ⟨0,none,0⟩ AP ?_ ?_
 ·exact BU ⟨we O,we O,we O,we O,we O,we O,Ap⟩ (leH (is:=[1,2,3,4,5]) O (wl (oe O) (wl (oe O) (wl (oe O) (wl (oe O) (wl (oe O) (C3)))))))
 rintro⟨i,o,cp⟩ hC
 try simp only at hC
 have hi:=hC;refine Au Ay 1 [] O (As (Av O (fun c=>?_) (fun c=>?_)))
 ·(try simp only[sd,se] at c);refine A1 (As (A8 (Aw ?_)));obtain⟨x,hx⟩:=A6 (l:=FB (M.map Prod.fst)) (i:=i) An;refine Aq O (A4 Hh O O An (Lv hx) (O)) (Ar Ay 2 [] O (Bt (fun k=>Nat.beq k 11) Dn (BP Ay 8 [1,3] O ?_)));refine CU (j:=4) O O O (fun H i hi=>Wo (i:=i) eI jJ (fun _ _=>by simp[CE,CI]) rfl rfl hi (V4 _ _)) AB trivial ?_;refine BG O (fun _=>CP j4 Fp O) Ap (BG O (fun _=>Bl CS Fp O O O O O) Ap (Kn [] O O (CK (i:=0) (rows':=List.map Dy [(CC.mk x ((mg x M).getD 0))]) CS CS Fp O O O O O O (GD _) AF (F3 (f:=Dy) (((FB (M.map Prod.fst)).take i).map (QH M)) [(CC.mk x ((mg x M).getD 0))])) Aj fun o1 cp1=>⟨AB,Ap,?_⟩));refine Bj Ay 2 [1,0] O (A2 (Ar Ay 2 [] O ?_));refine⟨⟨i+1,o1,cp1⟩,AT,by omega,BU ⟨we rfl,we rfl,we rfl,we rfl,we rfl,we rfl,trivial⟩ (leH (is:=[0,1,2,3,4]) rfl (wl (FJ (f:=Dy) (((FB (M.map Prod.fst)).take i).map (QH M)++[(CC.mk x ((mg x M).getD 0))]) (by rw[List.take_add_one,hx];simp[QH])) (wl (YA (aw (we rfl) (aw (we (F5 (f:=Dy) (((FB (M.map Prod.fst)).take i).map (QH M)++[(CC.mk x ((mg x M).getD 0))]) (by rw[List.take_add_one,hx];simp[QH]))) (Eo)))) (wl (oe rfl) (wl (oe rfl) (wl (oe rfl) (C3)))))))⟩
 (try simp only[sd,se] at c);refine Bf (Aw (B2 (DM (i:=0) (j:=1) (q:=1) [] O O O (Dx Ap)) (Aq O (BT (i:=0) DY O O O) (Aq O (BC O O (W6 (CV.mk C (((FB (M.map Prod.fst)).take i).map (QH M))) (by simp only[List.length_map,List.length_take,Dc];omega)) O) (Ar Ay 4 [1,1] O (Az (⟨O,_,_,⟨_,_,O,(A9 (i:=1) DY O O Af),⟨_,_,O,O,O⟩⟩,(B4 (is:=[2,3]) O),?_⟩)))))))
 all_goals exact⟨by show (.tup [.agg ((Bz ((JR (CV.mk C (((FB (M.map Prod.fst)).take i).map (QH M)))).1)).map .p),.p (I ((JR (CV.mk C (((FB (M.map Prod.fst)).take i).map (QH M)))).2))]:AV)=_;rw[show ((FB (M.map Prod.fst)).take i).map (QH M)=G4 M from X1 An],rfl⟩
theorem aM:∀(l:CV) (ps:List CV),(Mw l)→(ps.length<Dc)→(∀p∈ps,Mw p)→EZ Tryz.prog 166 [.agg ((Bz l).map .p),.p (.lst (List.map Bz ps))] (.tup [.agg ((Bz ((Ib l ps).1)).map .p),.p (I ((Ib l ps).2))]):=by
 intro l ps h1 h2 h3;have hl:=h1.vars;have hl2:=h2;simp only[Dc] at hl hl2;refine A5 Tryz.func166 O pG (n:=63) O O (Aw (BF O (BN O) fun b2=>BF O (A7 EK O) fun b4=>Ar Ay 1 [] O (As (As (BS [1,2,4] 16 (fun y=>y= .p (.bool ((!(B6 l))||(!(ps.all B6))))) ?_ ?_)))))
 ·refine A2 (Aq O (BT (i:=1) DY O O Af) (Aq O (BC O O (Rt l h1) O) (Ax Ay 2 [] O (BL 12 O (fun g=>?_) (fun g=>?_)))))
  ·(try simp only[sd,se] at g);exact Ar Ay 4 [] O (⟨O,O,AK,AI,⟨O,O,O,Ap⟩⟩)
  (try simp only[sd,se] at g);exact BB O (BZ O) (BB O (BC O O (WU ps h2 h3) O) (Ar Ay 2 [] O (⟨O,O,AK,AI,⟨O,O,O,Ap⟩⟩)))
 rintro _ rfl;refine Av O (fun c=>?_) (fun c=>?_)
 ·(try simp only[sd,se] at c);refine Au Ay 3 [0,0] O (BH (BR (i:=0) O) (Az (⟨O,_,_,⟨_,_,O,(A9 (i:=0) DY O O O),⟨_,_,O,O,O⟩⟩,(List.nil_sublist _),?_⟩)))
  all_goals exact⟨by show (.tup [.agg [.p (I 0),.p (.lst [])],.p (I 3)]:AV)=_;rw[show Ib l ps=(FV,3) by rw[Ib,if_pos (by simpa using c)]];rfl,rfl⟩
 (try simp only[sd,se] at c);have hv:B6 l=true∧ps.all B6=true:=by simpa using c
 refine A1 (As (Aw (Aq O (BT (i:=1) DY O O Af) (Aq O (BC O O (ad l h1) O) (Bq O (Aq O (BK EX O (List.length_map _)) (Ar Ay 1 [] O (Av O (fun c1=>?_) (fun c1=>?_)))))))))
 ·(try simp only[sd,se] at c1);refine Au Ay 3 [0,0] O (BH (BR (i:=0) O) (Az (⟨O,_,_,⟨_,_,O,(A9 (i:=0) DY O O O),⟨_,_,O,O,O⟩⟩,(List.nil_sublist _),?_⟩)))
  all_goals exact⟨by show (.tup [.agg [.p (I 0),.p (.lst [])],.p (I 24)]:AV)=_;rw[show Ib l ps=(FV,24) by rw[Ib,if_neg (by simp[hv]),if_pos c1]];rfl,rfl⟩
 (try simp only[sd,se] at c1);have hpl:¬(GS l > ps.length):=by omega
 refine A1 (Aw (Yh O O O (.inl ⟨O,O,O⟩) dD (DF _) fun bs=>?_));obtain⟨bs,mm⟩:=bs;refine Ar Ay 1 [] O (Au Ay 6 [3,0,0] O (As (Aw (Ax Ay 2 [3] O (Aq O (BK CS O (List.length_map _)) (Ar Ay 1 [] O (A8 (Bb (α:=Nat) (fun i=>⟨63,mk [(1,.p (.lst (List.map Bz ps))),(4,.ptr b4 0),(6,.ptr bs 0),(31,.p (.lst (List.map Dy l.vars))),(32,.p (I (l.vars.length:Nat))),(33,.p (I (i:Int)))],[.box bs [.map mm,.p (I (((l.vars.take i).foldl (D6 ps) ([],l.const)).2))],.map mm (EI (G0 ((l.vars.take i).foldl (D6 ps) ([],l.const)).1)),.box b4 [.p (I 0),.p (.nils)]],[]⟩) (fun i=>l.vars.length - i) (fun i=>i≤l.vars.length) 0 AP ?_ ?_))))))))
 ·exact BU ⟨we O,we O,we O,we O,we O,we O,Ap⟩ (leH (is:=[0,1,2]) O (wl (oe O) (wl (oe O) (wl (oe O) (C3)))))
 rintro i hC
 try simp only at hC
 have hi:=hC;refine Au Ay 1 [] O (As (Av O (fun c2=>?_) (fun c2=>?_)))
 ·(try simp only[sd,se] at c2);refine A1 (As (A8 (Aw ?_)));obtain⟨x,hx⟩:=A6 (l:=l.vars) (i:=i) An;have hw:=Kv hv.1 hx;have hpi:=eA hv.1 hpl hx;refine Aq O (A4 CS O O An (Ci hx) (O)) (Aq O (BM NA O (O)) (BF O (A7 Fp O) fun b8=>Ar Ay 1 [0,1] O (Au Ay 3 [0] O (Av O (fun c3=>?_) (fun c3=>?_)))))
  ·(try simp only[sd,se] at c3);refine Bt (fun k=>false) Dn (BP Ay 8 [1,0,0] O (F9 O O (B9 [2] O (.inl ⟨O,O,O⟩) (VU mm (((l.vars.take i).foldl (D6 ps) ([],l.const)).1) x.index x.plus) ⟨_,_,O,O,O⟩ Am O (.inl O)) AB Ap (JJ O Aj (A2 (Ar Ay 2 [] O ?_)))));refine⟨(i+1),AT,by omega,BU ⟨we rfl,we rfl,we rfl,we rfl,we rfl,we rfl,trivial⟩ (leH (is:=[1,2,3]) rfl (wl (ob (by first | (simp only[step_take hx,Um c3];done) | (simp only[step_take hx,T7 c3 hx1];done))) (wl (om (by first | (simp only[step_take hx,Um c3];done) | (simp only[step_take hx,T7 c3 hx1];done))) (wl (oe rfl) (C3)))))⟩
  (try simp only[sd,se] at c3);refine Bt (fun k=>false) Dn (BP Ay 4 [0] O ?_);obtain⟨x1,hx1⟩:=A6 (l:=ps) (i:=(x.index:Int).toNat) An;refine BG O (fun _=>A4 EX O O An (Fs hx1) (Dg _)) Ap (BP Ay 3 [0] O (F9 O O (B9 [1,2] O (.inl ⟨O,O,O⟩) (gh bs mm (((l.vars.take i).foldl (D6 ps) ([],l.const)).1) (((l.vars.take i).foldl (D6 ps) ([],l.const)).2) x1 x.plus (JA.of (List.all_eq_true.1 hv.2 _ (List.mem_of_getElem? hx1))) hw.1.1 hw.1.2) ⟨_,_,O,O,⟨_,_,O,O,O⟩⟩ Am O (.inl O)) AB Ap (JJ O Aj (A2 (Ar Ay 2 [] O ?_)))));refine⟨(i+1),AT,by omega,BU ⟨we rfl,we rfl,we rfl,we rfl,we rfl,we rfl,trivial⟩ (leH (is:=[1,2,3]) rfl (wl (ob (by first | (simp only[step_take hx,Um c3];done) | (simp only[step_take hx,T7 c3 hx1];done))) (wl (om (by first | (simp only[step_take hx,Um c3];done) | (simp only[step_take hx,T7 c3 hx1];done))) (wl (oe rfl) (C3)))))⟩
 (try simp only[sd,se] at c2);refine Bf (Aw ?_);have hfin:XB ((l.vars.take i).foldl (D6 ps) ([],l.const)):=XB.fold (List.all_eq_true.1 hv.2) _ _ (XB.zero _) (fun x hx=>by
  obtain⟨j,hj⟩:=List.mem_iff_getElem?.1 (List.mem_of_mem_take hx);exact⟨Kv hv.1 hj,eA hv.1 hpl hj⟩)
 refine Bq O (Aq O (B9 [0,1] O (.inl ⟨O,O,O⟩) (Za bs mm (((l.vars.take i).foldl (D6 ps) ([],l.const)).1) (((l.vars.take i).foldl (D6 ps) ([],l.const)).2) hfin) ⟨_,_,O,O,⟨_,_,O,O,O⟩⟩ Am O (.inl O)) (Ar Ay 4 [2,1] O (Az (⟨O,_,_,⟨_,_,O,(A9 (i:=2) DY O O Af),⟨_,_,O,O,O⟩⟩,(List.nil_sublist _),?_⟩))))
 all_goals exact⟨by show (.tup [.agg ((Bz ((JR ⟨(((l.vars.take i).foldl (D6 ps) ([],l.const)).2),G4 (((l.vars.take i).foldl (D6 ps) ([],l.const)).1)⟩).1)).map .p),.p (I ((JR ⟨(((l.vars.take i).foldl (D6 ps) ([],l.const)).2),G4 (((l.vars.take i).foldl (D6 ps) ([],l.const)).1)⟩).2))]:AV)=_;rw[show Ib l ps=JR ⟨(l.vars.foldl (D6 ps) ([],l.const)).2,G4 (l.vars.foldl (D6 ps) ([],l.const)).1⟩ by rw[Ib,if_neg (by simp[hv]),if_neg hpl]];rw[show l.vars.take i=l.vars from List.take_of_length_le An],rfl⟩
theorem _root_.Go.Ag {α:Prop}(h:α:=by simp[BD]):α:=h
theorem GL:∀(f:Tm) (xs:List Tm),(xs.length<Dc)→EZ Tryz.prog 24 [.agg ((BO f).map .p),.p (.lst (BE xs))] (.agg ((BO (apply f xs)).map .p)):=by
 intro f xs h1;simp only[Dc] at h1;refine A5 Tryz.func24 O rO (n:=20) O O (Aw (BF O (BN O) fun b2=>BF O (A7 Bw O) fun b4=>Bg O (As (Au Ay 1 [] O (A8 (Bb (α:=Nat) (fun i=>⟨20,mk [(1,.p (.lst (BE xs))),(2,.ptr b2 0),(4,.ptr b4 0),(5,.p (I (i:Int)))],[.box b4 [.p (I 0),.p (I 0),.p (.str ⟨#[]⟩),.p (.nils),.p (.nils)],.box b2 ((BO (apply f (xs.take i))).map .p)],[]⟩) (fun i=>xs.length - i) (fun i=>i≤xs.length) 0 AP ?_ ?_))))))
 ·exact BU ⟨we O,we O,we O,we O,Ap⟩ (leH (is:=[0,1]) O (wl (oe O) (wl (oe O) (C3))))
 rintro i hC
 try simp only at hC
 have hi:=hC;refine As (Aw (Ax Ay 2 [] O (Aq O (BK Be O (BQ _)) (Ar Ay 1 [] O (Av O (fun c=>?_) (fun c=>?_))))))
 ·(try simp only[sd,se] at c);refine A1 (As (A8 (Bt (fun k=>false) Dn (BP Ay 3 [1] O ?_))));obtain⟨x,hx⟩:=A6 (l:=xs) (i:=i) An;refine BG O (fun _=>A4 Be O O An (Bd hx) (BD _)) Ap (BG O (fun _=>BM BY O (BD _)) Ap ?_);generalize hz:(apply f (xs.take i))=z;obtain⟨zk,zi,zn,zl,zs⟩:=z;obtain⟨xk,xi,xn,xl,xs1⟩:=x;refine BG O (fun _=>Bl Be Bw O O O O O) Ap (Bj Ay 2 [1,0] O (A2 (Ar Ay 3 [] O ?_)));refine⟨(i+1),AT,by omega,BU ⟨we rfl,we rfl,we rfl,we rfl,trivial⟩ (leH (is:=[0,1]) rfl (wl (oe rfl) (wl (on (by rw[Q7 hx,hz];rfl)) (C3))))⟩
 (try simp only[sd,se] at c);refine Bf (Au Ay 2 [1,0,1] O (Az (⟨O,_,_,⟨_,_,O,(A9 (i:=0) BY O O Ag),O⟩,(List.nil_sublist _),?_⟩)))
 all_goals exact⟨by show (.agg ((BO (apply f (xs.take i))).map .p):AV)=_;rw[show i=xs.length by omega,List.take_length],rfl⟩
theorem _root_.Go.AZ {α:Prop}(h:α:=by simp only[Dc];omega):α:=h
theorem aZ:∀(n:Nat) (t:Tm),(size t≤n)→(n<Dc)→Bo Tryz.prog 21 [.agg ((BO t).map .p)] [] (bJ (fun v=> .tup [.agg ((BO ((BA t).1)).map .p),v]) 5 (BE ((BA t).2))):=by
 intro n
 induction n with
 | zero=>intro t h;cases t;simp[size] at h
 | succ n ih =>
  intro t h1 h2;simp only[Dc] at h2;refine A5 Tryz.func21 O sG (n:=32) O O (Aw (BF O (BN O) fun b1=>BF O (A7 Bw O) fun b2=>Ar Ay 1 [] O (As (As ?_))));obtain⟨tk,ti,tn,tl,ts⟩:=t;simp only[size] at h1;refine BS [1,2] 14 (fun y=>y= .p (.bool (((tk:Int) !=(4:Int))||(((ts.length:Nat):Int) !=(2:Int))))) ?_ ?_
  ·refine A2 (Ax Ay 4 [1] O (BL 9 O (fun g=>?_) (fun g=>?_)))
   ·(try simp only[sd,se] at g);exact Ar Ay 5 [] O (⟨O,O,AK,AI,⟨O,O,Ap⟩⟩)
   (try simp only[sd,se] at g);exact Ax Ay 2 [1] O (BB O (BK Be O (BQ _)) (Ar Ay 2 [] O (⟨O,O,AK,AI,⟨O,O,Ap⟩⟩)))
  rintro _ rfl;refine Av O (fun c=>?_) (fun c=>?_)
  ·(try simp only[sd,se] at c);refine Au Ay 3 [1,0,0] O (BH (D4 (t:=3) (sz:=5) O) (Az (⟨O,_,_,⟨_,_,O,(A9 (i:=1) BY O O O),⟨_,_,O,O,O⟩⟩,(B4 (is:=[0]) O),?_⟩)));rw[Qt c]
   all_goals exact⟨_,_,rfl,rfl⟩
  (try simp only[sd,se] at c);refine A1 (Aw (Ax Ay 2 [1] O ?_));obtain⟨x,hx⟩:=A6 (l:=ts) (i:=0) An;refine Aq O (A4 Be O O An (Bd hx) (BD _)) (Aq O (BM BY O (BD _)) (Nl O O O (.inl ⟨O,O,O⟩) (ih x (by have:=Cc hx;omega) AZ) (.inl O) fun o cp=>Ax Ay 3 [] O (BF O (A7 Bw O) fun b4=>Ar Ay 2 [0,1] O (As (Bt (fun k=>Nat.beq k 7) Dn (BP Ay 4 [0,3] O ?_))))));obtain⟨x1,hx1⟩:=A6 (l:=ts) (i:=1) An;refine BG O (fun _=>A4 Be O O An (Bd hx1) (BD _)) Ap (BG O (fun _=>BM BY O (BD _)) Ap ?_);obtain⟨x1k,x1i,x1n,x1l,x1s⟩:=x1;refine BG O (fun _=>Bl Be Bw O O O O O) Ap (Kn [] O O (CK (i:=1) (rows':=BE [(.mk x1k x1i x1n x1l x1s:Tm)]) Be Be Bw O O O O O O (Bv _) (by have:=Pa x;have:=Cc hx;simp[BQ];omega) (Jf ((BA x).2) [(.mk x1k x1i x1n x1l x1s:Tm)])) Aj fun o1 cp1=>⟨AB,Ap,?_⟩);refine Bj Ay 2 [2,1] O (Az (⟨O,_,_,⟨_,_,O,(A9 (i:=2) BY O O Ag),⟨_,_,O,O,O⟩⟩,(B4 (is:=[1]) O),?_⟩));rw[S1 c hx hx1]
  all_goals exact⟨_,_,rfl,rfl⟩
theorem VA:∀(n:Nat) (t:Tm),size t≤n→n<Dc→EZ Tryz.prog 21 [TV t] (.tup [TV (BA t).1,mU (BA t).2]) :=
 fun n t h1 h2=>Xm (pre:=[_]) (post:=[]) (aZ n t h1 h2) (fun x _=>VE x)
theorem Mi:∀(n:Nat) (t:Tm),(size t≤n)→(Nd t)→EZ Tryz.prog 77 [.agg ((BO t).map .p)] (.p (I (Ek t))):=by
 intro n
 induction n with
 | zero=>intro t h;cases t;simp[size] at h
 | succ n ih =>
  intro t h1 h2;obtain⟨tk,ti,tn,tl,ts⟩:=t;simp only[size] at h1;simp only[Nd,Dc] at h2;refine A5 Tryz.func77 O sl (n:=21) O O (Aw (BF O (BN O) fun b1=>Ar Ay 1 [] O (Au Ay 1 [] O (As (Au Ay 1 [] O (A8 (Bb (α:=Nat×Int) (fun(i,m)=>⟨21,mk [(1,.ptr b1 0),(3,.p (I m)),(4,.p (I (i:Int)))],[.box b1 [.p (I tk),.p (I ti),.p (.str tn),.p (.lst (List.map Bz tl)),.p (.lst (BE ts))]],[]⟩) (fun(i,m)=>ts.length - i) (fun(i,m)=>i≤ts.length∧(LK m (ts.drop i)=LK 1 ts)) ⟨0,1⟩ Ao ?_ ?_)))))))
  ·exact BU ⟨we O,we O,we O,Ap⟩ (leH (is:=[0]) O (wl (oe O) (C3)))
  rintro⟨i,m⟩ hC
  try simp only at hC
  obtain⟨hi,hC⟩:=hC;refine As (Aw (Ax Ay 3 [0] O (Aq O (BK Be O (BQ _)) (Ar Ay 1 [] O (Av O (fun c=>?_) (fun c=>?_))))))
  ·(try simp only[sd,se] at c);refine A1 (As (A8 (A2 (Ax Ay 4 [0] O ?_))));obtain⟨x,hx⟩:=A6 (l:=ts) (i:=i) An;refine Aq O (A4 Be O O An (Bd hx) (BD _)) (Aq O (BM BY O (BD _)) (Aq O (BC O O (ih x (by have:=Cc hx;omega) (DQ h2.2.2.2.2.1 hx)) O) (Aq O (EC O O) (Ar Ay 1 [] O (A2 (Ar Ay 3 [] O ?_))))));refine⟨⟨i+1,wr (m+Ek x)⟩,AT,⟨by omega,by rw[←hC,Cj hx];rfl⟩,BU ⟨we rfl,we rfl,we rfl,trivial⟩ (leH (is:=[0]) rfl (wl (oe rfl) (C3)))⟩
  (try simp only[sd,se] at c);refine Bf (Au Ay 2 [] O (Az (⟨O,_,_,⟨_,_,O,O,O⟩,(List.nil_sublist _),?_⟩)))
  all_goals exact⟨pI (by rw[show Ek (.mk tk ti tn tl ts)=LK 1 ts from rfl,←hC,show i=ts.length by omega,List.drop_length];rfl),rfl⟩
theorem N8:∀(n:Nat) (t:Tm),(size t≤n)→(Nd t)→EZ Tryz.prog 93 [.agg ((BO t).map .p)] (.p (I (Et t))):=by
 intro n
 induction n with
 | zero=>intro t h;cases t;simp[size] at h
 | succ n ih =>
  intro t h1 h2;obtain⟨tk,ti,tn,tl,ts⟩:=t;simp only[size] at h1;simp only[Nd,Dc] at h2;refine A5 Tryz.func93 O qu (n:=22) O O (Aw (BF O (BN O) fun b1=>Ar Ay 1 [] O (Au Ay 1 [] O (As (Au Ay 1 [] O (A8 (Bb (α:=Nat×Int) (fun(i,m)=>⟨22,mk [(1,.ptr b1 0),(3,.p (I m)),(4,.p (I (i:Int)))],[.box b1 [.p (I tk),.p (I ti),.p (.str tn),.p (.lst (List.map Bz tl)),.p (.lst (BE ts))]],[]⟩) (fun(i,m)=>ts.length - i) (fun(i,m)=>i≤ts.length∧(Jm m (ts.drop i)=Jm 0 ts)) ⟨0,0⟩ Ao ?_ ?_)))))))
  ·exact BU ⟨we O,we O,we O,Ap⟩ (leH (is:=[0]) O (wl (oe O) (C3)))
  rintro⟨i,m⟩ hC
  try simp only at hC
  obtain⟨hi,hC⟩:=hC;refine As (Aw (Ax Ay 3 [0] O (Aq O (BK Be O (BQ _)) (Ar Ay 1 [] O (Av O (fun c=>?_) (fun c=>?_))))))
  ·(try simp only[sd,se] at c);refine A1 (As (A8 (A2 (Ax Ay 4 [0] O ?_))));obtain⟨x,hx⟩:=A6 (l:=ts) (i:=i) An;refine Aq O (A4 Be O O An (Bd hx) (BD _)) (Aq O (BM BY O (BD _)) (Aq O (BC O O (ih x (by have:=Cc hx;omega) (DQ h2.2.2.2.2.1 hx)) O) (Aq O (FI O O) (Ar Ay 1 [] O (A2 (Ar Ay 3 [] O ?_))))));refine⟨⟨i+1,max m (Et x)⟩,AT,⟨by omega,by rw[←hC,Cj hx];rfl⟩,BU ⟨we rfl,we rfl,we rfl,trivial⟩ (leH (is:=[0]) rfl (wl (oe rfl) (C3)))⟩
  (try simp only[sd,se] at c);refine Bf (Aw (Bq O (Aq O (EC O O) (Ar Ay 1 [] O (Az (⟨O,_,_,⟨_,_,O,O,O⟩,(List.nil_sublist _),?_⟩))))))
  all_goals exact⟨pI (by rw[show Et (.mk tk ti tn tl ts)=wr (Jm 0 ts+1) from rfl,←hC,show i=ts.length by omega,List.drop_length];rfl),rfl⟩
theorem Xw:∀(b:Nat) (er nd e:Int),Bo Tryz.prog 141 [.ptr b 0,.p (I e)] [.box b [.p (I er),.p (I nd)]] (GU (.tup []) [.box b [.p (I (Gf er e)),.p (I nd)]]):=by
 intro b er nd e;refine A5 Tryz.func141 O nB (n:=13) O O (Au Ay 5 [0] O (Av O (fun c=>?_) (fun c=>?_)))
 ·(try simp only[sd,se] at c);refine A2 (Ar Ay 5 [0,0] O ⟨O,_,_,O,(B4 (is:=[0]) O),?_⟩);refine⟨O,?_⟩;show ([.box b [.p (I e),.p (I nd)]]:List BI)=_;simp[Gf,c]
 (try simp only[sd,se] at c);refine A1 ⟨O,_,_,O,(B4 (is:=[0]) O),?_⟩;refine⟨O,?_⟩;show ([.box b [.p (I er),.p (I nd)]]:List BI)=_;simp[Gf,c]
theorem RZ:∀(b:Nat) (er nd i:Int),Bo Tryz.prog 126 [.ptr b 0,.p (I i)] [.box b [.p (I er),.p (I nd)]] (GU (.agg ((BO (PK i)).map .p)) [.box b [.p (I (Nq er i)),.p (I nd)]]):=by
 intro b er nd i;refine A5 Tryz.func126 O nJ (n:=11) O O (Aw (BF O (A7 Bw O) fun b4=>Bg O (As (Au Ay 2 [] O (Av O (fun c=>?_) (fun c=>?_))))))
 ·(try simp only[sd,se] at c);refine A2 (Bq O (Aq O (B9 [1] O (.inl ⟨O,O,O⟩) (Xw b er nd 24) ⟨_,_,O,O,O⟩ Am O (.inl O)) (Bg O (Au Ay 3 [0,0] O (BH (BR (i:=0) O) (Az (⟨O,_,_,⟨_,_,O,(A9 (i:=0) BY O O O),O⟩,(B4 (is:=[1]) O),?_⟩)))))));refine⟨O,?_⟩;show ([.box b [.p (I (Gf er 24)),.p (I nd)]]:List BI)=_;simp[Nq,show i > 65535 by omega]
 (try simp only[sd,se] at c);refine A1 (Au Ay 3 [0,0] O (BH (BR (i:=0) O) (Az (⟨O,_,_,⟨_,_,O,(A9 (i:=0) BY O O O),O⟩,(B4 (is:=[1]) O),?_⟩))));refine⟨O,?_⟩;show ([.box b [.p (I er),.p (I nd)]]:List BI)=_;simp[Nq,show ¬i > 65535 by omega]
theorem _root_.Go.AD {α:Prop}(h:α:=by simp only[BQ,List.length_map,List.length_cons,List.length_nil,List.nil_append,List.length_append];omega):α:=h
theorem ZR:∀(n:Nat) (t:Tm) (b:Nat) (by' fr d er nd:Int),(size t≤n)→(Nd t)→(0≤d)→(d+n<2 ^ 62)→Bo Tryz.prog 125 [.ptr b 0,.agg ((BO t).map .p),.p (I by'),.p (I fr),.p (I d)] [.box b [.p (I er),.p (I nd)]] (GU (.agg ((BO ((Cg by' fr d er t).1)).map .p)) [.box b [.p (I ((Cg by' fr d er t).2)),.p (I nd)]]):=by
 intro n
 induction n with
 | zero=>intro t b by' fr d er nd h;cases t;simp[size] at h
 | succ n ih =>
  intro t b by' fr d er nd h1 h2 h3 h4
  obtain⟨tk,ti,tn,tl,ts⟩:=t;simp only[size] at h1;simp only[Nd,Dc] at h2;refine A5 Tryz.func125 O oU (n:=68) O O (Aw (BF O (BN O) fun b6=>BF O (A7 Bw O) fun b10=>Bg O (As (Au Ay 3 [1] O (Av O (fun c=>?_) (fun c=>?_))))))
  ·(try simp only[sd,se] at c);refine As (Aw (Ax Ay 4 [1] O (Aq O (EC O O) (Ar Ay 1 [] O (Av O (fun c1=>?_) (fun c1=>?_))))))
   ·(try simp only[sd,se] at c1);refine Au Ay 2 [1,0,0] O (Az (⟨O,_,_,⟨_,_,O,(A9 (i:=0) BY O O O),O⟩,(B4 (is:=[2]) O),?_⟩));refine⟨by show (.agg [.p (I tk),.p (I ti),.p (.str tn),.p (.lst (List.map Bz tl)),.p (.lst (BE ts))]:AV)=_;rw[Cg,if_pos c,if_pos c1];rfl,?_⟩;show ([.box b [.p (I er),.p (I nd)]]:List BI)=_;rw[Cg,if_pos c,if_pos c1]
   (try simp only[sd,se] at c1);refine A1 (As (Aw (Ax Ay 3 [1] O (Aq O (EC O O) (Ax Ay 2 [] O (Aq O (EC O O) (Ar Ay 1 [] O (Av O (fun c2=>?_) (fun c2=>?_)))))))))
   ·(try simp only[sd,se] at c2);refine Aw (Bq O (Aq O (B9 [2] O (.inl ⟨O,O,O⟩) (Xw b er nd 24) ⟨_,_,O,O,O⟩ Am O (.inl O)) (Bg O (Au Ay 2 [1,0,0] O (Az (⟨O,_,_,⟨_,_,O,(A9 (i:=0) BY O O O),O⟩,(B4 (is:=[2]) O),?_⟩))))));refine⟨by show (.agg [.p (I tk),.p (I ti),.p (.str tn),.p (.lst (List.map Bz tl)),.p (.lst (BE ts))]:AV)=_;rw[Cg,if_pos c,if_neg An,if_pos c2];rfl,?_⟩;show ([.box b [.p (I (Gf er 24)),.p (I nd)]]:List BI)=_;rw[Cg,if_pos c,if_neg An,if_pos c2]
   (try simp only[sd,se] at c2);refine A1 (Aw (Ax Ay 4 [1] O (Aq O (EC O O) (Aq O (B9 [2] O (.inl ⟨O,O,O⟩) (RZ b er nd (wr ((ti:Int)+(by':Int)))) ⟨_,_,rfl,rfl,rfl⟩ Am rfl (.inl rfl)) (Ar Ay 1 [0,1] O (Az (⟨O,_,_,⟨_,_,O,(A9 (i:=0) BY O O Ag),O⟩,(B4 (is:=[2]) O),?_⟩)))))));refine⟨by show (.agg ((BO (PK (wr ((ti:Int)+(by':Int))))).map .p):AV)=_;rw[Cg,if_pos c,if_neg An,if_neg An],?_⟩;show ([.box b [.p (I (Nq er (wr ((ti:Int)+(by':Int))))),.p (I nd)]]:List BI)=_;rw[Cg,if_pos c,if_neg An,if_neg An]
  (try simp only[sd,se] at c);refine A1 (Au Ay 1 [] O (As (Au Ay 1 [] O (A8 (BH (D4 (t:=11) (sz:=5) O) (Bb (α:=Nat×List Tm×Int×Option Nat×Nat) (fun(i,ys,e,o,cp)=>⟨68,mk [(0,.ptr b 0),(2,.p (I by')),(3,.p (I fr)),(4,.p (I d)),(6,.ptr b6 0),(10,.ptr b10 0),(11,.vs o (BE ys).length cp),(12,.p (I (i:Int)))],[.vec o 5 (BE ys) cp,.box b10 [.p (I 0),.p (I 0),.p (.str ⟨#[]⟩),.p (.nils),.p (.nils)],.box b6 [.p (I tk),.p (I ti),.p (.str tn),.p (.lst (List.map Bz tl)),.p (.lst (BE ts))],.box b [.p (I e),.p (I nd)]],[]⟩) (fun(i,ys,e,o,cp)=>ts.length - i) (fun(i,ys,e,o,cp)=>i≤ts.length∧(ys.length=i∧(ys++(DB by' fr tk d i e (ts.drop i)).1,(DB by' fr tk d i e (ts.drop i)).2)=DB by' fr tk d 0 er ts)) ⟨0,[],er,none,0⟩ Ao ?_ ?_))))))
  ·exact BU ⟨we O,we O,we O,we O,we O,we O,we O,we O,Ap⟩ (leH (is:=[0,1,2,3]) O (wl (oe O) (wl (oe O) (wl (oe O) (wl (oe O) (C3))))))
  rintro⟨i,ys,e,o,cp⟩ hC
  try simp only at hC
  obtain⟨hi,hl,hC⟩:=hC;refine As (Aw (Ax Ay 3 [2] O (Aq O (BK Be O (BQ _)) (Ar Ay 1 [] O (Av O (fun c1=>?_) (fun c1=>?_))))))
  ·(try simp only[sd,se] at c1);refine A1 (As (A8 (Bt (fun k=>Nat.beq k 17) Dn (BP Ay 5 [2] O ?_))));obtain⟨x,hx⟩:=A6 (l:=ts) (i:=i) An;refine BG O (fun _=>A4 Be O O An (Bd hx) (BD _)) Ap (BP Ay 7 [2] O (BG O (fun _=>BC O O (UG tk (i:Int)) O) Ap (BG O (fun _=>K7 O O (by have:=C0 tk i;omega) (by have:=C0 tk i;omega)) Ap (F9 O O (B9 [3] O (.inl ⟨O,O,O⟩) (ih x b by' fr ((d:Int)+(below tk (i:Int):Int)) e nd (by have:=Cc hx;omega) (DQ h2.2.2.2.2.1 hx) (by have:=C0 tk i;omega) (by have:=C0 tk i;omega)) ⟨_,_,rfl,rfl,rfl⟩ Am rfl (.inl rfl)) AB trivial ?_))));generalize hz:(Cg by' fr ((d:Int)+(below tk (i:Int):Int)) e x).1=z;obtain⟨zk,zi,zn,zl,zs⟩:=z;refine BG O (fun _=>Bl Be Bw O O O O O) Ap (Kn [] O O (CK (i:=0) (rows':=BE [(.mk zk zi zn zl zs:Tm)]) Be Be Bw O O O O O O (Bv _) AD (Jf ys [(.mk zk zi zn zl zs:Tm)])) Aj fun o1 cp1=>⟨AB,Ap,?_⟩);refine Bj Ay 1 [] O (A2 (Ar Ay 3 [] O ?_));refine⟨⟨i+1,ys++[(Cg by' fr (d+below tk i) e x).1],(Cg by' fr (d+below tk i) e x).2,o1,cp1⟩,AT,⟨by omega,⟨by simp[hl],by rw[←hC,Cj hx];simp[DB]⟩⟩,BU ⟨we rfl,we rfl,we rfl,we rfl,we rfl,we rfl,we (MF (ys++[(.mk zk zi zn zl zs:Tm)]) (by rw[hz])),we rfl,trivial⟩ (leH (is:=[0,1,2,3]) rfl (wl (KA (ys++[(.mk zk zi zn zl zs:Tm)]) (by rw[hz])) (wl (oe rfl) (wl (oe rfl) (wl (oe rfl) (C3))))))⟩
  (try simp only[sd,se] at c1);refine Bf (Aw (Ax Ay 2 [] O (B2 (Ce (i:=0) [11,65] O (Dx ⟨O,O,Ap⟩)) (Ar Ay 1 [1,0] O (Au Ay 2 [1,0,0] O (Az (⟨O,_,_,⟨_,_,O,(A9 (i:=0) BY O O O),O⟩,(B4 (is:=[2]) O),?_⟩)))))));refine⟨by show (.agg [.p (I tk),.p (I ti),.p (.str tn),.p (.lst (List.map Bz tl)),.p (.lst (BE ys))]:AV)=_;rw[Cg,if_neg c];rw[show i=ts.length by omega,List.drop_length] at hC;rw[←hC];simp[DB];rfl,?_⟩;show ([.box b [.p (I e),.p (I nd)]]:List BI)=_;rw[Cg,if_neg c];rw[show i=ts.length by omega,List.drop_length] at hC;rw[←hC];simp[DB]
theorem gz:∀(n:Nat) (t:Tm) (vs:List Tm) (b:Nat) (d er nd:Int),(size t≤n)→(Nd t)→(MJ vs)→(Ba vs+d+n<2 ^ 62)→(0≤d)→Bo Tryz.prog 94 [.ptr b 0,.agg ((BO t).map .p),.p (.lst (BE vs)),.p (I d)] [.box b [.p (I er),.p (I nd)]] (GU (.agg ((BO ((CB vs d er nd t).1)).map .p)) [.box b [.p (I ((CB vs d er nd t).2.1)),.p (I ((CB vs d er nd t).2.2))]]):=by
 intro n
 induction n with
 | zero=>intro t vs b d er nd h;cases t;simp[size] at h
 | succ n ih =>
  intro t vs b d er nd h1 h2 h3 h4 h5;obtain⟨tk,ti,tn,tl,ts⟩:=t;simp only[size] at h1;simp only[Nd,Iz,Dc] at h2;have hvl:=Fe vs;refine A5 Tryz.func94 O rV (n:=105) O O (Aw (BF O (BN O) fun b5=>BF O (A7 Bw O) fun b8=>Bg O (As (Au Ay 5 [2] O (Av O (fun c=>?_) (fun c=>?_))))))
  ·(try simp only[sd,se] at c);refine Au Ay 2 [1,0,0] O (Az (⟨O,_,_,⟨_,_,O,(A9 (i:=0) BY O O O),O⟩,(B4 (is:=[2]) O),?_⟩));refine⟨by show (.agg [.p (I tk),.p (I ti),.p (.str tn),.p (.lst (List.map Bz tl)),.p (.lst (BE ts))]:AV)=_;rw[CB,if_pos An];rfl,?_⟩;show ([.box b [.p (I er),.p (I nd)]]:List BI)=_;rw[CB,if_pos An]
  (try simp only[sd,se] at c);refine A1 (As (As (BS [0,2,3,5,8] 35 (fun y=>y= .p (.bool ((((tk:Int)==(0:Int))&&(decide ((ti:Int)≥(d:Int))))&&(decide (((ti:Int) - (d:Int):Int)<((vs.length:Nat):Int)))))) ?_ ?_)))
  ·refine A2 (Ax Ay 4 [1] O (BL 21 O (fun g=>?_) (fun g=>?_)))
   ·(try simp only[sd,se] at g);refine Ax Ay 6 [1] O (BL 27 O (fun g1=>?_) (fun g1=>?_))
    ·(try simp only[sd,se] at g1);exact Ax Ay 5 [1] O (BB O (BK Be O (BQ _)) (Ar Ay 2 [] O (⟨O,O,AK,AI,⟨O,O,O,O,O,Ap⟩⟩)))
    (try simp only[sd,se] at g1);exact Ar Ay 8 [] O (⟨O,O,AK,AI,⟨O,O,O,O,O,Ap⟩⟩)
   (try simp only[sd,se] at g);exact Ar Ay 14 [] O (⟨O,O,AK,AI,⟨O,O,O,O,O,Ap⟩⟩)
  rintro _ rfl;refine Av O (fun c1=>?_) (fun c1=>?_)
  ·(try simp only[sd,se] at c1);refine Aw (Ax Ay 5 [1] O ?_);obtain⟨x,hx⟩:=A6 (l:=vs) (i:=((ti:Int) - (d:Int):Int).toNat) An;refine Aq O (A4 Be O O An (Bd hx) (BD _)) (Aq O (BM BY O (BD _)) (BF O (A7 Bw O) fun b9=>Ar Ay 1 [0,1] O (As (Bt (fun k=>false) Dn (BP Ay 5 [3,0] O (BG O (fun _=>BC O O (Mi _ x (Nat.le_refl _) (DQ h3 hx)) O) Ap (BG O (fun _=>EC O O) Ap (Bj Ay 3 [3,0] O (Aw (Ax Ay 3 [0] O (Aq O (B9 [3] O (.inl ⟨O,O,O⟩) (ZR _ x b d 0 0 er (wr ((nd:Int)+(Ek x:Int))) (Nat.le_refl _) (DQ h3 hx) An (by have:=Cc hx;omega)) ⟨_,_,O,O,O⟩ Am O (.inl O)) (Ar Ay 1 [1,1] O (Az (⟨O,_,_,⟨_,_,O,(A9 (i:=1) BY O O Ag),O⟩,(B4 (is:=[3]) O),?_⟩))))))))))))));refine⟨by show (.agg ((BO ((Cg d 0 0 er x).1)).map .p):AV)=_;rw[CB,if_neg An,if_pos An,OI hx],?_⟩;show ([.box b [.p (I ((Cg d 0 0 er x).2)),.p (I (wr ((nd:Int)+(Ek x:Int))))]]:List BI)=_;rw[CB,if_neg An,if_pos An,OI hx]
  (try simp only[sd,se] at c1);refine A1 (Aw (Ax Ay 4 [2] O (Aq O (EC O O) (Ar Ay 3 [2,0] O (As (Au Ay 3 [1] O (Av O (fun c2=>?_) (fun c2=>?_))))))))
  ·(try simp only[sd,se] at c2);refine As (Au Ay 4 [1] O (Av O (fun c3=>?_) (fun c3=>?_)))
   ·(try simp only[sd,se] at c3);refine Aw (Ax Ay 4 [1] O (Aq O (BK Be O (BQ _)) (Aq O (JS O O) (Aq O (B9 [2] O (.inl ⟨O,O,O⟩) (RZ b er (wr ((nd:Int)+(1:Int))) (wr ((ti:Int) - ((vs.length:Nat):Int)))) ⟨_,_,O,O,O⟩ Am O (.inl O)) (Ar Ay 1 [0,1] O (Az (⟨O,_,_,⟨_,_,O,(A9 (i:=0) BY O O Ag),O⟩,(B4 (is:=[2]) O),?_⟩)))))));refine⟨by show (.agg ((BO (PK (wr ((ti:Int) - ((vs.length:Nat):Int))))).map .p):AV)=_;rw[CB,if_neg An,if_neg An,if_pos An,if_pos An],?_⟩;show ([.box b [.p (I (Nq er (wr ((ti:Int) - ((vs.length:Nat):Int))))),.p (I (wr ((nd:Int)+(1:Int))))]]:List BI)=_;rw[CB,if_neg An,if_neg An,if_pos An,if_pos An]
   (try simp only[sd,se] at c3);refine A1 (Au Ay 2 [1,0,0] O (Az (⟨O,_,_,⟨_,_,O,(A9 (i:=0) BY O O O),O⟩,(B4 (is:=[2]) O),?_⟩)));refine⟨by show (.agg [.p (I tk),.p (I ti),.p (.str tn),.p (.lst (List.map Bz tl)),.p (.lst (BE ts))]:AV)=_;rw[CB,if_neg An,if_neg An,if_pos An,if_neg An];rfl,?_⟩;show ([.box b [.p (I er),.p (I (wr ((nd:Int)+(1:Int))))]]:List BI)=_;rw[CB,if_neg An,if_neg An,if_pos An,if_neg An]
  (try simp only[sd,se] at c2);refine A1 (Au Ay 1 [] O (As (Au Ay 1 [] O (A8 (BH (D4 (t:=10) (sz:=5) O) (Bb (α:=Nat×List Tm×Int×Int×Option Nat×Nat) (fun(i,ys,e,m,o,cp)=>⟨105,mk [(0,.ptr b 0),(2,.p (.lst (BE vs))),(3,.p (I d)),(5,.ptr b5 0),(8,.ptr b8 0),(10,.vs o (BE ys).length cp),(11,.p (I (i:Int)))],[.vec o 5 (BE ys) cp,.box b8 [.p (I 0),.p (I 0),.p (.str ⟨#[]⟩),.p (.nils),.p (.nils)],.box b5 [.p (I tk),.p (I ti),.p (.str tn),.p (.lst (List.map Bz tl)),.p (.lst (BE ts))],.box b [.p (I e),.p (I m)]],[]⟩) (fun(i,ys,e,m,o,cp)=>ts.length - i) (fun(i,ys,e,m,o,cp)=>i≤ts.length∧(ys.length=i∧(ys++(Ca vs tk d i e m (ts.drop i)).1,(Ca vs tk d i e m (ts.drop i)).2)=Ca vs tk d 0 er (wr (nd+1)) ts)) ⟨0,[],er,wr (nd+1),none,0⟩ Ao ?_ ?_))))))
  ·exact BU ⟨we O,we O,we O,we O,we O,we O,we O,Ap⟩ (leH (is:=[0,1,2,3]) O (wl (oe O) (wl (oe O) (wl (oe O) (wl (oe O) (C3))))))
  rintro⟨i,ys,e,m,o,cp⟩ hC
  try simp only at hC
  obtain⟨hi,hl,hC⟩:=hC;refine As (Aw (Ax Ay 3 [2] O (Aq O (BK Be O (BQ _)) (Ar Ay 1 [] O (Av O (fun c3=>?_) (fun c3=>?_))))))
  ·(try simp only[sd,se] at c3);refine A1 (As (A8 (Bt (fun k=>Nat.beq k 16) Dn (BP Ay 5 [2] O ?_))));obtain⟨x,hx⟩:=A6 (l:=ts) (i:=i) An;refine BG O (fun _=>A4 Be O O An (Bd hx) (BD _)) Ap (BP Ay 6 [2] O (BG O (fun _=>BC O O (UG tk (i:Int)) O) Ap (BG O (fun _=>K7 O O (by have:=C0 tk i;omega) (by have:=C0 tk i;omega)) Ap (F9 O O (B9 [3] O (.inl ⟨O,O,O⟩) (ih x vs b ((d:Int)+(below tk (i:Int):Int)) e m (by have:=Cc hx;omega) (DQ h2.2.2.2.2.1 hx) h3 (by have:=C0 tk i;omega) (by have:=C0 tk i;omega)) ⟨_,_,O,O,O⟩ Am O (.inl O)) AB Ap ?_))));generalize hz:(CB vs ((d:Int)+(below tk (i:Int):Int)) e m x).1=z;obtain⟨zk,zi,zn,zl,zs⟩:=z;refine BG O (fun _=>Bl Be Bw O O O O O) Ap (Kn [] O O (CK (i:=0) (rows':=BE [(.mk zk zi zn zl zs:Tm)]) Be Be Bw O O O O O O (Bv _) AD (Jf ys [(.mk zk zi zn zl zs:Tm)])) Aj fun o1 cp1=>⟨AB,Ap,?_⟩);refine Bj Ay 1 [] O (A2 (Ar Ay 3 [] O ?_));refine⟨⟨i+1,ys++[(CB vs (d+below tk i) e m x).1],(CB vs (d+below tk i) e m x).2.1,(CB vs (d+below tk i) e m x).2.2,o1,cp1⟩,AT,⟨by omega,⟨by simp[hl],by rw[←hC,Cj hx];simp[Ca]⟩⟩,BU ⟨we rfl,we rfl,we rfl,we rfl,we rfl,we (MF (ys++[(.mk zk zi zn zl zs:Tm)]) (by rw[hz])),we rfl,trivial⟩ (leH (is:=[0,1,2,3]) rfl (wl (KA (ys++[(.mk zk zi zn zl zs:Tm)]) (by rw[hz])) (wl (oe rfl) (wl (oe rfl) (wl (oe rfl) (C3))))))⟩
  (try simp only[sd,se] at c3);refine Bf (Aw (Ax Ay 2 [] O (B2 (Ce (i:=0) [10,102] O (Dx ⟨O,O,Ap⟩)) (Ar Ay 1 [1,0] O (Au Ay 2 [1,0,0] O (Az (⟨O,_,_,⟨_,_,O,(A9 (i:=0) BY O O O),O⟩,(B4 (is:=[2]) O),?_⟩)))))));refine⟨by show (.agg [.p (I tk),.p (I ti),.p (.str tn),.p (.lst (List.map Bz tl)),.p (.lst (BE ys))]:AV)=_;rw[CB,if_neg An,if_neg An,if_neg An];rw[show i=ts.length by omega,List.drop_length] at hC;rw[←hC];simp[Ca];rfl,?_⟩;show ([.box b [.p (I e),.p (I m)]]:List BI)=_;rw[CB,if_neg An,if_neg An,if_neg An];rw[show i=ts.length by omega,List.drop_length] at hC;rw[←hC];simp[Ca]
theorem dY:∀(t:Tm) (vs:List Tm) (d:Int),(size t<2 ^ 60)→(Nd t)→(MJ vs)→(Ba vs<2 ^ 60)→(0≤d)→EZ Tryz.prog 59 [.agg ((BO t).map .p),.p (.lst (BE vs)),.p (I d)] (.tup [.agg ((BO ((CJ t vs d).1)).map .p),.p (I ((CJ t vs d).2))]):=by
 intro t vs d h1 h2 h3 h4 h5;generalize hr:CB vs (min d 65536) 0 0 t=r;refine A5 Tryz.func59 O rB (n:=42) O O (Aw (BF O (BN O) fun b3=>BF O (A7 Bw O) fun b6=>Ar Ay 1 [] O (As (Au Ay 2 [] O (Av O (fun c=>?_) (fun c=>?_))))))
 ·(try simp only[sd,se] at c);exact Au Ay 3 [0,0] O (BH (BR (i:=0) O) (Az (absurd c An)))
 (try simp only[sd,se] at c);refine A1 (Aw (Aq O (CP gE eK O) (BF O (BN O) fun b14=>Ar Ay 1 [] O (Aw (Ax Ay 4 [2] O (Aq O (Y2 O O) (Aq O (B9 [0] O (.inl ⟨O,O,O⟩) (gz _ t vs b14 (min (d:Int) (65536:Int)) 0 0 (Nat.le_refl _) h2 h3 An An) ⟨_,_,O,O,O⟩ Am O (.inl O)) (BF O (A7 Bw O) fun b9=>Ar Ay 1 [0,1] O (As (Au Ay 5 [1] O (Av O (fun c1=>?_) (fun c1=>?_))))))))))))
 ·(try simp only[sd,se] at c1);refine Au Ay 3 [2,0] O (BH (BR (i:=2) O) (Az (⟨O,_,_,⟨_,_,O,(A9 (i:=2) BY O O O),⟨_,_,O,O,O⟩⟩,(List.nil_sublist _),?_⟩)));unfold CJ;rw[if_pos (by simpa using c1)]
  all_goals exact⟨rfl,rfl⟩
 (try simp only[sd,se] at c1);refine A1 (As (Au Ay 5 [1] O (Av O (fun c2=>?_) (fun c2=>?_))))
 ·(try simp only[sd,se] at c2);refine As (Bt (fun k=>false) Dn (Bj Ay 7 [1,2,0] O (BH (BR (i:=2) O) (Az (⟨O,_,_,⟨_,_,O,(A9 (i:=2) BY O O O),⟨_,_,O,O,O⟩⟩,(List.nil_sublist _),?_⟩)))));unfold CJ;rw[if_neg An,if_pos c2]
  all_goals exact⟨rfl,rfl⟩
 (try simp only[sd,se] at c2);refine A1 (As (Aw (Aq O (BT (i:=0) BY O O Ag) (Aq O (BC O O (N8 _ ((CB vs (min (d:Int) (65536:Int)) 0 0 t).1) (Nat.le_refl _) (O5 t vs _ _ _ h2 h3)) O) (Ar Ay 1 [] O (Av O (fun c3=>?_) (fun c3=>?_)))))))
 ·(try simp only[sd,se] at c3);refine Au Ay 3 [2,0] O (BH (BR (i:=2) O) (Az (⟨O,_,_,⟨_,_,O,(A9 (i:=2) BY O O O),⟨_,_,O,O,O⟩⟩,(List.nil_sublist _),?_⟩)));unfold CJ;rw[if_neg An,if_neg (by simpa using c2),if_pos c3]
  all_goals exact⟨rfl,rfl⟩
 (try simp only[sd,se] at c3);refine A1 (Au Ay 3 [0,2,1] O (Az (⟨O,_,_,⟨_,_,O,(A9 (i:=2) BY O O Ag),⟨_,_,O,O,O⟩⟩,(List.nil_sublist _),?_⟩)));unfold CJ;rw[if_neg An,if_neg (by simpa using c2),if_neg An]
 all_goals exact⟨rfl,rfl⟩
theorem N2:∀(t:Tm) (vs:List Tm),(size t<2 ^ 60)→(Nd t)→(MJ vs)→(Ba vs<2 ^ 60)→EZ Tryz.prog 23 [.agg ((BO t).map .p),.p (.lst (BE vs))] (.tup [.agg ((BO ((CJ t vs 0).1)).map .p),.p (I ((CJ t vs 0).2))]):=by
 intro t vs h1 h2 h3 h4;refine A5 Tryz.func23 O rT (n:=11) O O (Aw (BF O (BN O) fun b2=>BF O (A7 Bw O) fun b4=>Ar Ay 1 [] O (Aw (Ax Ay 2 [1] O (Aq O (BC O O (dY t vs 0 h1 h2 h3 h4 An) O) (Ar Ay 4 [0,1] O (Az (⟨O,_,_,⟨_,_,O,(A9 (i:=0) BY O O Ag),⟨_,_,O,O,O⟩⟩,(List.nil_sublist _),?_⟩))))))))
 all_goals exact⟨rfl,rfl⟩
theorem jc:∀(b:Nat) (c:EP) (t:Tm) (e:Int),(Nd t)→Bo Tryz.prog 78 [.ptr b 0,.agg ((BO t).map .p),.p (I e)] [.box b ((II c).map .p)] (GU (.tup []) [.box b ((II (c.form t e)).map .p)]):=by
 intro b c t e h1;refine A5 Tryz.func78 O sh (n:=65) O O (Aw (BF O (BN O) fun b4=>Bg O (As (Bt (fun k=>false) Dn (BP Ay 5 [1,0] O (BG O (fun _=>BC O O (Mi _ t (Nat.le_refl _) h1) O) Ap (BG O (fun _=>EC O O) Ap (Bj Ay 3 [1,0] O (As (BS [0] 61 (fun y=>y= .p (.bool (((((((e:Int) !=(0:Int))||(decide ((c.steps:Int) > (c.limit:Int))))||(decide ((c.nodes:Int) > (wr ((2:Int)*(c.limit:Int)):Int))))||(decide ((wr ((c.forms:Int)+(Ek t:Int)):Int) > (wr ((40:Int)*(c.limit:Int)):Int))))||(decide ((Ek t:Int) > (2000:Int))))||(decide ((Et t:Int) > (95:Int)))))) ?_ ?_))))))))))
 ·refine Bt (fun k=>false) Dn (BP Ay 3 [] O (Du 17 O (fun g=>?_) (fun g=>?_)))
  ·(try simp only[sd,se] at g);exact Bj Ay 44 [] O (⟨O,O,AK,AI,⟨O,Ap⟩⟩)
  (try simp only[sd,se] at g);refine BP Ay 11 [1,1] O (Du 28 O (fun g1=>?_) (fun g1=>?_))
  ·(try simp only[sd,se] at g1);exact Bj Ay 33 [] O (⟨O,O,AK,AI,⟨O,Ap⟩⟩)
  (try simp only[sd,se] at g1);refine BP Ay 8 [1,1] O (CZ O (fun _=>Vk O O) Ap (BP Ay 3 [] O (Du 40 O (fun g2=>?_) (fun g2=>?_))))
  ·(try simp only[sd,se] at g2);exact Bj Ay 21 [] O (⟨O,O,AK,AI,⟨O,Ap⟩⟩)
  (try simp only[sd,se] at g2);refine BP Ay 8 [1,1] O (CZ O (fun _=>Vk O O) Ap (BP Ay 3 [] O (Du 52 O (fun g3=>?_) (fun g3=>?_))))
  ·(try simp only[sd,se] at g3);exact Bj Ay 9 [] O (⟨O,O,AK,AI,⟨O,Ap⟩⟩)
  (try simp only[sd,se] at g3);refine BP Ay 1 [0] O (CZ O (fun _=>BC O O (Mi _ t (Nat.le_refl _) h1) O) Ap (BP Ay 3 [] O (Du 57 O (fun g4=>?_) (fun g4=>?_))))
  ·(try simp only[sd,se] at g4);exact Bj Ay 4 [] O (⟨O,O,AK,AI,⟨O,Ap⟩⟩)
  (try simp only[sd,se] at g4);exact BP Ay 1 [0] O (CZ O (fun _=>BC O O (N8 _ t (Nat.le_refl _) h1) O) Ap (Bj Ay 2 [] O (⟨O,O,AK,AI,⟨O,Ap⟩⟩)))
 rintro _ rfl;refine Av O (fun c1=>?_) (fun c1=>?_)
 ·have c1R:=c1;(try simp only[sd,se] at c1);refine A2 (Ar Ay 4 [1,0] O ⟨O,_,_,O,(B4 (is:=[1]) O),?_⟩);refine⟨O,?_⟩;show ([.box b [.p (I c.steps),.p (I c.nodes),.p (I (wr ((c.forms:Int)+(Ek t:Int)))),.p (I c.limit),.p (.bool true)]]:List BI)=_;simp only[EP.form,II,List.map_cons,List.map_nil];rw[c1R];simp
 have c1R:=c1;(try simp only[sd,se] at c1);refine A1 ⟨O,_,_,O,(B4 (is:=[1]) O),?_⟩;refine⟨O,?_⟩;show ([.box b [.p (I c.steps),.p (I c.nodes),.p (I (wr ((c.forms:Int)+(Ek t:Int)))),.p (I c.limit),.p (.bool c.over)]]:List BI)=_;simp only[EP.form,II,List.map_cons,List.map_nil];rw[c1R];simp
theorem gW:∀{σ:Type}(st:σ→Int→Tm→σ×Bool) (Inv:Nat→σ→Prop) (HP:Bool→σ→List BI→Prop) (l b2 b3 b4:Nat) (hI:∀m s d t,Inv (m+1) s→Inv m (st s d t).1) (hy:∀m s d t T,Nd t→Inv (m+1) s→HP true s T→MD Tryz.prog l [.p (I d),TV t] T (Vm (.p (.bool (st s d t).2)) (HP (st s d t).2 (st s d t).1))) (n:Nat) (t:Tm) (d:Int) (s:σ) (T0:List BI) (m:Nat),size t≤n→Nd t→0≤d→d+n<4611686018427387904→Inv (m+size t) s→HP true s T0→Bo Tryz.prog 114 [TV t,.p (I d),.ptr b2 0,.ptr b3 0,.ptr b4 0] (.box b2 [.fn (.yield l) [] []]:: .box b3 Pn:: .box b4 [.fn (.func 114) [] [.ptr b2 0,.ptr b3 0,.ptr b4 0]]::T0) (Vm (.p (.bool (Eh st t d s).2)) (fun H=>∃T,HP (Eh st t d s).2 (Eh st t d s).1 T∧H= .box b2 [.fn (.yield l) [] []]:: .box b3 Pn:: .box b4 [.fn (.func 114) [] [.ptr b2 0,.ptr b3 0,.ptr b4 0]]::T)):=by
 intro σ st Inv HP l b2 b3 b4 hI hy n
 induction n with
 | zero=>intro t d s T0 m h;cases t;simp[size] at h
 | succ n ih =>
  intro t d s T0 m h1 h2 h3 h4 h5 h6;obtain⟨tk,ti,tn,tl,ts⟩:=t;have h2':=h2;simp only[size] at h1 h5;simp only[Nd,Iz,Dc] at h2;refine A5 Tryz.func114 O nU (n:=50) O O (Aw (BF O (BN O) fun b5=>Ar Ay 1 [] O (As (Aw (Ax Ay 3 [1,0] O (I7 [_,_,_,_] O O O O (hy (m+Ba ts) _ _ _ _ h2' (by rw[Nat.add_assoc,Nat.add_comm (Ba ts)];exact h5) h6) O ?_ (fun _ _ h=>h.elim)))))));rintro _ T ⟨rfl,hT⟩;refine Ar Ay 1 [] O (Av O (fun c=>?_) (fun c=>?_))
  ·(try simp only[sd,se] at c);refine Au Ay 1 [] O (Az (⟨O,_,_,⟨_,_,O,O,O⟩,(Gy [1,2,3] [_,_,_,_] O),?_⟩));rw[Vw c];rw[c] at hT;exact⟨O,_,hT,O⟩
  (try simp only[sd,se] at c);rw[c] at hT;refine A1 (Au Ay 1 [] O (As (As (BS [1,3,4,5,8] 24 (fun y=>y= .p (.bool ((decide ((tk:Int)≥(0:Int)))&&(decide ((tk:Int)<(13:Int)))))) ?_ ?_))))
  ·refine A2 (Ax Ay 4 [0] O (BL 20 O (fun g=>?_) (fun g=>?_)))
   ·(try simp only[sd,se] at g);exact Ar Ay 4 [0] O (⟨O,O,AK,AI,⟨O,O,O,O,O,Ap⟩⟩)
   (try simp only[sd,se] at g);exact Ar Ay 4 [] O (⟨O,O,AK,AI,⟨O,O,O,O,O,Ap⟩⟩)
  rintro _ rfl;refine Av O (fun c1=>?_) (fun c1=>?_)
  ·(try simp only[sd,se] at c1);refine A2 (Ax Ay 2 [0] O (Aq O (SL kV kN O O An An) (Aq O (A0 ny O O) (Aq O (B5 (i:=2) DN O O (e6 An)) (Ar Ay 1 [] O (As (Aw (Ax Ay 2 [0] O (Aq O (BK Be O (BQ _)) (Ar Ay 1 [] O (A8 ?_)))))))))));refine Bb (α:=Nat×σ×List BI) (fun(i,q,U)=>⟨50,mk [(1,.p (I d)),(4,.ptr b4 0),(8,.p (I (Jy tk))),(31,.p (.lst (BE ts))),(32,.p (I (ts.length:Nat))),(33,.p (I (i:Int)))],(.box b2 [.fn (.yield l) [] []]:: .box b3 Pn:: .box b4 [.fn (.func 114) [] [.ptr b2 0,.ptr b3 0,.ptr b4 0]]::U),[]⟩) (fun(i,q,U)=>ts.length - i) (fun(i,q,U)=>i≤ts.length∧(Ed st tk d i q (ts.drop i)=Ed st tk d 0 (st s d (.mk tk ti tn tl ts)).1 ts∧Inv (m+Ba (ts.drop i)) q∧HP true q U)) ⟨0,(st s d (.mk tk ti tn tl ts)).1,T⟩ (⟨by omega,by simp,by simpa using hI _ _ _ _ (by rw[Nat.add_assoc,Nat.add_comm (Ba ts)];exact h5),by assumption⟩) ?_ ?_
   ·exact BU ⟨we O,we O,we O,we O,we O,we O,Ap⟩ (ZV [1,2,3] [_,_,_,_] (l':=[_,_,_]) O (wl (oe O) (wl (oe O) (wl (oe O) (C3)))))
   rintro⟨i,q,U⟩ hC
   try simp only at hC
   obtain⟨hi,hC,hJ,hK⟩:=hC;refine Au Ay 1 [] O (As (Av O (fun c2=>?_) (fun c2=>?_)))
   ·(try simp only[sd,se] at c2);refine A1 (As (A8 (Aw (Bq O ?_))));obtain⟨x,hx⟩:=A6 (l:=ts) (i:=i) An;refine Aq O (A4 Be O O An (Bd hx) (BD _)) (Aq O (BM BY O (BD _)) (BF O (A7 Bw O) fun b10=>Ar Ay 2 [0,1] O (Au Ay 2 [] O (As (Au Ay 3 [] O (Av O (fun c3=>?_) (fun c3=>?_)))))))
    ·(try simp only[sd,se] at c3);refine A2 (Ar Ay 3 [] O (BH (C5 (t:=11) (x:= .p (I (d+below tk i))) (pI (by have:=Vl (k:=tk) (i:=i) An An;omega))) (Aw (Ax Ay 3 [3,0] O (IP [_] O O O (.inr O) (ih x (d+below tk i) q _ (m+Ba (ts.drop (i+1))) (by have:=Cc hx;omega) (DQ h2.2.2.2.2.1 hx) (by have:=C0 tk i;omega) (by have:=C0 tk i;omega) (by rw[Cj hx,Ba] at hJ;rw[Nat.add_assoc,Nat.add_comm (Ba _)];exact hJ) hK) (aw (we O) (aw (we O) (aw (we O) (aw (we O) (aw (we O) (Eo)))))) ?_ (fun _ _ h=>h.elim))))));rintro _ _ ⟨rfl,T1,hT1,rfl⟩;refine Ar Ay 1 [] O (Av O (fun c4=>?_) (fun c4=>?_))
     ·(try simp only[sd,se] at c4);refine Au Ay 1 [] O (Az (⟨O,_,_,⟨_,_,O,O,O⟩,(Gy [1,2,3] [_,_,_,_] O),?_⟩));rw[H6 Ak,←hC,Iu hx c4];rw[c4] at hT1;exact⟨O,_,hT1,O⟩
     (try simp only[sd,se] at c4);rw[c4] at hT1;refine A1 (A2 (Ar Ay 2 [] O ?_));refine⟨⟨i+1,(Eh st x (d+below tk i) q).1,T1⟩,AT,⟨by omega,⟨by rw[←hC];exact(LO hx Ak).symm,by rw[Cj hx,Ba] at hJ;exact JI hI x _ _ _ (by rw[Nat.add_assoc,Nat.add_comm (Ba _)];exact hJ) Ak,by assumption⟩⟩,BU ⟨we rfl,we rfl,we rfl,we rfl,we rfl,we rfl,trivial⟩ (ZV [1,2,3] [_,_,_,_] (l':=[_,_,_]) rfl (wl (oe rfl) (wl (oe rfl) (wl (oe rfl) (C3)))))⟩
    (try simp only[sd,se] at c3);refine A1 (BH (C5 (t:=11) (x:= .p (I (d+below tk i))) (pI (by have:=Sx (k:=tk) (i:=i) An;omega))) (Aw (Ax Ay 3 [3,0] O (IP [_] O O O (.inr O) (ih x (d+below tk i) q _ (m+Ba (ts.drop (i+1))) (by have:=Cc hx;omega) (DQ h2.2.2.2.2.1 hx) (by have:=C0 tk i;omega) (by have:=C0 tk i;omega) (by rw[Cj hx,Ba] at hJ;rw[Nat.add_assoc,Nat.add_comm (Ba _)];exact hJ) hK) (aw (we O) (aw (we O) (aw (we O) (aw (we O) (aw (we O) (Eo)))))) ?_ (fun _ _ h=>h.elim)))));rintro _ _ ⟨rfl,T1,hT1,rfl⟩;refine Ar Ay 1 [] O (Av O (fun c4=>?_) (fun c4=>?_))
    ·(try simp only[sd,se] at c4);refine Au Ay 1 [] O (Az (⟨O,_,_,⟨_,_,O,O,O⟩,(Gy [1,2,3] [_,_,_,_] O),?_⟩));rw[H6 Ak,←hC,Iu hx c4];rw[c4] at hT1;exact⟨O,_,hT1,O⟩
    (try simp only[sd,se] at c4);rw[c4] at hT1;refine A1 (A2 (Ar Ay 2 [] O ?_));refine⟨⟨i+1,(Eh st x (d+below tk i) q).1,T1⟩,AT,⟨by omega,⟨by rw[←hC];exact(LO hx Ak).symm,by rw[Cj hx,Ba] at hJ;exact JI hI x _ _ _ (by rw[Nat.add_assoc,Nat.add_comm (Ba _)];exact hJ) Ak,by assumption⟩⟩,BU ⟨we rfl,we rfl,we rfl,we rfl,we rfl,we rfl,trivial⟩ (ZV [1,2,3] [_,_,_,_] (l':=[_,_,_]) rfl (wl (oe rfl) (wl (oe rfl) (wl (oe rfl) (C3)))))⟩
   (try simp only[sd,se] at c2);refine Bf (Au Ay 1 [] O (Az (⟨O,_,_,⟨_,_,O,O,O⟩,(Gy [0,1,2] [_,_,_] O),?_⟩)));rw[H6 Ak,←hC,show i=ts.length by omega,List.drop_length];exact⟨O,_,hK,O⟩
  (try simp only[sd,se] at c1);have hbx:=VN (k:=tk) An;refine A1 (As (Aw (Ax Ay 2 [0] O (Aq O (BK Be O (BQ _)) (Ar Ay 1 [] O (A8 ?_))))));refine Bb (α:=Nat×σ×List BI) (fun(i,q,U)=>⟨50,mk [(1,.p (I d)),(4,.ptr b4 0),(8,.p (I (-1))),(31,.p (.lst (BE ts))),(32,.p (I (ts.length:Nat))),(33,.p (I (i:Int)))],(.box b2 [.fn (.yield l) [] []]:: .box b3 Pn:: .box b4 [.fn (.func 114) [] [.ptr b2 0,.ptr b3 0,.ptr b4 0]]::U),[]⟩) (fun(i,q,U)=>ts.length - i) (fun(i,q,U)=>i≤ts.length∧(Ed st tk d i q (ts.drop i)=Ed st tk d 0 (st s d (.mk tk ti tn tl ts)).1 ts∧Inv (m+Ba (ts.drop i)) q∧HP true q U)) ⟨0,(st s d (.mk tk ti tn tl ts)).1,T⟩ (⟨by omega,by simp,by simpa using hI _ _ _ _ (by rw[Nat.add_assoc,Nat.add_comm (Ba ts)];exact h5),by assumption⟩) ?_ ?_
  ·exact BU ⟨we O,we O,we O,we O,we O,we O,Ap⟩ (ZV [1,2,3] [_,_,_,_] (l':=[_,_,_]) O (wl (oe O) (wl (oe O) (wl (oe O) (C3)))))
  rintro⟨i,q,U⟩ hC
  try simp only at hC
  obtain⟨hi,hC,hJ,hK⟩:=hC;refine Au Ay 1 [] O (As (Av O (fun c2=>?_) (fun c2=>?_)))
  ·(try simp only[sd,se] at c2);refine A1 (As (A8 (Aw (Bq O ?_))));obtain⟨x,hx⟩:=A6 (l:=ts) (i:=i) An;refine Aq O (A4 Be O O An (Bd hx) (BD _)) (Aq O (BM BY O (BD _)) (BF O (A7 Bw O) fun b10=>Ar Ay 2 [0,1] O (Au Ay 2 [] O (As (Au Ay 3 [] O (Av O (fun c3=>?_) (fun c3=>?_)))))))
   ·(try simp only[sd,se] at c3);refine A2 (Ar Ay 3 [] O (BH (C5 (t:=11) (x:= .p (I (d+below tk i))) (pI (by have:=Vl (k:=tk) (i:=i) An An;omega))) (Aw (Ax Ay 3 [3,0] O (IP [_] O O O (.inr O) (ih x (d+below tk i) q _ (m+Ba (ts.drop (i+1))) (by have:=Cc hx;omega) (DQ h2.2.2.2.2.1 hx) (by have:=C0 tk i;omega) (by have:=C0 tk i;omega) (by rw[Cj hx,Ba] at hJ;rw[Nat.add_assoc,Nat.add_comm (Ba _)];exact hJ) hK) (aw (we O) (aw (we O) (aw (we O) (aw (we O) (aw (we O) (Eo)))))) ?_ (fun _ _ h=>h.elim))))));rintro _ _ ⟨rfl,T1,hT1,rfl⟩;refine Ar Ay 1 [] O (Av O (fun c4=>?_) (fun c4=>?_))
    ·(try simp only[sd,se] at c4);refine Au Ay 1 [] O (Az (⟨O,_,_,⟨_,_,O,O,O⟩,(Gy [1,2,3] [_,_,_,_] O),?_⟩));rw[H6 Ak,←hC,Iu hx c4];rw[c4] at hT1;exact⟨O,_,hT1,O⟩
    (try simp only[sd,se] at c4);rw[c4] at hT1;refine A1 (A2 (Ar Ay 2 [] O ?_));refine⟨⟨i+1,(Eh st x (d+below tk i) q).1,T1⟩,AT,⟨by omega,⟨by rw[←hC];exact(LO hx Ak).symm,by rw[Cj hx,Ba] at hJ;exact JI hI x _ _ _ (by rw[Nat.add_assoc,Nat.add_comm (Ba _)];exact hJ) Ak,by assumption⟩⟩,BU ⟨we rfl,we rfl,we rfl,we rfl,we rfl,we rfl,trivial⟩ (ZV [1,2,3] [_,_,_,_] (l':=[_,_,_]) rfl (wl (oe rfl) (wl (oe rfl) (wl (oe rfl) (C3)))))⟩
   (try simp only[sd,se] at c3);refine A1 (BH (C5 (t:=11) (x:= .p (I (d+below tk i))) (pI (by have:=Sx (k:=tk) (i:=i) An;omega))) (Aw (Ax Ay 3 [3,0] O (IP [_] O O O (.inr O) (ih x (d+below tk i) q _ (m+Ba (ts.drop (i+1))) (by have:=Cc hx;omega) (DQ h2.2.2.2.2.1 hx) (by have:=C0 tk i;omega) (by have:=C0 tk i;omega) (by rw[Cj hx,Ba] at hJ;rw[Nat.add_assoc,Nat.add_comm (Ba _)];exact hJ) hK) (aw (we O) (aw (we O) (aw (we O) (aw (we O) (aw (we O) (Eo)))))) ?_ (fun _ _ h=>h.elim)))));rintro _ _ ⟨rfl,T1,hT1,rfl⟩;refine Ar Ay 1 [] O (Av O (fun c4=>?_) (fun c4=>?_))
   ·(try simp only[sd,se] at c4);refine Au Ay 1 [] O (Az (⟨O,_,_,⟨_,_,O,O,O⟩,(Gy [1,2,3] [_,_,_,_] O),?_⟩));rw[H6 Ak,←hC,Iu hx c4];rw[c4] at hT1;exact⟨O,_,hT1,O⟩
   (try simp only[sd,se] at c4);rw[c4] at hT1;refine A1 (A2 (Ar Ay 2 [] O ?_));refine⟨⟨i+1,(Eh st x (d+below tk i) q).1,T1⟩,AT,⟨by omega,⟨by rw[←hC];exact(LO hx Ak).symm,by rw[Cj hx,Ba] at hJ;exact JI hI x _ _ _ (by rw[Nat.add_assoc,Nat.add_comm (Ba _)];exact hJ) Ak,by assumption⟩⟩,BU ⟨we rfl,we rfl,we rfl,we rfl,we rfl,we rfl,trivial⟩ (ZV [1,2,3] [_,_,_,_] (l':=[_,_,_]) rfl (wl (oe rfl) (wl (oe rfl) (wl (oe rfl) (C3)))))⟩
  (try simp only[sd,se] at c2);refine Bf (Au Ay 1 [] O (Az (⟨O,_,_,⟨_,_,O,O,O⟩,(Gy [0,1,2] [_,_,_] O),?_⟩)));rw[H6 Ak,←hC,show i=ts.length by omega,List.drop_length];exact⟨O,_,hK,O⟩
theorem lp:EZ Tryz.prog 113 [] (.agg Pn):=by
 refine A5 Tryz.func113 O p7 (n:=15) O O (Aw (BF O (A7 dL O) fun b0=>Bg O (Aw (Ax Ay 13 [] O (Aq O (EM kV kN dL O) (Ar Ay 1 [0,0] O (Az (⟨O,_,_,⟨_,_,O,(A9 (i:=0) nk O O O),O⟩,(List.nil_sublist _),?_⟩))))))))
 all_goals exact⟨rfl,rfl⟩
theorem cZ:∀(t:Tm),Bo Tryz.prog 82 [.agg ((BO t).map .p)] [] (fun r H'=>∃b,r= .val (.fn (.func 112) [] [.ptr b 0])∧H'=[.box b ((BO t).map .p)]):=by
 intro t;refine A5 Tryz.func82 O sR (n:=4) O O (Aw (BF O (BN O) fun b1=>Ar Ay 1 [] O (Au Ay 2 [] O (Az (⟨O,_,_,⟨_,_,O,O,O⟩,(B4 (is:=[0]) O),?_⟩)))));exact⟨_,O,O⟩
theorem eZ:∀{σ:Type}(st:σ→Int→Tm→σ×Bool) (Inv:Nat→σ→Prop) (HP:Bool→σ→List BI→Prop) (l b1:Nat) (hI:∀m s d t,Inv (m+1) s→Inv m (st s d t).1) (hy:∀m s d t T,Nd t→Inv (m+1) s→HP true s T→MD Tryz.prog l [.p (I d),TV t] T (Vm (.p (.bool (st s d t).2)) (HP (st s d t).2 (st s d t).1))) (t:Tm) (s:σ) (T0:List BI) (m:Nat),Nd t→size t<4611686018427387904→Inv (m+size t) s→HP true s T0→Bo Tryz.prog 112 [.fn (.yield l) [] [],.ptr b1 0] (.box b1 ((BO t).map .p)::T0) (Vm (.tup []) (fun H=>∃T,HP (Eh st t 0 s).2 (Eh st t 0 s).1 T∧H= .box b1 ((BO t).map .p)::T)):=by
 intro σ st Inv HP l b1 hI hy t s T0 m h1 h2 h3 h4;refine A5 Tryz.func112 O m0 (n:=10) O O (Aw (BF O (BN O) fun b2=>Bg O (Aw (Aq O (BC O O (lp ) O) (BF O (A7 dL O) fun b3=>Ar Ay 1 [0,0] O (Aw (BF O (A7 o9 O) fun b4=>Bg O (Au Ay 2 [0,0] O (A2 (Ax Ay 2 [0,3] O (ME ((List.reverse_perm [_,_,_,_]).symm.append_right _) (IP [_] O O O (.inr O) (gW st Inv HP l b2 b3 b4 hI hy _ t 0 s T0 m (Nat.le_refl _) h1 An An h3 h4) (aw (we O) (aw (we O) (aw (we O) (aw (we O) (aw (we O) (Eo)))))) ?_ (fun _ _ h=>h.elim)))))))))))));rintro _ _ ⟨rfl,T,hT,rfl⟩;refine Bg O ⟨O,_,_,O,(Gy [0] [_,_,_,_] O),?_⟩;exact⟨O,_,hT,O⟩
theorem ZC:∀(t:Tm),(Nd t)→(size t<1152921504606846976)→EZ Tryz.prog 45 [.agg ((BO t).map .p)] (.p (I (size t:Nat))):=by
 intro t h1 h2;refine FL Tryz.func45 O qt (n:=11) O O (Aw (BF O (BN O) fun b1=>Ar Ay 1 [] O (Aw (BF O (A7 jJ O) fun b3=>Ar Ay 1 [0,0] O (As (Aw (Aq O (BT (i:=1) BY O O Ag) ?_)))))));refine fB [] O O O (.inl ⟨O,O,O⟩) (cZ t) O Ao (aw (we O) Eo) ?_ (fun _ _ ⟨_,h,_⟩=>by cases h);rintro _ _ ⟨bn,h,rfl⟩;cases h;refine Bg O (A8 (RH (.inr O) fun dd l L hL=>⟨_,_,DT (is:=[2,0,3]) Am ⟨_,_,O,O,⟨_,_,O,O,⟨_,_,O,O,O⟩⟩⟩,?_⟩));have hy:∀(m:Nat) (s:Int) (d:Int) (t:Tm) (T:List BI),Nd t→(fun _ _=>True) (m+1) s→(fun(_:Bool) (s:Int) (T:List BI)=>T=[.loop l L,.box b3 [.p (I s)]]) true s T→MD Tryz.prog l [.p (I d),TV t] T (Vm (.p (.bool (W5 s d t).2)) ((fun(_:Bool) (s:Int) (T:List BI)=>T=[.loop l L,.box b3 [.p (I s)]]) (W5 s d t).2 (W5 s d t).1)):=by
  rintro m s d tt T hnd hinv rfl;subst hL;refine Tg (i:=0) O O O O (A1 ⟨O,0,O,?_⟩);refine A8 (A2 (Aq O (B5 (i:=1) DN O O O) (Aq O (EC O O) (Ar Ay 1 [1,0] O ⟨0,_,O,B4 (is:=[0,1]) O,?_⟩))));exact⟨O,O⟩
 refine(eZ W5 (fun _ _=>True) (fun(_:Bool) (s:Int) (T:List BI)=>T=[.loop l L,.box b3 [.p (I s)]]) l bn (fun _ _ _ _ _=>Ap) hy t 0 _ 0 (h1) An (Ap) O).mono ?_;rintro(v | v) H' hR
 rotate_left
 ·exact hR.elim
 obtain⟨rfl,_,rfl,rfl⟩:=hR;subst hL;refine⟨1,_,O,Ao,?_⟩;refine Au Ay 2 [1] O (Az (⟨2,O,_,_,⟨_,_,O,O,O⟩,(List.nil_sublist _),?_⟩))
 all_goals exact⟨pI (by rw[Vd 4611686018427387904 (Int.le_refl _) t 0 0 An An];simp),rfl⟩
theorem Wj:∀(n:Nat) (t:Tm),(size t≤n)→(Nd t)→EZ Tryz.prog 46 [.agg ((BO t).map .p)] (.p (I (Et t))):=by
 intro n
 induction n with
 | zero=>intro t h;cases t;simp[size] at h
 | succ n ih =>
  intro t h1 h2;obtain⟨tk,ti,tn,tl,ts⟩:=t;simp only[size] at h1;simp only[Nd,Dc] at h2;refine A5 Tryz.func46 O sY (n:=20) O O (Aw (BF O (BN O) fun b1=>Ar Ay 1 [] O (Au Ay 1 [] O (As (Aw (Ax Ay 2 [0] O (Aq O (BK Be O (BQ _)) (Ar Ay 1 [] O (A8 (Bb (α:=Nat×Int) (fun(i,m)=>⟨20,mk [(3,.p (I m)),(7,.p (.lst (BE ts))),(8,.p (I (ts.length:Nat))),(9,.p (I (i:Int)))],[],[]⟩) (fun(i,m)=>ts.length - i) (fun(i,m)=>i≤ts.length∧(Jm m (ts.drop i)=Jm 0 ts)) ⟨0,0⟩ Ao ?_ ?_))))))))))
  ·exact BU ⟨we O,we O,we O,we O,Ap⟩ (leH (is:=[]) O (C3))
  rintro⟨i,m⟩ hC
  try simp only at hC
  obtain⟨hi,hC⟩:=hC;refine Au Ay 1 [] O (As (Av O (fun c=>?_) (fun c=>?_)))
  ·(try simp only[sd,se] at c);refine A1 (As (A8 (Aw ?_)));obtain⟨x,hx⟩:=A6 (l:=ts) (i:=i) An;refine Aq O (A4 Be O O An (Bd hx) (BD _)) (Aq O (BM BY O (BD _)) (BF O (A7 Bw O) fun b5=>Ar Ay 1 [0,1] O (A2 (Ax Ay 2 [0] O (Aq O (BC O O (ih x (by have:=Cc hx;omega) (DQ h2.2.2.2.2.1 hx)) O) (Aq O (FI O O) (Ar Ay 1 [] O (A2 (Ar Ay 2 [] O ?_)))))))));refine⟨⟨i+1,max m (Et x)⟩,AT,⟨by omega,by rw[←hC,Cj hx];rfl⟩,BU ⟨we rfl,we rfl,we rfl,we rfl,trivial⟩ (leH (is:=[]) rfl (C3))⟩
  (try simp only[sd,se] at c);refine Bf (Aw (Bq O (Aq O (EC O O) (Ar Ay 1 [] O (Az (⟨O,_,_,⟨_,_,O,O,O⟩,(List.nil_sublist _),?_⟩))))))
  all_goals exact⟨pI (by rw[show Et (.mk tk ti tn tl ts)=wr (Jm 0 ts+1) from rfl,←hC,show i=ts.length by omega,List.drop_length];rfl),rfl⟩
theorem EL:∀(f:Tm) (xs:List Tm),(xs.length<Dc)→EZ Tryz.prog 73 [.agg ((BO f).map .p),.p (.lst (BE xs))] (.agg ((BO (apply f xs)).map .p)):=by
 intro f xs h1;simp only[Dc] at h1;refine A5 Tryz.func73 O r7 (n:=19) O O (Aw (BF O (BN O) fun b2=>BF O (A7 Bw O) fun b4=>Bg O (As (Aw (Bq O (Aq O (BK Be O (BQ _)) (Ar Ay 1 [] O (A8 (Bb (α:=Nat) (fun i=>⟨19,mk [(2,.ptr b2 0),(4,.ptr b4 0),(7,.p (.lst (BE xs))),(8,.p (I (xs.length:Nat))),(9,.p (I (i:Int)))],[.box b4 [.p (I 0),.p (I 0),.p (.str ⟨#[]⟩),.p (.nils),.p (.nils)],.box b2 ((BO (apply f (xs.take i))).map .p)],[]⟩) (fun i=>xs.length - i) (fun i=>i≤xs.length) 0 AP ?_ ?_)))))))))
 ·exact BU ⟨we O,we O,we O,we O,we O,Ap⟩ (leH (is:=[0,1]) O (wl (oe O) (wl (oe O) (C3))))
 rintro i hC
 try simp only at hC
 have hi:=hC;refine Au Ay 1 [] O (As (Av O (fun c=>?_) (fun c=>?_)))
 ·(try simp only[sd,se] at c);refine A1 (As (A8 (Aw ?_)));obtain⟨x,hx⟩:=A6 (l:=xs) (i:=i) An;refine Aq O (A4 Be O O An (Bd hx) (BD _)) (Aq O (BM BY O (BD _)) (BF O (A7 Bw O) fun b6=>Ar Ay 1 [0,1] O (A2 (Ax Ay 2 [2,0] O ?_))));generalize hz:(apply f (xs.take i))=z;obtain⟨zk,zi,zn,zl,zs⟩:=z;obtain⟨xk,xi,xn,xl,xs1⟩:=x;refine Aq O (Bl Be Bw O O O O O) (Ar Ay 2 [2,0] O (A2 (Ar Ay 2 [] O ?_)));refine⟨(i+1),AT,by omega,BU ⟨we rfl,we rfl,we rfl,we rfl,we rfl,trivial⟩ (leH (is:=[1,2]) rfl (wl (oe rfl) (wl (on (by rw[Q7 hx,hz];rfl)) (C3))))⟩
 (try simp only[sd,se] at c);refine Bf (Au Ay 2 [1,0,1] O (Az (⟨O,_,_,⟨_,_,O,(A9 (i:=0) BY O O Ag),O⟩,(List.nil_sublist _),?_⟩)))
 all_goals exact⟨by show (.agg ((BO (apply f (xs.take i))).map .p):AV)=_;rw[show i=xs.length by omega,List.take_length],rfl⟩
theorem _root_.Go.AM {α:Prop}(h:α:=by simp only[BQ,List.length_map,List.length_set];omega):α:=h
theorem _root_.Go.AX {α:Prop}(h:α:=by simp only[BQ];omega):α:=h
theorem _root_.Go.AY {α:Prop}(h:α:=by simp[BQ];omega):α:=h
theorem dS:∀(xs:List Tm) (o0:Option Nat) (c0:Nat),(xs.length<Dc)→Bo Tryz.prog 98 [.vs o0 (BE xs).length c0] [.vec o0 5 (BE xs) c0] (GU (.tup []) [.vec o0 5 (BE xs.reverse) c0]):=by
 intro xs o0 c0 h1;simp only[Dc] at h1;refine A5 Tryz.func98 O sK (n:=28) O O (Aw (Bq O (Aq O (KX Be O (BQ _)) (Ar Ay 3 [] O (A8 (Bb (α:=Nat×List Tm×Option Nat×Nat) (fun(i,ys,o,cp)=>⟨28,mk [(0,.vs o (BE ys).length cp),(2,.p (I (i:Int))),(3,.p (I ((xs.length:Int) - 1 - (i:Int))))],[.vec o 5 (BE ys) cp],[]⟩) (fun(i,ys,o,cp)=>xs.length - i) (fun(i,ys,o,cp)=>i≤xs.length∧WX xs ys i∧o=o0∧cp=c0) ⟨0,xs,o0,c0⟩ (⟨by omega,Xf xs,rfl,rfl⟩) ?_ ?_))))))
 ·exact BU ⟨we O,we O,we (pI An),Ap⟩ (leH (is:=[0]) O (wl (oe O) (C3)))
 rintro⟨i,ys,o,cp⟩ hC
 try simp only at hC
 obtain⟨hi,hR,ho,hcp⟩:=hC;have hyl:=hR.1;have hjn:((xs.length:Int) - 1 - (i:Int)).toNat=xs.length - 1 - i:=by omega
 refine As (Au Ay 3 [] O (Av O (fun c=>?_) (fun c=>?_)))
 ·(try simp only[sd,se] at c);refine A1 (As (A8 (Lp (i:=0) O AY fun b hb=>?_)));subst hb;refine Bt (fun k=>false) Dn (BP Ay 6 [] O (BG O (fun _=>Cv Be O O An AX) Ap ?_));obtain⟨y,hy⟩:=A6 (l:=ys) (i:=((xs.length:Int) - 1 - (i:Int):Int).toNat) An;refine CU (j:=0) O O O (fun H i hi=>Ef (i:=i) BY O hi (Bd hy)) AB Ap (BP Ay 2 [] O (BG O (fun _=>Cv Be O O An AX) Ap ?_));obtain⟨y1,hy1⟩:=A6 (l:=ys) (i:=i) An;refine CU (j:=0) O O O (fun H i hi=>Ef (i:=i) BY O hi (Bd hy1)) AB Ap (BG O (fun _=>Cv Be O O An AX) Ap (F9 O O (EJ (i:=0) (j:=i) BY O O O AM O (KV _) (BD _) (FP _) (Ss ys i y)) AB Ap (BG O (fun _=>Cv Be O O An AX) Ap (F9 O O (EJ (i:=0) (j:=(((xs.length:Int) - 1 - (i:Int):Int).toNat)) BY O O O AM O (KV _) (BD _) (FP _) (Ss ((ys).set i y) (((xs.length:Int) - 1 - (i:Int):Int).toNat) y1)) AB Ap (JJ O Aj (A2 (Ar Ay 6 [] O ?_)))))));refine⟨⟨i+1,(ys.set i y).set (xs.length - 1 - i) y1,(some b),cp⟩,AT,⟨by omega,XX hR An hy1 (hjn▸hy),ho,hcp⟩,BU ⟨we (DL ys Ao),we rfl,we (pI An),trivial⟩ (leH (is:=[0]) rfl (wl (KA (((ys).set i y).set (((xs.length:Int) - 1 - (i:Int):Int).toNat) y1) (by rw[hjn])) (C3)))⟩
 (try simp only[sd,se] at c);refine Bf ⟨O,_,_,O,(B4 (is:=[0]) O),?_⟩;refine⟨O,?_⟩;show ([.vec o 5 (BE ys) cp]:List BI)=_;rw[XM hR An,ho,hcp]
theorem ML:∀(t:Tm),(Nd t)→(size t<Dc)→EZ Tryz.prog 72 [.agg ((BO t).map .p)] (.tup [.agg ((BO ((BA t).1)).map .p),.p (.lst (BE ((BA t).2)))]):=by
 intro t h1 h2;simp only[Dc] at h2;refine A5 Tryz.func72 O qx (n:=29) O O (Aw (BF O (BN O) fun b1=>BF O (A7 Bw O) fun b2=>Ar Ay 1 [] O (Au Ay 1 [] O (As (A8 (BH (D4 (t:=4) (sz:=5) O) ?_))))));refine Bb (α:=Tm×List Tm×Option Nat×Nat) (fun(tt,ys,o,cp)=>⟨29,mk [(1,.ptr b1 0),(2,.ptr b2 0),(4,.vs o (BE ys).length cp)],[.vec o 5 (BE ys) cp,.box b2 [.p (I 0),.p (I 0),.p (.str ⟨#[]⟩),.p (.nils),.p (.nils)],.box b1 ((BO tt).map .p)],[]⟩) (fun(tt,ys,o,cp)=>size tt) (fun(tt,ys,o,cp)=>BA t=((BA tt).1,(BA tt).2++ys.reverse)∧Nd tt∧size tt+ys.length≤size t) ⟨t,[],none,0⟩ (⟨by simp,h1,by simp⟩) ?_ ?_
 ·exact BU ⟨we O,we O,we O,Ap⟩ (leH (is:=[0,1,2]) O (wl (oe O) (wl (oe O) (wl (oe O) (C3)))))
 rintro⟨tt,ys,o,cp⟩ hC
 try simp only at hC
 obtain⟨hS,hN,hL⟩:=hC;refine As (As ?_);obtain⟨ttk,tti,ttn,ttl,tts⟩:=tt;simp only[size] at hL;refine BS [1,2,4] 13 (fun y=>y= .p (.bool (((ttk:Int)==(4:Int))&&(((tts.length:Nat):Int)==(2:Int))))) ?_ ?_
 ·refine A2 (Ax Ay 4 [2] O (BL 8 O (fun g=>?_) (fun g=>?_)))
  ·(try simp only[sd,se] at g);exact Ax Ay 2 [2] O (BB O (BK Be O (BQ _)) (Ar Ay 2 [] O (⟨O,O,AK,AI,⟨O,O,O,Ap⟩⟩)))
  (try simp only[sd,se] at g);exact Ar Ay 5 [] O (⟨O,O,AK,AI,⟨O,O,O,Ap⟩⟩)
 rintro _ rfl;refine Av O (fun c=>?_) (fun c=>?_)
 ·(try simp only[sd,se] at c);refine A1 (A8 (Aw (Ax Ay 3 [2] O ?_)));obtain⟨x,hx⟩:=A6 (l:=tts) (i:=1) An;refine Aq O (A4 Be O O An (Bd hx) (BD _)) (Aq O (BM BY O (BD _)) ?_);obtain⟨xk,xi,xn,xl,xs⟩:=x;refine Aq O (Bl Be Bw O O O O O) (Er O O (CK (i:=0) (rows':=BE [(.mk xk xi xn xl xs:Tm)]) Be Be Bw O O O O O O (Bv _) AD (Jf ys [(.mk xk xi xn xl xs:Tm)])) fun o1 cp1=>Ar Ay 1 [] O (A2 (Ax Ay 2 [2] O ?_)));obtain⟨x1,hx1⟩:=A6 (l:=tts) (i:=0) An;refine Aq O (A4 Be O O An (Bd hx1) (BD _)) (Ar Ay 2 [2,1] O ?_);refine⟨⟨x1,ys++[.mk xk xi xn xl xs],o1,cp1⟩,(by have:=Cc hx1;simp only[size];omega),⟨by rw[hS,S1 c hx1 hx];simp,DQ hN.2.2.2.2.1 hx1,by have:=Cc hx1;simp;omega⟩,BU ⟨we rfl,we rfl,we rfl,trivial⟩ (leH (is:=[0,1,2]) rfl (wl (oe rfl) (wl (oe rfl) (wl (oe rfl) (C3)))))⟩
 (try simp only[sd,se] at c);refine Bf (Aw (Bq O (Aq O (B9 [0] O (.inl ⟨O,O,O⟩) (dS ys o cp AZ) ⟨_,_,O,O,O⟩ Am O (.inl O)) (Bg O (Au Ay 4 [2,1,0] O (BH (C5 (t:=4) (x:= .vs o (BE ys.reverse).length cp) (DL ys (l':=ys.reverse) Ao)) (BH (C5 (t:=25) (x:= .vs o (BE ys.reverse).length cp) (DL ys (l':=ys.reverse) Ao)) (BH (C5 (t:=28) (x:= .vs o (BE ys.reverse).length cp) (DL ys (l':=ys.reverse) Ao)) (BH (C5 (t:=3) (x:= .vs o (BE ys.reverse).length cp) (DL ys (l':=ys.reverse) Ao)) (BH (Ce (i:=0) [4,25,28,3] O (Dx ⟨O,O,O,O,Ap⟩)) (Az (⟨O,_,_,⟨_,_,O,(A9 (i:=0) BY O O O),⟨_,_,O,O,O⟩⟩,(List.nil_sublist _),?_⟩))))))))))));rw[hS,Qt (Classical.or_iff_not_imp_left.2 fun h=>by simp at h;exact fun e=>absurd (c h) (by simp[e]))]
 all_goals exact⟨rfl,rfl⟩
theorem Qh:∀(e:Int),Bo Tryz.prog 174 [.p (I e)] [] (Uo (.p (.iface 223 (I e))) []):=by
 intro e;exact A5 Tryz.func174 O oN (n:=4) O O (A2 (Bq O (Aq O (SY kQ (by intro ms h;cases h) O) (OZ O O (MY O) (⟨O,_,List.nil_sublist _,⟨O,O⟩⟩)))))
theorem TG:∀(e:Int),EZ Tryz.prog 154 [.p (.iface 223 (I e))] (.p (I e)):=by
 intro e;refine A5 Tryz.func154 O oM (n:=14) O O (Au Ay 1 [] O (Aw (Bq O (Aq O (Q6 kQ O O) (Ar Ay 5 [] O (As (Au Ay 2 [] O ?_)))))));refine Av O (fun c=>by cases c) (fun c=>?_);refine A1 (Au Ay 2 [] O (Az (⟨O,_,_,⟨_,_,O,O,O⟩,(List.nil_sublist _),?_⟩)))
 all_goals exact⟨rfl,rfl⟩
theorem ca:∀(k i:Int),EZ Tryz.prog 175 [.p (I k),.p (I i)] (.p (I (below k i))):=by
 intro k i;refine A5 Tryz.func175 O pN (n:=26) O O (Au Ay 1 [] O (As (A8 (As (As (BS [0,1] 5 (fun y=>y= .p (.bool (((i:Int)==(1:Int))&&((((k:Int)==(5:Int))||((k:Int)==(6:Int)))||((k:Int)==(7:Int)))))) ?_ ?_))))))
 ·refine A2 (Ax Ay 3 [] O (BL 8 O (fun g=>?_) (fun g=>?_)))
  ·(try simp only[sd,se] at g);refine Ax Ay 3 [] O (BL 11 O (fun g1=>?_) (fun g1=>?_))
   ·(try simp only[sd,se] at g1);exact Ar Ay 9 [] O (⟨O,O,AK,AI,⟨O,O,Ap⟩⟩)
   (try simp only[sd,se] at g1);refine Ax Ay 4 [] O (BL 15 O (fun g2=>?_) (fun g2=>?_))
   ·(try simp only[sd,se] at g2);exact Ar Ay 5 [] O (⟨O,O,AK,AI,⟨O,O,Ap⟩⟩)
   (try simp only[sd,se] at g2);exact Ar Ay 5 [] O (⟨O,O,AK,AI,⟨O,O,Ap⟩⟩)
  (try simp only[sd,se] at g);exact Ar Ay 12 [] O (⟨O,O,AK,AI,⟨O,O,Ap⟩⟩)
 rintro _ rfl;refine Av O (fun c=>?_) (fun c=>?_)
 ·(try simp only[sd,se] at c);refine A1 (Av O (fun c1=>?_) (fun c1=>?_))
  ·(try simp only[sd,se] at c1);refine Au Ay 1 [] O (Az (⟨O,_,_,⟨_,_,O,O,O⟩,(List.nil_sublist _),?_⟩))
   all_goals exact⟨pI (by unfold below;simp_all),rfl⟩
  (try simp only[sd,se] at c1);refine A1 (Au Ay 1 [] O (Az (⟨O,_,_,⟨_,_,O,O,O⟩,(List.nil_sublist _),?_⟩)))
  all_goals exact⟨pI (by unfold below;simp_all),rfl⟩
 (try simp only[sd,se] at c);refine BS [] 5 (fun y=>y= .p (.bool (((i:Int)==(2:Int))&&((k:Int)==(11:Int))))) ?_ ?_
 ·refine A2 (Ax Ay 3 [] O (BL 22 O (fun g=>?_) (fun g=>?_)))
  ·(try simp only[sd,se] at g);exact Ar Ay 4 [] O ⟨O,O,AK,AI,Ap⟩
  (try simp only[sd,se] at g);exact Ar Ay 4 [] O ⟨O,O,AK,AI,Ap⟩
 rintro _ rfl;refine Av O (fun c1=>?_) (fun c1=>?_)
 ·(try simp only[sd,se] at c1);refine Au Ay 1 [] O (Az (⟨O,_,_,⟨_,_,O,O,O⟩,(List.nil_sublist _),?_⟩))
  all_goals exact⟨pI (by unfold below;simp_all),rfl⟩
 (try simp only[sd,se] at c1);refine A1 (Au Ay 1 [] O (Az (⟨O,_,_,⟨_,_,O,O,O⟩,(List.nil_sublist _),?_⟩)))
 all_goals exact⟨pI (by unfold below;simp_all),rfl⟩
theorem WN:∀(i:Int),Bo Tryz.prog 163 [.p (I i)] [] (Km (fun(r:Tm)=>TV r) (fun e=> .p (.iface 223 (I e))) (fun r H'=>H'=[]) (Ie i)):=by
 intro i;refine A5 Tryz.func163 O oJ (n:=8) O O (Aw (BF O (A7 Bw O) fun b2=>Bg O (As (Au Ay 2 [] O (Av O (fun c=>?_) (fun c=>?_))))))
 ·(try simp only[sd,se] at c);refine A2 (Oz O O O (.inl ⟨O,O,O⟩) (Qh 24) (aw (we O) (Eo)) ?_);exact⟨O,_,List.nil_sublist _,⟨_,by unfold Ie;rw[if_pos An],rfl⟩⟩
 (try simp only[sd,se] at c);refine A1 (Au Ay 3 [0,0] O (BH (BR (i:=0) O) (Az (⟨O,_,_,⟨_,_,O,(A9 (i:=0) BY O O O),O⟩,(List.nil_sublist _),?_⟩))));exact⟨(.mk 0 i ⟨#[]⟩ [] []:Tm),by unfold Ie;rw[if_neg An];rfl,rfl,rfl⟩
theorem fN:∀(bc:Nat) (n m:Int),Bo Tryz.prog 157 [.ptr bc 0,.p (I m)] [.box bc [.p (I n)]] (Km (fun(r:Int)=> .tup []) (fun e=> .p (.iface 223 (I e))) (fun r H'=>H'=[.box bc [.p (I r)]]) (VB n m)):=by
 intro bc n m;refine A5 Tryz.func157 O pL (n:=18) O O (Aw (Ax Ay 5 [0] O (Aq O (EC O O) (Ar Ay 3 [0,0] O (Au Ay 5 [0] O (Av O (fun c=>?_) (fun c=>?_)))))))
 ·(try simp only[sd,se] at c);refine A2 (Oz O O O (.inl ⟨O,O,O⟩) (Qh 5) (aw (we O) (Eo)) ?_);exact⟨O,_,List.nil_sublist _,⟨_,by unfold VB;rw[if_pos An],rfl⟩⟩
 (try simp only[sd,se] at c);refine A1 ⟨O,_,_,O,(B4 (is:=[0]) O),?_⟩;exact⟨(wr (n+m)),by unfold VB;rw[if_neg An],rfl,rfl⟩
theorem _root_.Go.AJ {α:Prop}(h:α:=by simp only[List.length_map,List.length_take,List.length_cons,List.length_nil];omega):α:=h
theorem RC:∀(t:Tm),(Nd t)→EZ Tryz.prog 162 [.agg ((BO t).map .p)] (.agg ((BO (Pb t)).map .p)):=by
 intro t h1;obtain⟨tk,ti,tn,tl,ts⟩:=t;simp only[Nd,Dc] at h1;refine A5 Tryz.func162 O kJ (n:=33) O O (Aw (BF O (BN O) fun b1=>BF O (A7 Bw O) fun b2=>Bg O (Aw (Ax Ay 7 [1,1,1] O (BF O (A7 Bw O) fun b3=>Ar Ay 1 [0,0] O (As (Aw (B2 (Hr (i:=0) O (YA (aw (we O) (aw (we O) (aw (we O) (aw (I2) (aw (we O) (Eo)))))))) (B2 (Hq (sz:=2)) (Ax Ay 2 [3] O (Aq O (BK EX O (List.length_map _)) (Ar Ay 1 [] O (A8 ?_)))))))))))));refine Bb (α:=Nat×Option Nat×Nat) (fun(i,o,cp)=>⟨33,mk [(2,.ptr b2 0),(3,.ptr b3 0),(14,.p (.lst (List.map Bz tl))),(15,.p (I (tl.length:Nat))),(16,.p (I (i:Int)))],[.vec o 2 (List.map Bz (tl.take i)) cp,.box b3 [.p (I tk),.p (I ti),.p (.str tn),.vs o (List.map Bz (tl.take i)).length cp,.p (.nils)],.box b2 [.p (I 0),.p (I 0),.p (.str ⟨#[]⟩),.p (.nils),.p (.nils)]],[]⟩) (fun(i,o,cp)=>tl.length - i) (fun(i,o,cp)=>i≤tl.length) ⟨0,none,0⟩ AP ?_ ?_
 ·exact BU ⟨we O,we O,we O,we O,we O,Ap⟩ (leH (is:=[0,1,2]) O (wl (oe O) (wl (oe O) (wl (oe O) (C3)))))
 rintro⟨i,o,cp⟩ hC
 try simp only at hC
 have hi:=hC;refine Au Ay 1 [] O (As (Av O (fun c=>?_) (fun c=>?_)))
 ·(try simp only[sd,se] at c);refine A1 (As (A8 (Aw ?_)));obtain⟨x,hx⟩:=A6 (l:=tl) (i:=i) An;refine Aq O (A4 EX O O An (Fs hx) (Dg _)) (Aq O (BM DY O (Dg _)) (BF O (A7 EK O) fun b5=>Ar Ay 1 [0,0] O (Bt (fun k=>Nat.beq k 9) Dn (BP Ay 6 [2,0,0] O (BG O (fun _=>L3 (rows':=List.map Dy x.vars) CS CS Fp O O (fun _ _ _ h=>UQ h) O (GD _) (by have:=h1.2.2.1 x (List.mem_of_getElem? hx);have:=this.1;simp only[Dc] at this;simp only[List.length_map];omega)) Ap (BG O (fun _=>CP TO EK O) Ap (BG O (fun _=>Bl EX EK O O O O O) Ap (Kn [] O O (CK (i:=1) (rows':=List.map Bz [(CV.mk x.const x.vars)]) EX EX EK O O O O O O (MR _) AJ (F3 (f:=Bz) (tl.take i) [(CV.mk x.const x.vars)])) Aj fun o1 cp1=>⟨AB,Ap,?_⟩))))))));refine Bj Ay 2 [2,0] O (A2 (Ar Ay 2 [] O ?_));refine⟨⟨i+1,o1,cp1⟩,AT,by omega,BU ⟨we rfl,we rfl,we rfl,we rfl,we rfl,trivial⟩ (leH (is:=[1,2,3]) rfl (wl (FJ (f:=Bz) (tl.take i++[(CV.mk x.const x.vars)]) (by rw[List.take_add_one,hx];rfl)) (wl (YA (aw (we rfl) (aw (we rfl) (aw (we rfl) (aw (we (F5 (f:=Bz) (tl.take i++[(CV.mk x.const x.vars)]) (by rw[List.take_add_one,hx];rfl))) (aw (we rfl) (Eo))))))) (wl (oe rfl) (C3)))))⟩
 (try simp only[sd,se] at c);refine Bf (Aw (B2 (DM (i:=0) (j:=1) (q:=3) [] O O O (Dx Ap)) (Ar Ay 2 [0,1,0] O (BH (BR (i:=1) O) (Az (⟨O,_,_,⟨_,_,O,(A9 (i:=1) BY O O O),O⟩,(List.nil_sublist _),?_⟩))))))
 all_goals exact⟨by show (.agg [.p (I tk),.p (I ti),.p (.str tn),.p (.lst (List.map Bz (tl.take i))),.p (.lst [])]:AV)=_;rw[show i=tl.length by omega,List.take_length];rfl,rfl⟩
theorem Oq:∀{σ:Type}(vis:σ→Tm→Int→Except Int ((Tm×Bool)×σ)) (HP:σ→List BI→Prop) (fid:Nat) (caps:List AV) (hv:∀(s:σ) (t:Tm) (d:Int) (T:List BI),Nd t→Vp t→0≤d→d<Dc→HP s T→Bo Tryz.prog fid ([TV t,.p (I d)]++caps) T (Km (fun(r:(Tm×Bool)×σ)=> .tup [TV r.1.1,.p (.bool r.1.2)]) (fun e=> .p (.iface 223 (I e))) (fun r=>HP r.2) (vis s t d))) (n:Nat) (t:Tm) (d:Int) (s:σ) (T0:List BI),size t≤n→Nd t→Vp t→0≤d→d+size t<Dc→HP s T0→Bo Tryz.prog 158 [.agg [.fn (.func fid) [] caps],TV t,.p (I d)] T0 (Km (fun(r:Tm×σ)=>TV r.1) (fun e=> .p (.iface 223 (I e))) (fun r=>HP r.2) (D1 vis t d s)):=by
 intro σ vis HP fid caps hv n
 induction n with
 | zero=>intro t d s T0 h1;exact absurd h1 (by have:=size_pos t;omega)
 | succ n ih =>
  intro t d s T0 h1 h2 h3 h4 h5 h6;simp only[Dc] at h5;refine A5 Tryz.func158 O qG (n:=54) O O (Aw (BF O (BN O) fun b3=>BF O (BN O) fun b4=>BF O (A7 Bw O) fun b6=>Bg O (Aw (Ax Ay 4 [2,1] O (kA [_,_,_] O O O (.inr O) (hv s t d T0 h2 h3 h4 (by simp only[Dc];have:=size_pos t;omega) h6) (DF _) ?_ ?_)))))
  rotate_left
  ·intro e _ he;exact⟨O,_,List.nil_sublist _,⟨_,Hz he,O⟩⟩
  rintro⟨⟨z,dn⟩,q⟩ T hz hT;refine Ax Ay 3 [] O (BF O (A7 Bw O) fun b7=>Ar Ay 2 [0,1] O (As (Au Ay 1 [] O (Av O (fun c=>?_) (fun c=>?_)))))
  ·(try simp only[sd,se] at c);refine Au Ay 2 [0,1,1] O (Az (⟨O,_,_,⟨_,_,O,(A9 (i:=1) BY O O Ag),O⟩,(Gy [] [_,_,_,_] O),?_⟩));exact⟨⟨z,q⟩,GN (by rw[hz,c]),O,hT⟩
  (try simp only[sd,se] at c);refine A1 (Aw (Aq O (A0 HO O O) ?_));obtain⟨zk,zi,zn,zl,zs⟩:=z;refine Ar Ay 1 [0,0] O (As (Aw (Aq O (A0 HO O O) ?_)));obtain⟨tk,ti,tn,tl,ts⟩:=t;simp only[size] at h1 h5;have hn2:=h2;simp only[Nd,Dc] at hn2;refine Aq O (B5 (i:=2) Gj O O O) (Aq O (BK Be O (BQ _)) (Ar Ay 1 [] O (Av O (fun c1=>?_) (fun c1=>?_))))
  ·(try simp only[sd,se] at c1);refine Aw (Ax Ay 2 [2] O (Aq O (BK Be O (BQ _)) (R4 O O (Lj Be Bw O O Am O O O An An An (oZ (((ts.length:Nat):Int).toNat) (.mk 0 0 ⟨#[]⟩ [] []:Tm))) fun b29 cp=>Ar Ay 2 [1,0] O (Aw (Ax Ay 2 [3] O (Aq O (BK Be O (BQ _)) (Ar Ay 1 [] O (A8 ?_))))))));refine Bb (α:=Nat×List Tm×σ×List BI×Option Nat×Nat) (fun(i,ys,q1,U,o,cp1)=>⟨54,mk [(2,.p (I d)),(3,.ptr b3 0),(4,.ptr b4 0),(6,.ptr b6 0),(7,.ptr b7 0),(32,.p (.lst (BE ts))),(33,.p (I (ts.length:Nat))),(34,.p (I (i:Int)))],(.vec o 5 (BE (ys++List.replicate (ts.length - i) Bc)) cp1:: .box b7 [.p (I zk),.p (I zi),.p (.str zn),.p (.lst (List.map Bz zl)),.vs o (BE (ys++List.replicate (ts.length - i) Bc)).length cp1]:: .box b6 [.p (I 0),.p (I 0),.p (.str ⟨#[]⟩),.p (.nils),.p (.nils)]:: .box b4 [.p (I tk),.p (I ti),.p (.str tn),.p (.lst (List.map Bz tl)),.p (.lst (BE ts))]:: .box b3 [.fn (.func fid) [] caps]::U),[]⟩) (fun(i,ys,q1,U,o,cp1)=>ts.length - i) (fun(i,ys,q1,U,o,cp1)=>i≤ts.length∧(Rz vis tk ts d q i ys q1∧HP q1 U)) ⟨0,[],q,T,(some b29),cp⟩ (⟨by omega,Rz.zero _ _ _ _,hT⟩) ?_ ?_
   ·exact BU ⟨we O,we O,we O,we O,we O,we O,we O,we O,Ap⟩ (ZV [0,1,2,3,4] [_,_,_,_,_] (l':=[_,_,_,_,_]) O (wl (oe O) (wl (oe O) (wl (oe O) (wl (oe O) (wl (oe O) (C3)))))))
   rintro⟨i,ys,q1,U,o,cp1⟩ hC
   try simp only at hC
   obtain⟨hi,hB,hU⟩:=hC;have hbl:=C0 tk i;refine Au Ay 1 [] O (As (Av O (fun c2=>?_) (fun c2=>?_)))
   ·(try simp only[sd,se] at c2);refine A1 (As (A8 (Aw (Bq O ?_))));obtain⟨x,hx⟩:=A6 (l:=ts) (i:=i) An;refine Aq O (A4 Be O O An (Bd hx) (BD _)) (Aq O (BM BY O (BD _)) (BF O (A7 Bw O) fun b10=>Ar Ay 2 [0,1] O (Lp (i:=1) O AY fun b hb=>?_)));subst hb;refine Bt (fun k=>Nat.beq k 11) Dn (BP Ay 9 [2,5,0,4] O (BG O (fun _=>BC O O (ca tk (i:Int)) O) Ap (BP Ay 1 [] O (oC [_,_,_,_,_,_] O O O (.inl ⟨O,O,O⟩) (ih x (d+below tk i) q1 U (by have:=Cc hx;omega) (DQ h2.2.2.2.2.1 hx) (Ml h3.2 hx) (by have:=(C0 tk i).1;omega) (by have:=Cc hx;have:=C0 tk i;simp only[Dc];omega) hU) (DF _) Aj Aj O AB ?_ ?_))))
    rotate_left
    ·intro e he _ _ hτ;exact⟨O,_,List.nil_sublist _,⟨_,Js (by rw[hz,c]) (hB.err hx he),O⟩⟩
    rintro⟨y,q2⟩ T1 hz1 hT1;refine⟨AB,Ap,?_⟩;refine BG O (fun _=>Cv Be O O An (by simp only[BQ,List.length_append,List.length_replicate,hB.1];omega)) Ap (F9 O O (EJ (i:=1) (j:=i) BY O O O (by simp only[BQ,List.length_append,List.length_replicate,hB.1];omega) O (KV _) (BD _) (FP _) (Ss (ys++List.replicate (ts.length - i) Bc) i y)) AB Ap (JJ O Aj (A2 (Ar Ay 2 [] O ?_))));refine⟨⟨i+1,ys++[y],q2,T1,(some b),cp1⟩,AT,⟨by omega,⟨hB.succ hx hz1,hT1⟩⟩,BU ⟨we rfl,we rfl,we rfl,we rfl,we rfl,we rfl,we rfl,we rfl,trivial⟩ (ZV [1,2,3,4,5] [_,_,_,_,_,_] (l':=[_,_,_,_,_]) rfl (wl (KA ((ys++List.replicate (ts.length - i) Bc).set i y) (by rw[dN hB.1 An];congr 2)) (wl (YA (aw (we rfl) (aw (we rfl) (aw (we rfl) (aw (we rfl) (aw (we (DL (ys++List.replicate (ts.length - i) Bc) Ai)) (Eo))))))) (wl (oe rfl) (wl (oe rfl) (wl (oe rfl) (C3)))))))⟩
   (try simp only[sd,se] at c2);refine Bf (Aw (B2 (DM (i:=0) (j:=1) (q:=4) [] O O O (Dx Ap)) (Ar Ay 2 [0,1,0] O (Az (⟨O,_,_,⟨_,_,O,(A9 (i:=1) BY O O O),O⟩,(Gy [] [_,_,_,_] O),?_⟩)))));rw[show ts.length - i=0 by omega,List.replicate_zero,List.append_nil];exact⟨⟨.mk zk zi zn zl ys,q1⟩,IF (by rw[hz,c]) (hB.fin An),O,hU⟩
  (try simp only[sd,se] at c1);refine A1 (Au Ay 2 [0,1,0] O (BH (BR (i:=1) O) (Az (⟨O,_,_,⟨_,_,O,(A9 (i:=1) BY O O O),O⟩,(Gy [] [_,_,_,_] O),?_⟩))));exact⟨⟨.mk zk zi zn zl [],q⟩,IF (o:= .mk zk zi zn zl zs) (q:=q) (ys:=[]) (by rw[hz,c]) (by rw[show ts=[] by (cases ts with | nil=>rfl | cons a b=>simp at c1;omega)];rfl),O,hT⟩
theorem dW:∀(t:Tm),(Nd t)→Bo Tryz.prog 162 [.agg ((BO t).map .p)] [] (iU (fun p:Option Nat×Nat=> .agg [.p (I t.kind),.p (I t.index),.p (.str t.name),.vs p.1 (List.map Bz t.levels).length p.2,.p (.lst [])]) (fun p=>[.vec p.1 2 (List.map Bz t.levels) p.2])):=by
 intro t h1;obtain⟨tk,ti,tn,tl,ts⟩:=t;simp only[Nd,Dc] at h1;refine A5 Tryz.func162 O kJ (n:=33) O O (Aw (BF O (BN O) fun b1=>BF O (A7 Bw O) fun b2=>Bg O (Aw (Ax Ay 7 [1,1,1] O (BF O (A7 Bw O) fun b3=>Ar Ay 1 [0,0] O (As (Aw (B2 (Hr (i:=0) O (YA (aw (we O) (aw (we O) (aw (we O) (aw (I2) (aw (we O) (Eo)))))))) (B2 (Hq (sz:=2)) (Ax Ay 2 [3] O (Aq O (BK EX O (List.length_map _)) (Ar Ay 1 [] O (A8 ?_)))))))))))));refine Bb (α:=Nat×Option Nat×Nat) (fun(i,o,cp)=>⟨33,mk [(2,.ptr b2 0),(3,.ptr b3 0),(14,.p (.lst (List.map Bz tl))),(15,.p (I (tl.length:Nat))),(16,.p (I (i:Int)))],[.vec o 2 (List.map Bz (tl.take i)) cp,.box b3 [.p (I tk),.p (I ti),.p (.str tn),.vs o (List.map Bz (tl.take i)).length cp,.p (.nils)],.box b2 [.p (I 0),.p (I 0),.p (.str ⟨#[]⟩),.p (.nils),.p (.nils)]],[]⟩) (fun(i,o,cp)=>tl.length - i) (fun(i,o,cp)=>i≤tl.length) ⟨0,none,0⟩ AP ?_ ?_
 ·exact BU ⟨we O,we O,we O,we O,we O,Ap⟩ (leH (is:=[0,1,2]) O (wl (oe O) (wl (oe O) (wl (oe O) (C3)))))
 rintro⟨i,o,cp⟩ hC
 try simp only at hC
 have hi:=hC;refine Au Ay 1 [] O (As (Av O (fun c=>?_) (fun c=>?_)))
 ·(try simp only[sd,se] at c);refine A1 (As (A8 (Aw ?_)));obtain⟨x,hx⟩:=A6 (l:=tl) (i:=i) An;refine Aq O (A4 EX O O An (Fs hx) (Dg _)) (Aq O (BM DY O (Dg _)) (BF O (A7 EK O) fun b5=>Ar Ay 1 [0,0] O (Bt (fun k=>Nat.beq k 9) Dn (BP Ay 6 [2,0,0] O (BG O (fun _=>L3 (rows':=List.map Dy x.vars) CS CS Fp O O (fun _ _ _ h=>UQ h) O (GD _) (by have:=h1.2.2.1 x (List.mem_of_getElem? hx);have:=this.1;simp only[Dc] at this;simp only[List.length_map];omega)) Ap (BG O (fun _=>CP TO EK O) Ap (BG O (fun _=>Bl EX EK O O O O O) Ap (Kn [] O O (CK (i:=1) (rows':=List.map Bz [(CV.mk x.const x.vars)]) EX EX EK O O O O O O (MR _) AJ (F3 (f:=Bz) (tl.take i) [(CV.mk x.const x.vars)])) Aj fun o1 cp1=>⟨AB,Ap,?_⟩))))))));refine Bj Ay 2 [2,0] O (A2 (Ar Ay 2 [] O ?_));refine⟨⟨i+1,o1,cp1⟩,AT,by omega,BU ⟨we rfl,we rfl,we rfl,we rfl,we rfl,trivial⟩ (leH (is:=[1,2,3]) rfl (wl (FJ (f:=Bz) (tl.take i++[(CV.mk x.const x.vars)]) (by rw[List.take_add_one,hx];rfl)) (wl (YA (aw (we rfl) (aw (we rfl) (aw (we rfl) (aw (we (F5 (f:=Bz) (tl.take i++[(CV.mk x.const x.vars)]) (by rw[List.take_add_one,hx];rfl))) (aw (we rfl) (Eo))))))) (wl (oe rfl) (C3)))))⟩
 (try simp only[sd,se] at c);refine Bf (Au Ay 2 [1,2,0] O (BH (BR (i:=2) O) (Az (⟨O,_,_,⟨_,_,O,(A9 (i:=2) BY O O O),O⟩,(B4 (is:=[0]) O),?_⟩))));have htk:tl.take i=tl:=List.take_of_length_le An;exact⟨(o,cp),by rw[htk];simp[Tm.kind,Tm.index,Tm.name,Tm.levels,splice,dn],by rw[htk];rfl⟩
theorem cK:∀(tk ti:Int) (tn:ByteArray) (tl:List CV) (ts:List Tm),Nd (.mk tk ti tn tl ts)→Bo Tryz.prog 162 [TV (.mk tk ti tn tl ts)] [] (iU (fun p:Option Nat×Nat=> .agg [.p (I tk),.p (I ti),.p (.str tn),.vs p.1 (List.map Bz tl).length p.2,.p (.lst [])]) (fun p=>[.vec p.1 2 (List.map Bz tl) p.2])):=fun tk ti tn tl ts h=>dW _ h
theorem l6:∀(l:CV) (ps:List CV),(Mw l)→(ps.length<Dc)→(∀p∈ps,Mw p)→EZ Tryz.prog 165 [.agg ((Bz l).map .p),.ref [.lst (List.map Bz ps)]] (.tup [.agg ((Bz ((Ct l ps).1)).map .p),.p (I ((Ct l ps).2))]):=by
 intro l ps h1 h2 h3;refine A5 Tryz.func165 O oQ (n:=10) O O (Aw (BF O (BN O) fun b2=>BF O (A7 EK O) fun b3=>Ar Ay 1 [] O (Aw (Ax Ay 2 [1] O (Aq O (BC O O (aM l ps h1 h2 h3) O) (Ar Ay 4 [0,1] O (Az (⟨O,_,_,⟨_,_,O,(A9 (i:=0) DY O O Af),⟨_,_,O,O,O⟩⟩,(List.nil_sublist _),?_⟩))))))))
 all_goals exact⟨by show (.tup [.agg ((Bz ((Ib l ps).1)).map .p),.p (I ((Ib l ps).2))]:AV)=_;rw[Zw],rfl⟩
theorem lI:∀(bR:Nat) (ps:List CV) (s:Unit) (t:Tm) (d:Int),(Nd t)→(ps.length<Dc)→(∀p∈ps,Mw p)→Bo Tryz.prog 179 [.agg ((BO t).map .p),.p (I d),.ptr bR 0] [.box bR [.fn (.func 165) [] [.ref [.lst (List.map Bz ps)]]]] (Km (fun(r:(Tm×Bool)×Unit)=> .tup [TV r.1.1,.p (.bool r.1.2)]) (fun e=> .p (.iface 223 (I e))) (fun r H'=>H'=[.box bR [.fn (.func 165) [] [.ref [.lst (List.map Bz ps)]]]]) (UL ps s t d)):=by
 intro bR ps s t d h1 h2 h3;obtain⟨tk,ti,tn,tl,ts⟩:=t;have hn:=h1;simp only[Nd,Dc] at hn;refine A5 Tryz.func179 O nG (n:=39) O O (Aw (BF O (BN O) fun b3=>BF O (A7 Bw O) fun b5=>Ar Ay 1 [] O (Aw (Aq O (BT (i:=1) BY O O O) (Yh O O O (.inl ⟨O,O,O⟩) (cK tk ti tn tl ts h1) (DF _) fun vv=>?_)))));obtain⟨ov,cv⟩:=vv;refine BF O (A7 Bw O) fun b7=>Ar Ay 1 [0,0] O (As (Aw (Ax Ay 2 [3] O (Aq O (BK EX O (List.length_map _)) (Ar Ay 1 [] O (A8 ?_))))));refine Bb (α:=Nat×List CV×Option Nat×Nat) (fun(i,ys,o,cp)=>⟨39,mk [(2,.ptr bR 0),(5,.ptr b5 0),(7,.ptr b7 0),(15,.p (.lst (List.map Bz tl))),(16,.p (I (tl.length:Nat))),(17,.p (I (i:Int)))],[.box b7 [.p (I tk),.p (I ti),.p (.str tn),.vs o (List.map Bz (ys++tl.drop i)).length cp,.p (.lst (BE []))],.vec o 2 (List.map Bz (ys++tl.drop i)) cp,.box b5 [.p (I 0),.p (I 0),.p (.str ⟨#[]⟩),.p (.nils),.p (.nils)],.box bR [.fn (.func 165) [] [.ref [.lst (List.map Bz ps)]]]],[]⟩) (fun(i,ys,o,cp)=>tl.length - i) (fun(i,ys,o,cp)=>i≤tl.length∧(ys.length=i∧Im ps tl=OA ys (Im ps (tl.drop i)))) ⟨0,[],ov,cv⟩ (⟨by omega,rfl,Zo _⟩) ?_ ?_
 ·exact BU ⟨we O,we O,we O,we O,we O,we O,Ap⟩ (leH (is:=[0,1,2,4]) O (wl (oe O) (wl (oe O) (wl (oe O) (wl (oe O) (C3))))))
 rintro⟨i,ys,o,cp⟩ hC
 try simp only at hC
 obtain⟨hi,hl,hC⟩:=hC;refine Au Ay 1 [] O (As (Av O (fun c=>?_) (fun c=>?_)))
 ·(try simp only[sd,se] at c);refine A1 (As (A8 (Aw (Bq O ?_))));obtain⟨x,hx⟩:=A6 (l:=tl) (i:=i) An;refine Aq O (A4 EX O O An (Fs hx) (Dg _)) (Aq O (BM DY O (Dg _)) (BF O (A7 EK O) fun b9=>Ar Ay 2 [0,1] O (Aw (Ax Ay 2 [4,0] O (Aq O (jZ O O (l6 x ps (hn.2.2.1 _ (List.mem_of_getElem? hx)) h2 h3) (.inl O)) (Ax Ay 3 [] O (BF O (A7 EK O) fun b10=>Ar Ay 2 [0,1] O (As (Au Ay 2 [] O (Av O (fun c1=>?_) (fun c1=>?_)))))))))))
  ·(try simp only[sd,se] at c1);exact A2 (Bq O (Oz O O O (.inl ⟨O,O,O⟩) (Qh ((Ct x ps).2)) (aw (we O) (Eo)) (⟨O,_,List.nil_sublist _,⟨_,jI (hC.trans (lF hx An)),O⟩⟩)))
  (try simp only[sd,se] at c1);refine A1 (A2 (Ax Ay 4 [2,0] O (Mp (i:=3) O AY fun b hb=>?_)));subst hb;refine Aq O (Cv EX O O An (by first | omega | (simp;omega))) (Aq O (EJ (i:=3) (j:=i) DY O O O (by first | omega | (simp;omega)) O (ao _) (Dg _) (iB _) (eV (f:=Bz) (ys++tl.drop i) i ((Ct x ps).1))) (Bg O (A2 (Ar Ay 2 [] O (⟨⟨i+1,ys++[(Ct x ps).1],(some b),cp⟩,AT,⟨by omega,⟨by simp[hl],hC.trans (lf hx An)⟩⟩,BU ⟨we rfl,we rfl,we rfl,we rfl,we rfl,we rfl,trivial⟩ (leH (is:=[2,3,4,5]) rfl (wl (YA (aw (we rfl) (aw (we rfl) (aw (we rfl) (aw (we (Sl (f:=Bz) (ys++tl.drop i) Ai)) (aw (we rfl) (Eo))))))) (wl (FJ (f:=Bz) ((ys++tl.drop i).set i ((Ct x ps).1)) (by rw[set_drop hl hx])) (wl (oe rfl) (wl (oe rfl) (C3))))))⟩)))))
 (try simp only[sd,se] at c);refine Bf (Aw (B2 (DM (i:=1) (j:=0) (q:=3) [] O O O (Dx Ap)) (Ar Ay 3 [0,1,0] O (Az (⟨O,_,_,⟨_,_,O,(A9 (i:=1) BY O O O),⟨_,_,O,O,O⟩⟩,(B4 (is:=[2]) O),?_⟩)))));rw[List.drop_eq_nil_of_le An,List.append_nil];exact⟨⟨⟨.mk tk ti tn ys [],false⟩,()⟩,lg (ky hC An),O,O⟩
theorem jA:∀(bo be:Nat) (co ce:List AV),Eb Tryz.prog 178 [.ptr bo 0,.ptr be 0] (.ret) [.box bo co,.box be ce] (fun H'=>H'=[.box bo co,.box be ce]):=by
 intro bo be co ce;refine H9 (ty2:=0) Tryz.func178 O kH (n:=9) O O O O O O (Aw (Bq O (Aq O (HL ah O O O) (Bg O ?_))));refine Av O (fun c=>by cases c) (fun c=>?_);exact A1 ⟨.inl O,O,_,(B4 (is:=[0,1]) O),O⟩
theorem jr:∀(bo be:Nat) (e:Int),Eb Tryz.prog 178 [.ptr bo 0,.ptr be 0] (.pan (.p (.iface 223 (I e)))) [.box bo [.p (I 0),.p (I 0),.p (.str ⟨#[]⟩),.p (.nils),.p (.nils)],.box be [.p (I 0)]] (fun H'=>H'=[.box bo [.p (I 0),.p (I 0),.p (.str ⟨#[]⟩),.p (.lst []),.p (.lst [])],.box be [.p (I e)]]):=by
 intro bo be e;refine H9 (ty2:=0) Tryz.func178 O kH (n:=9) O O O O O O (Aw (Bq O (Aq O (HL ah O O O) (B2 (BR (i:=0) O) (Bg O ?_)))));refine Av O (fun c=>?_) (fun c=>by cases c);exact A2 (Ax Ay 2 [] O (Aq O (BC O O (TG _) O) (Ax Ay 2 [0,0,1,0] O (B2 (BR (i:=0) O) (Bg O ⟨.inl O,O,_,(B4 (is:=[0,1]) O),O⟩)))))
set_option maxHeartbeats 2000000 in
theorem Xs:∀(t:Tm) (ps:List CV),(Nd t)→(Vp t)→(size t<1099511627776)→(ps.length<Dc)→(∀p∈ps,Mw p)→EZ Tryz.prog 164 [.agg ((BO t).map .p),.fn (.func 165) [] [.ref [.lst (List.map Bz ps)]]] (.tup [.agg ((BO ((Bn t ps).1)).map .p),.p (I ((Bn t ps).2))]):=by
 intro t ps h1 h2 h3 h4 h5;refine FL Tryz.func164 O nI (n:=11) O O (Aw (BF O (BN O) fun b2=>BF O (BN O) fun b3=>BF O (A7 Bw O) fun b4=>BF O (A7 cP O) fun b5=>Bg O (Aw (Aq O (Ei O O) (Ny O O O O (Bg O (Aw (Ax Ay 3 [3] O ?_))))))));refine De [2] O O O (.inl ⟨O,O,O⟩) (Oq (UL ps) (fun _ T=>T=[.box b3 [.fn (.func 165) [] [.ref [.lst (List.map Bz ps)]]]]) 179 [.ptr b3 0] (fun s t d T hn hp h0 hb hT=>by subst hT;exact lI b3 ps s t d hn h4 h5) _ t 0 () _ (Nat.le_refl _) h1 h2 An AZ rfl) ⟨_,_,rfl,rfl,rfl⟩ Am (DF _) (fun _ _ h=>(congrArg List.length h).trans rfl) ?_ ?_
 rotate_left
 ·intro e _ he;refine⟨_,_,_,O,MS (is:=[1,0]) _ Am ⟨_,_,O,O,⟨_,_,O,O,O⟩⟩,Eb.eq (jr b4 b5 _) ?_⟩;refine⟨_,[],⟨_,_,O,(A9 (i:=0) BY O O O),⟨_,_,O,(Gr (i:=1) Sf O O),O⟩⟩,(List.nil_sublist _),?_⟩;rw[Wp ((PX t 0).symm.trans he)];exact⟨O,O⟩
 rintro⟨z,_⟩ _ hz rfl;refine Ar Ay 2 [1,1,0,0] O (Az (⟨_,_,_,O,DT (is:=[1,0]) Am ⟨_,_,O,O,⟨_,_,O,O,O⟩⟩,Eb.eq (jA b4 b5 _ _) ?_⟩));refine⟨_,_,⟨_,_,O,(A9 (i:=0) BY O O Ag),⟨_,_,O,(Gr (i:=1) Sf O O),O⟩⟩,(List.nil_sublist _),?_⟩;rw[YB ((PX t 0).symm.trans hz)]
 all_goals exact⟨rfl,rfl⟩
theorem MW:∀(t:Tm) (ps:List CV),(Nd t)→(Vp t)→(size t<1099511627776)→(ps.length<Dc)→(∀p∈ps,Mw p)→EZ Tryz.prog 138 [.agg ((BO t).map .p),.p (.lst (List.map Bz ps))] (.tup [.agg ((BO ((Bn t ps).1)).map .p),.p (I ((Bn t ps).2))]):=by
 intro t ps h1 h2 h3 h4 h5;refine A5 Tryz.func138 O p8 (n:=11) O O (Aw (BF O (BN O) fun b2=>BF O (BN O) fun b3=>BF O (A7 Bw O) fun b4=>Ar Ay 1 [] O (Aw (B2 (Pf (i:=1) (cs:=[.lst (List.map Bz ps)]) [3] O (Dx ⟨O,Ap⟩)) (Ax Ay 2 [1] O (Aq O (BC O O (Xs t ps h1 h2 h3 h4 h5) O) (Ar Ay 4 [0,1] O (Az (⟨O,_,_,⟨_,_,O,(A9 (i:=0) BY O O Ag),⟨_,_,O,O,O⟩⟩,(List.nil_sublist _),?_⟩)))))))))
 all_goals exact⟨rfl,rfl⟩
theorem WD:∀(t:Tm),(Nd t)→(size t<1000000)→EZ Tryz.prog 115 [.agg ((BO t).map .p)] (.tup [.p (.lst (BE ((G8 t).1))),.agg ((BO ((G8 t).2)).map .p)]):=by
 intro t h1 h2;refine A5 Tryz.func115 O kD (n:=27) O O (Aw (BF O (BN O) fun b1=>TE O (BF O (A7 Bw O) fun b3=>Bg O (Au Ay 1 [] O (As (A8 (BH (D4 (t:=4) (sz:=5) O) ?_)))))));refine Bb (α:=Tm×List Tm×Option Nat×Nat) (fun(y,l,o,cp)=>⟨27,mk [(1,.ptr b1 0),(3,.ptr b3 0),(4,.vs o (BE l).length cp)],[.vec o 5 (BE l) cp,.box b3 [.p (I 0),.p (I 0),.p (.str ⟨#[]⟩),.p (.nils),.p (.nils)],.box b1 ((BO y).map .p)],[]⟩) (fun(y,l,o,cp)=>size y) (fun(y,l,o,cp)=>Nd y∧l.length+size y≤size t∧(l++(G8 y).1,(G8 y).2)=G8 t) ⟨t,[],none,0⟩ (⟨h1,by simp,by simp⟩) ?_ ?_
 ·exact BU ⟨we O,we O,we O,Ap⟩ (leH (is:=[0,1,2]) O (wl (oe O) (wl (oe O) (wl (oe O) (C3)))))
 rintro⟨y,l,o,cp⟩ hC
 try simp only at hC
 have hl0:l.length<1000000:=by have:=hC.2.1;omega
 refine As (As ?_);obtain⟨yk,yi,yn,yl,ys⟩:=y;refine BS [1,3,4] 13 (fun y=>y= .p (.bool (((yk:Int)==(6:Int))&&(((ys.length:Nat):Int)==(2:Int))))) ?_ ?_
 ·refine A2 (Ax Ay 4 [2] O (BL 8 O (fun g=>?_) (fun g=>?_)))
  ·(try simp only[sd,se] at g);exact Ax Ay 2 [2] O (BB O (BK Be O (BQ _)) (Ar Ay 2 [] O (⟨O,O,AK,AI,⟨O,O,O,Ap⟩⟩)))
  (try simp only[sd,se] at g);exact Ar Ay 5 [] O (⟨O,O,AK,AI,⟨O,O,O,Ap⟩⟩)
 rintro _ rfl;refine Av O (fun c=>?_) (fun c=>?_)
 ·(try simp only[sd,se] at c);refine A1 (A8 (Aw (Ax Ay 3 [2] O ?_)));obtain⟨x,hx⟩:=A6 (l:=ys) (i:=0) (by first | omega | (simp at c;omega));refine Aq O (A4 Be O O An (Bd hx) (BD _)) (Aq O (BM BY O (BD _)) ?_);obtain⟨xk,xi,xn,xl,xs⟩:=x;refine Aq O (Bl Be Bw O O O O O) (Er O O (CK (i:=0) (rows':=BE [(.mk xk xi xn xl xs:Tm)]) Be Be Bw O O O O O O (Bv _) AD (Jf l [(.mk xk xi xn xl xs:Tm)])) fun o1 cp1=>Ar Ay 1 [] O (A2 (Ax Ay 2 [2] O ?_)));obtain⟨x1,hx1⟩:=A6 (l:=ys) (i:=1) (by first | omega | (simp at c;omega));refine Aq O (A4 Be O O An (Bd hx1) (BD _)) (Ar Ay 2 [2,1] O ?_);refine⟨⟨x1,l++[(.mk xk xi xn xl xs:Tm)],o1,cp1⟩,(by have:=Cc hx1;simp only[size];omega),⟨DQ hC.1.2.2.2.2.1 hx1,by have:=Cc hx1;have:=hC.2.1;simp only[size] at *;simp only[List.length_append,List.length_cons,List.length_nil];omega,Sr c hx hx1 hC.2.2⟩,BU ⟨we rfl,we rfl,we rfl,trivial⟩ (leH (is:=[0,1,2]) rfl (wl (oe rfl) (wl (oe rfl) (wl (oe rfl) (C3)))))⟩
 (try simp only[sd,se] at c);refine Bf (As (Bt (fun k=>false) Dn (Bj Ay 4 [2,1,0] O (BH (Ce (i:=0) [4,25,2] O (Dx ⟨O,O,O,Ap⟩)) (Az (⟨O,_,_,⟨_,_,O,O,⟨_,_,O,(A9 (i:=0) BY O O O),O⟩⟩,(List.nil_sublist _),?_⟩))))))
 all_goals exact⟨by show (.tup [.p (.lst (BE l)),.agg [.p (I yk),.p (I yi),.p (.str yn),.p (.lst (List.map Bz yl)),.p (.lst (BE ys))]]:AV)=_;rw[WO An hC.2.2];rfl,rfl⟩
theorem ZI:∀(t:Tm),(Nd t)→(size t<1000000)→EZ Tryz.prog 117 [.agg ((BO t).map .p)] (.tup [.p (.lst (BE ((G8 t).1))),.agg ((BO ((G8 t).2)).map .p)]):=by
 intro t h1 h2;refine A5 Tryz.func117 O ou (n:=27) O O (Aw (BF O (BN O) fun b1=>TE O (BF O (A7 Bw O) fun b3=>Bg O (Au Ay 1 [] O (As (A8 (BH (D4 (t:=4) (sz:=5) O) ?_)))))));refine Bb (α:=Tm×List Tm×Option Nat×Nat) (fun(y,l,o,cp)=>⟨27,mk [(1,.ptr b1 0),(3,.ptr b3 0),(4,.vs o (BE l).length cp)],[.vec o 5 (BE l) cp,.box b3 [.p (I 0),.p (I 0),.p (.str ⟨#[]⟩),.p (.nils),.p (.nils)],.box b1 ((BO y).map .p)],[]⟩) (fun(y,l,o,cp)=>size y) (fun(y,l,o,cp)=>Nd y∧l.length+size y≤size t∧(l++(G8 y).1,(G8 y).2)=G8 t) ⟨t,[],none,0⟩ (⟨h1,by simp,by simp⟩) ?_ ?_
 ·exact BU ⟨we O,we O,we O,Ap⟩ (leH (is:=[0,1,2]) O (wl (oe O) (wl (oe O) (wl (oe O) (C3)))))
 rintro⟨y,l,o,cp⟩ hC
 try simp only at hC
 have hl0:l.length<1000000:=by have:=hC.2.1;omega
 refine As (As ?_);obtain⟨yk,yi,yn,yl,ys⟩:=y;refine BS [1,3,4] 13 (fun y=>y= .p (.bool (((yk:Int)==(6:Int))&&(((ys.length:Nat):Int)==(2:Int))))) ?_ ?_
 ·refine A2 (Ax Ay 4 [2] O (BL 8 O (fun g=>?_) (fun g=>?_)))
  ·(try simp only[sd,se] at g);exact Ax Ay 2 [2] O (BB O (BK Be O (BQ _)) (Ar Ay 2 [] O (⟨O,O,AK,AI,⟨O,O,O,Ap⟩⟩)))
  (try simp only[sd,se] at g);exact Ar Ay 5 [] O (⟨O,O,AK,AI,⟨O,O,O,Ap⟩⟩)
 rintro _ rfl;refine Av O (fun c=>?_) (fun c=>?_)
 ·(try simp only[sd,se] at c);refine A1 (A8 (Aw (Ax Ay 3 [2] O ?_)));obtain⟨x,hx⟩:=A6 (l:=ys) (i:=0) (by first | omega | (simp at c;omega));refine Aq O (A4 Be O O An (Bd hx) (BD _)) (Aq O (BM BY O (BD _)) ?_);obtain⟨xk,xi,xn,xl,xs⟩:=x;refine Aq O (Bl Be Bw O O O O O) (Er O O (CK (i:=0) (rows':=BE [(.mk xk xi xn xl xs:Tm)]) Be Be Bw O O O O O O (Bv _) AD (Jf l [(.mk xk xi xn xl xs:Tm)])) fun o1 cp1=>Ar Ay 1 [] O (A2 (Ax Ay 2 [2] O ?_)));obtain⟨x1,hx1⟩:=A6 (l:=ys) (i:=1) (by first | omega | (simp at c;omega));refine Aq O (A4 Be O O An (Bd hx1) (BD _)) (Ar Ay 2 [2,1] O ?_);refine⟨⟨x1,l++[(.mk xk xi xn xl xs:Tm)],o1,cp1⟩,(by have:=Cc hx1;simp only[size];omega),⟨DQ hC.1.2.2.2.2.1 hx1,by have:=Cc hx1;have:=hC.2.1;simp only[size] at *;simp only[List.length_append,List.length_cons,List.length_nil];omega,Sr c hx hx1 hC.2.2⟩,BU ⟨we rfl,we rfl,we rfl,trivial⟩ (leH (is:=[0,1,2]) rfl (wl (oe rfl) (wl (oe rfl) (wl (oe rfl) (C3)))))⟩
 (try simp only[sd,se] at c);refine Bf (As (Bt (fun k=>false) Dn (Bj Ay 4 [2,1,0] O (BH (Ce (i:=0) [4,25,2] O (Dx ⟨O,O,O,Ap⟩)) (Az (⟨O,_,_,⟨_,_,O,O,⟨_,_,O,(A9 (i:=0) BY O O O),O⟩⟩,(List.nil_sublist _),?_⟩))))))
 all_goals exact⟨by show (.tup [.p (.lst (BE l)),.agg [.p (I yk),.p (I yi),.p (.str yn),.p (.lst (List.map Bz yl)),.p (.lst (BE ys))]]:AV)=_;rw[WO An hC.2.2];rfl,rfl⟩
theorem Zf:∀(d:CH) (k:Int),(Ns d)→(0≤d.fixed∧d.fixed≤1000000)→(0≤k)→(k<d.ctors.length)→EZ Tryz.prog 85 [.agg ((Bh d).map .p),.p (I k)] (.p (I (FH d k))):=by
 intro d k h1 h2 h3 h4;have hcl:=h1.cl;refine A5 Tryz.func85 O oc (n:=23) O O (Aw (BF O (BN O) fun b2=>Ar Ay 1 [] O (Aw (Aq O (A0 Cz O O) (Aq O (A3 (i:=0) Hg O O (B8 _)) (Bq O ?_))))));obtain⟨x,hx⟩:=A6 (l:=d.ctors) (i:=(k:Int).toNat) An;have hct:=h1.cs _ (List.mem_of_getElem? hx);have htl:=IT x.type;have hsz:=hct.ty.sz;refine Aq O (A4 HN O O An (ES hx) (D5 _)) (Aq O (By Ik O O) (Aq O (DC BY O (E4 _) (BD _)) (Aq O (BC O O (WD x.type hct.ty.nd hct.ty.sz) O) (Ax Ay 3 [] O (BF O (A7 Bw O) fun b6=>Ar Ay 2 [0,1] O (Aw (Bq O (Aq O (BK Be O (BQ _)) (Aq O (A0 Cz O O) (Aq O (A3 (i:=1) DN O O (Cn _)) (Aq O (Kw O O An An) (Aq O (FI O O) (Ar Ay 1 [] O (Az (⟨O,_,_,⟨_,_,O,O,O⟩,(List.nil_sublist _),?_⟩)))))))))))))))
 all_goals exact⟨pI (by unfold FH X2 En;rw[CW hx]),rfl⟩
theorem Wh:∀(d:CH),(Ns d)→(0≤d.fixed∧d.fixed≤1000000)→EZ Tryz.prog 83 [.agg ((Bh d).map .p)] (.p (I (Lq d))):=by
 intro d h1 h2;have htl:=IT d.type;have hsz:=h1.ty.sz;refine A5 Tryz.func83 O qy (n:=17) O O (Aw (BF O (BN O) fun b1=>Ar Ay 1 [] O (Aw (Aq O (A0 Cz O O) (Aq O (Bu (i:=0) BY O O (E2 _) (BD _)) (Aq O (BC O O (WD d.type h1.ty.nd h1.ty.sz) O) (Ax Ay 3 [] O (BF O (A7 Bw O) fun b4=>Ar Ay 2 [0,1] O (Aw (Bq O (Aq O (BK Be O (BQ _)) (Aq O (A0 Cz O O) (Aq O (A3 (i:=1) DN O O (Cn _)) (Aq O (Kw O O An An) (Aq O (FI O O) (Ar Ay 1 [] O (Az (⟨O,_,_,⟨_,_,O,O,O⟩,(List.nil_sublist _),?_⟩))))))))))))))))))
 all_goals exact⟨pI rfl,rfl⟩
theorem Q2:∀(d:CH),(Ns d)→(0≤d.fixed∧d.fixed≤1000000)→EZ Tryz.prog 48 [.agg ((Bh d).map .p)] (.p (I (CT d))):=by
 intro d h1 h2;have hir:=GK h1 h2;have hcl:=h1.cl;refine A5 Tryz.func48 O ri (n:=13) O O (Aw (BF O (BN O) fun b1=>Ar Ay 1 [] O (As (Bt (fun k=>false) Dn (BG O (fun _=>A0 Cz O O) Ap (CU (j:=0) O O O (fun H i hi=>A3 (i:=i) DN O hi (Cn _)) AB Ap (BP Ay 2 [] O (CU (j:=0) O O O (fun H i hi=>A3 (i:=i) Hg O hi (B8 _)) AB Ap (BG O (fun _=>BK HN O (List.length_map _)) Ap (BP Ay 2 [0] O (BG O (fun _=>BC O O (Wh d h1 h2) O) Ap (Bj Ay 2 [] O (Az (⟨O,_,_,⟨_,_,O,O,O⟩,(List.nil_sublist _),?_⟩))))))))))))))
 all_goals exact⟨pI rfl,rfl⟩
theorem Ox:∀(d:CH),(Ns d)→(0≤d.fixed∧d.fixed≤1000000)→EZ Tryz.prog 90 [.agg ((Bh d).map .p)] (.p (I (CT d))):=by
 intro d h1 h2;have hir:=GK h1 h2;have hcl:=h1.cl;have htl:=IT d.type;have hsz:=h1.ty.sz;refine A5 Tryz.func90 O r6 (n:=25) O O (Aw (BF O (BN O) fun b1=>Ar Ay 1 [] O (Aw (Aq O (A0 Cz O O) (Aq O (Bu (i:=0) BY O O (E2 _) (BD _)) (Aq O (BC O O (ZI d.type h1.ty.nd h1.ty.sz) O) (Ax Ay 3 [] O (BF O (A7 Bw O) fun b4=>Ar Ay 2 [0,1] O (Aw (Aq O (A0 Cz O O) (Aq O (A3 (i:=1) DN O O (Cn _)) (Ax Ay 2 [] O (Aq O (A3 (i:=1) Hg O O (B8 _)) (Aq O (BK HN O (List.length_map _)) (Ax Ay 2 [] O (Aq O (BK Be O (BQ _)) (Aq O (A0 Cz O O) (Aq O (A3 (i:=1) DN O O (Cn _)) (Aq O (Kw O O An An) (Aq O (FI O O) (Ar Ay 2 [] O (Az ?_))))))))))))))))))))));refine⟨O,_,_,⟨_,_,O,O,O⟩,(List.nil_sublist _),?_⟩
 all_goals exact⟨pI rfl,rfl⟩
theorem OF:∀(l:List Tm),(l.length<Dc)→EZ Tryz.prog 63 [.p (.lst (BE l))] (.p (.lst (BE l.reverse))):=by
 intro l h1;simp only[Dc] at h1;refine A5 Tryz.func63 O qz (n:=20) O O (Au Ay 1 [] O (Au Ay 1 [] O (As (Aw (Bq O (Aq O (BK Be O (BQ _)) (Ar Ay 2 [] O (A8 (BH (D4 (t:=3) (sz:=5) O) (Bb (α:=Nat×Option Nat×Nat) (fun(m,o,cp)=>⟨20,mk [(0,.p (.lst (BE l))),(3,.vs o (BE ((l.drop m).reverse)).length cp),(4,.p (I ((m:Int) - 1)))],[.vec o 5 (BE ((l.drop m).reverse)) cp],[]⟩) (fun(m,o,cp)=>m) (fun(m,o,cp)=>m≤l.length) ⟨l.length,none,0⟩ AP ?_ ?_))))))))))
 ·exact BU ⟨we O,we (MF [] Ao),we (pI An),Ap⟩ (leH (is:=[0]) O (wl (KA [] Ao) (C3)))
 rintro⟨m,o,cp⟩ hC
 try simp only at hC
 refine As (Au Ay 2 [] O (Av O (fun c=>?_) (fun c=>?_)))
 ·(try simp only[sd,se] at c);refine A1 (As (A8 (A2 (Ax Ay 3 [] O ?_))));obtain⟨x,hx⟩:=A6 (l:=l) (i:=((m:Int) - 1:Int).toNat) An;refine Aq O (A4 Be O O An (Bd hx) (BD _)) (Aq O (BM BY O (BD _)) ?_);obtain⟨xk,xi,xn,xl,xs⟩:=x;refine Aq O (Bl Be Bw O O O O O) (Er O O (CK (i:=0) (rows':=BE [(.mk xk xi xn xl xs:Tm)]) Be Be Bw O O O O O O (Bv _) (by simp only[BQ,List.length_reverse,List.length_drop,List.length_cons,List.length_nil];omega) (Jf ((l.drop m).reverse) [(.mk xk xi xn xl xs:Tm)])) fun o1 cp1=>Ar Ay 1 [] O (A2 (Ar Ay 3 [] O ?_)));refine⟨⟨m - 1,o1,cp1⟩,AT,by first | trivial | omega | (simp only;omega) | (simp;omega),BU ⟨we rfl,we (MF ((l.drop m).reverse++[(.mk xk xi xn xl xs:Tm)]) (Vo (by simpa using hx) An)),we (pI An),trivial⟩ (leH (is:=[0]) rfl (wl (KA ((l.drop m).reverse++[(.mk xk xi xn xl xs:Tm)]) (Vo (by simpa using hx) An)) (C3)))⟩
 (try simp only[sd,se] at c);refine Bf (Au Ay 2 [] O (BH (Ce (i:=0) [3,19,2] O (Dx ⟨O,O,O,Ap⟩)) (Az (⟨O,_,_,⟨_,_,O,O,O⟩,(List.nil_sublist _),?_⟩))))
 all_goals exact⟨by show (.p (.lst (BE ((l.drop m).reverse))):AV)=_;rw[show m=0 by omega,List.drop_zero],rfl⟩
theorem YR:∀(ds:List CH) (h:Tm),(G1 ds)→EZ Tryz.prog 47 [.p (.lst (List.map Bh ds)),.agg ((BO h).map .p)] (.tup [.agg ((DX ((Bp ds h.name).1)).map .p),.p (.bool (Tj ds h))]):=by
 intro ds h h1;obtain⟨hk,hi,hn,hl,hs⟩:=h;refine A5 Tryz.func47 O qe (n:=26) O O (Aw (BF O (BN O) fun b3=>BF O (A7 Hw O) fun b4=>Ar Ay 1 [] O (Aw (Ax Ay 3 [1] O (Aq O (BC O O (MH ds hn h1) O) (Ax Ay 3 [] O (BF O (A7 Hw O) fun b6=>Ar Ay 2 [0,1] O (As (Bt (fun k=>false) Dn (BP Ay 4 [0] O (Du 18 O (fun g=>?_) (fun g=>?_))))))))))))
 ·(try simp only[sd,se] at g);refine BP Ay 2 [2] O (CZ O (fun _=>BK EX O (List.length_map _)) Ap (CZ O (fun _=>A0 GH O O) Ap (Lz (i:=0) O O O O O (fun H i hi=>A3 (i:=i) DN O hi (HV _)) AB Ap (Bj Ay 4 [1,1] O (Az (⟨O,_,_,⟨_,_,O,(A9 (i:=1) Ld O O Ae),⟨_,_,O,O,O⟩⟩,(List.nil_sublist _),?_⟩))))))
  all_goals exact⟨by show (.tup [.agg ((DX ((Bp ds hn).1)).map .p),.p (.bool (((hl.length:Nat):Int)==(((Bp ds hn).1).params:Int)))]:AV)=_;rw[fX (k:=hk) (i:=hi) (ks:=hs) (by first | exact g | omega)];rfl,rfl⟩
 (try simp only[sd,se] at g);refine Bj Ay 9 [1,1] O (Az (⟨O,_,_,⟨_,_,O,(A9 (i:=1) Ld O O Ae),⟨_,_,O,O,O⟩⟩,(List.nil_sublist _),?_⟩))
 all_goals exact⟨by show (.tup [.agg ((DX ((Bp ds hn).1)).map .p),.p (.bool false)]:AV)=_;rw[kM (k:=hk) (i:=hi) (ls:=hl) (ks:=hs) (by first | exact g | omega)];rfl,rfl⟩
end Go.Proofs.YtboammbpdaoojaaGreat
namespace Go.Eu
open Go.Abs
def Out.ex {α:Type}:Out α→Except Int α
 | .ok a=> .ok a
 | .stuck=> .error 0
 | .fail=> .error 0
section
variable {α β σ:Type}
theorem HJ {o:Out α}{a:α}(h:o.ex= .ok a):o= .ok a:=by
 cases o<;>simp[Out.ex] at h;rw[h]
theorem DA {o:Out α}{a:α}(h:o= .ok a):o.ex= .ok a:=by rw[h];rfl
theorem kn {o:Out α}{e:Int}(hs:o≠ .stuck) (h:o.ex= .error e):o= .fail∧e=0:=by
 cases o with
 | stuck=>exact absurd rfl hs
 | fail=>simp[Out.ex] at h;exact⟨rfl,h.symm⟩
 | ok a=>simp[Out.ex] at h
theorem ic {o:Out α}(h:o= .fail):o.ex= .error 0:=by rw[h];rfl
theorem Iy {o:Out α}{k:α→Out β}{b:β}(h:o.bind k= .ok b):∃a,o= .ok a∧k a= .ok b:=by
 cases o with
 | stuck=>simp[Out.bind] at h
 | fail=>simp[Out.bind] at h
 | ok a=>exact⟨a,rfl,h⟩
theorem Iw {o:Out α}{k:α→Out β}(h:o.bind k≠ .stuck):o≠ .stuck:=fun e=>h (by rw[e];rfl)
theorem Ku {o:Out α}{k:α→Out β}{a:α}(h:o.ex= .ok a):o.bind k=k a:=by rw[HJ h];rfl
theorem Jt {o:Out α}{k:α→Out β}{e:Int}(h:o.bind k≠ .stuck) (he:o.ex= .error e):(o.bind k).ex= .error e:=by
 obtain⟨h1,h2⟩:=kn (Iw h) he;subst h2;rw[h1];rfl
theorem J7 {o:Out (Tm×σ)}{k:Tm×σ→Out β}{b:β}(h:o.chk k= .ok b):∃r,o= .ok r∧okB r.1=true∧k r= .ok b:=by
 obtain⟨r,h1,h2⟩:=Iy h;split at h2
 ·rename_i hr;exact⟨r,h1,hr,h2⟩
 cases h2
theorem T8 {o:Out (Tm×σ)}{k:Tm×σ→Out β}(h:o.chk k≠ .stuck):o≠ .stuck:=Iw h
theorem UI {o:Out (Tm×σ)}{k:Tm×σ→Out β}{r:Tm×σ}(hs:o.chk k≠ .stuck) (h:o.ex= .ok r):okB r.1=true∧o.chk k=k r:=by
 have h1:=HJ h;subst h1;simp only[Out.chk,Out.bind] at hs ⊢;split at hs
 ·rename_i hr;exact⟨hr,by rw[if_pos hr]⟩
 exact absurd O hs
theorem Uf {o:Out (Tm×σ)}{k:Tm×σ→Out β}{e:Int}(h:o.chk k≠ .stuck) (he:o.ex= .error e):(o.chk k).ex= .error e:=Jt h he
theorem Jz {s:EP}{x:Tm×Int}{k:Tm→EP→Out α}(h:DU.put s x k≠ .stuck):okB x.1=true∧DU.put s x k=k x.1 (s.result x.1 x.2):=by
 unfold Sys.put at h ⊢;split at h
 ·rename_i hx;exact⟨hx,by rw[if_pos hx];rfl⟩
 exact absurd O h
theorem Yt {s:Int}{x:Tm×Int}{k:Tm→Int→Out α}(h:B1.put s x k≠ .stuck):okB x.1=true∧B1.put s x k=if s - 1<0∨x.2≠0 then .fail else k x.1 (s - 1):=by
 unfold Sys.put at h ⊢;split at h
 ·rename_i hx;refine⟨hx,?_⟩;rw[if_pos hx];simp only[B1];by_cases c:s - 1<0∨x.2≠0
  ·rw[if_pos c,if_pos c]
  rw[if_neg c,if_neg c]
 exact absurd O h
end
section
variable {E:List CH}{σ:Type}{S:Sys σ}{W:σ→Tm→Out (Tm×σ)}{n:Nat}{t:Es}{v:List Tm}{l:Tm}{s:σ}{x:Tm}
def P2 (E:List CH) (S:Sys σ) (W:σ→Tm→Out (Tm×σ)) (n:Nat) (t:Es) (v:List Tm) (r:Tm×σ):Out ((Option (Tm×List Tm)×Tm)×σ):=match DD E r.1 with
 | none=> .ok ((none,r.1),r.2)
 | some (d,j,fields)=>match Cp (En d j).name t.branches with
  | none=> .ok ((none,r.1),r.2)
  | some t'=>Dp E S W n t' (v++fields) r.1 r.2
theorem TX {X:Out ((Option (Tm×List Tm)×Tm)×σ)}(h:Dp E S W n t v l s=X) (hX:X≠ .stuck):∃k,n=k+1:=by
 cases n with
 | zero=>rw[Dp] at h;exact absurd h.symm hX
 | succ k=>exact⟨k,rfl⟩
theorem Hn (h:t.kind≠1):Dp E S W (n+1) t v l s= .ok ((some (t.body,v),Bc),s):=by rw[Dp,if_neg h]
theorem JY (h:t.kind=1) (hb:t.var<0∨t.var≥(v.length:Int)∨S.over s=true):Dp E S W (n+1) t v l s= .ok ((none,l),s):=by rw[Dp,if_pos h,if_pos hb]
theorem LC (h:t.kind=1) (hb:¬(t.var<0∨t.var≥(v.length:Int)∨S.over s=true)) (hx:v[t.var.toNat]?=some x):Dp E S W (n+1) t v l s=(W s x).chk (P2 E S W n t v):=by
 rw[Dp,if_pos h,if_neg hb,CW hx];rfl
theorem GP {r:Tm×σ}(h:DD E r.1=none):P2 E S W n t v r= .ok ((none,r.1),r.2):=by unfold P2;rw[h]
theorem IW {r:Tm×σ}{d:CH}{j:Int}{f:List Tm}(h:DD E r.1=some (d,j,f)) (hb:Cp (En d j).name t.branches=none):P2 E S W n t v r= .ok ((none,r.1),r.2):=by unfold P2;rw[h];simp only[hb]
theorem IV {r:Tm×σ}{d:CH}{j:Int}{f:List Tm}{t':Es}(h:DD E r.1=some (d,j,f)) (hb:Cp (En d j).name t.branches=some t'):P2 E S W n t v r=Dp E S W n t' (v++f) r.1 r.2:=by unfold P2;rw[h];simp only[hb]
end
section
variable {E:List CH}{σ:Type}{S:Sys σ}{W:σ→Tm→Out (Tm×σ)}{n:Nat}{h m:Tm}{a:List Tm}{s:σ}{d:CH}{x:GR}
theorem Kg (he:(Bn d.value h.levels).2≠0):Ep S d h a s= .ok (none,s):=by rw[Ep,if_pos he]
theorem KL (he:(Bn d.value h.levels).2=0):Ep S d h a s=S.put s ((Bn d.value h.levels).1,0) fun t s'=> .ok (some (apply t a),s'):=by rw[Ep,if_neg An]
theorem Mg (hc:DD E m=none):Ew E S d h a m s= .ok (none,s):=by unfold Ew;rw[hc]
theorem Qj {e:CH}{j:Int}{f:List Tm}(hc:DD E m=some (e,j,f)) (hn:e.name≠d.name∨j≥(d.recs.rules.length:Int)):Ew E S d h a m s= .ok (none,s):=by unfold Ew;rw[hc];simp only[if_pos hn]
theorem L4 {e:CH}{j:Int}{f:List Tm}{r:Tm}(hc:DD E m=some (e,j,f)) (hn:¬(e.name≠d.name∨j≥(d.recs.rules.length:Int))) (hr:d.recs.rules[j.toNat]?=some r) (he:(Bn r h.levels).2≠0):Ew E S d h a m s= .ok (none,s):=by
 unfold Ew;rw[hc];simp only[if_neg hn,Uk,CW hr,if_pos he]
theorem Mo {e:CH}{j:Int}{f:List Tm}{r:Tm}(hc:DD E m=some (e,j,f)) (hn:¬(e.name≠d.name∨j≥(d.recs.rules.length:Int))) (hr:d.recs.rules[j.toNat]?=some r) (he:(Bn r h.levels).2=0) :
  Ew E S d h a m s=S.put s (apply (apply (Bn r h.levels).1 (a.take (d.fixed+1+d.ctors.length).toNat)) f,0) fun t s'=> .ok (some (apply t (a.drop (CT d+1).toNat)),s'):=by
 unfold Ew;rw[hc];simp only[if_neg hn,Uk,CW hr,if_neg (show ¬(Bn r h.levels).2≠0 by omega)]
theorem Kc {b:Tm}{vars rest:List Tm}(he:(Bn b h.levels).2≠0):HM S h b vars rest s= .ok (none,s):=by rw[HM,if_pos he]
theorem Ut {b:Tm}{vars rest:List Tm}(hs:HM S h b vars rest s≠ .stuck) (he:(Bn b h.levels).2=0):okB (Bn b h.levels).1=true∧(∀v∈vars,okB v=true)∧Ba vars<1125899906842624∧HM S h b vars rest s=S.put s (CJ (Bn b h.levels).1 vars.reverse 0) fun t s'=> .ok (some (apply t rest),s'):=by
 rw[HM,if_neg An] at hs ⊢;split at hs
 ·exact absurd O hs
 rename_i hc;have hn:=hc;simp only[not_or,Bool.not_eq_false] at hc;exact⟨hc.1,fun v hv=>List.all_eq_true.1 hc.2.1 v hv,by omega,by rw[if_neg hn]⟩
def PH (S:Sys σ) (f:G7) (h:Tm) (a:List Tm) (q:(Option (Tm×List Tm)×Tm)×σ):Out (Option Tm×σ):=match q.1.1 with
 | none=> .ok (none,q.2)
 | some (b,vars)=>if S.over q.2=true then .ok (none,q.2) else HM S h b vars (a.drop f.arity.toNat) q.2
theorem Ki {f:G7}(hl:(a.length:Int)<f.arity):JW E S W n f h a s= .ok (none,s):=by rw[JW,if_pos hl]
theorem Kj {f:G7}(hl:¬(a.length:Int)<f.arity):JW E S W n f h a s=(Dp E S W n f.tree (a.take f.arity.toNat) Bc s).bind (PH S f h a):=by rw[JW,if_neg hl];rfl
theorem Ow (hl:(a.length:Int)≤CT d):R0 E S W d h a s= .ok (none,s):=by rw[R0,if_pos hl]
theorem R5 {y:Tm}(hl:¬(a.length:Int)≤CT d) (hy:a[(CT d).toNat]?=some y):R0 E S W d h a s=(W s y).chk fun r=>Ew E S d h a r.1 r.2:=by rw[R0,if_neg hl,CW hy]
theorem JQ (hu:Tj E h=false):EU E S W n h a s= .ok (none,s):=by
 unfold EU;rw[C7,hu];simp
section
variable (hu:Tj E h=true) (hd:E[(Bp E h.name).1.decl.toNat]?=some d)
include hu hd
theorem I5 (hk:(Bp E h.name).1.kind=1):EU E S W n h a s=Ep S d h a s:=by
 unfold EU;rw[C7,hu,if_pos rfl];simp only[if_pos hk,Cb,CW hd]
theorem Hp (hk:(Bp E h.name).1.kind=5):EU E S W n h a s=R0 E S W d h a s:=by
 unfold EU;rw[C7,hu,if_pos rfl];simp only[hk,Cb,CW hd];rfl
theorem HH {f:G7}(hk:(Bp E h.name).1.kind=6) (hf:d.funs[(Bp E h.name).1.item.toNat]?=some f):EU E S W n h a s=JW E S W n f h a s:=by
 unfold EU;rw[C7,hu,if_pos rfl];simp only[hk,Cb,CW hd,Gc,CW hf];rfl
omit hd
theorem IK (h1:(Bp E h.name).1.kind≠1) (h5:(Bp E h.name).1.kind≠5) (h6:(Bp E h.name).1.kind≠6):EU E S W n h a s= .ok (none,s):=by
 unfold EU;rw[C7,hu,if_pos rfl];simp only[if_neg h1,if_neg h5,if_neg h6]
end
end
section
variable {E:List CH}{σ:Type}{S:Sys σ}{n:Nat}{t:Tm}{s:σ}{X:Out (Tm×σ)}
theorem ZL (h:EA E S n s t=X) (hX:X≠ .stuck):∃k,n=k+1:=by
 cases n with
 | zero=>rw[EA] at h;exact absurd h.symm hX
 | succ k=>exact⟨k,rfl⟩
theorem XG (h:EA E S (n+1) s t=X) (hX:X≠ .stuck):okB t=true:=by
 rw[EA] at h;split at h
 ·exact absurd h.symm hX
 rename_i hc;simpa using hc
theorem YT (ho:okB t=true) (h:S.over s=true):EA E S (n+1) s t= .ok (t,s):=by rw[EA,if_neg (by simp[ho]),if_pos h]
theorem ZQ (ho:okB t=true) (h:S.over s=false) (hm:S.many (BA t).2.length=true):EA E S (n+1) s t= .fail:=by rw[EA,if_neg (by simp[ho]),if_neg (by simp[h]),if_pos hm]
section
variable (ho:okB t=true) (h:S.over s=false) (hm:S.many (BA t).2.length=false)
include ho h hm
theorem OM (hk:(BA t).1.kind=5) (hl:(BA t).2.length=0):EA E S (n+1) s t= .ok (t,s):=by
 rw[EA,if_neg (by simp[ho]),if_neg (by simp[h]),if_neg (by simp[hm]),if_pos hk,if_pos hl]
theorem RP {b:Tm}(hk:(BA t).1.kind=5) (hl:(BA t).2.length≠0) (hb:(BA t).1.kids[1]?=some b) :
  EA E S (n+1) s t=S.put s (CJ b ((BA t).2.take 1) 0) fun x s'=>EA E S n s' (apply x ((BA t).2.drop 1)):=by
 rw[EA,if_neg (by simp[ho]),if_neg (by simp[h]),if_neg (by simp[hm]),if_pos hk,if_neg hl,N0,hb]
theorem R7 {v b:Tm}(hk:(BA t).1.kind=11) (hv:(BA t).1.kids[1]?=some v) (hb:(BA t).1.kids[2]?=some b) :
  EA E S (n+1) s t=S.put s (CJ b [v] 0) fun x s'=>EA E S n s' (apply x (BA t).2):=by
 rw[EA,if_neg (by simp[ho]),if_neg (by simp[h]),if_neg (by simp[hm]),if_neg An,if_pos hk,U2,hv,hb]
def P1 (E:List CH) (S:Sys σ) (n:Nat) (h:Tm) (a:List Tm) (r:Tm×σ):Out (Tm×σ) :=
 if r.1.kind≠8 then .ok (apply (Ip h.kind r.1) a,r.2) else My S h r.1 a r.2 fun x s'=>EA E S n s' x
theorem OL {p:Tm}(hk:(BA t).1.kind=9∨(BA t).1.kind=10) (hp:(BA t).1.kids[0]?=some p) :
  EA E S (n+1) s t=(EA E S n s p).chk (P1 E S n (BA t).1 (BA t).2):=by
 rw[EA,if_neg (by simp[ho]),if_neg (by simp[h]),if_neg (by simp[hm]),if_neg An,if_neg An,if_pos hk,hp];rfl
def Yo (E:List CH) (S:Sys σ) (n:Nat) (t:Tm) (r:Option Tm×σ):Out (Tm×σ):=match r.1 with
 | none=> .ok (t,r.2)
 | some x=>EA E S n r.2 x
theorem KZ (hk:(BA t).1.kind=3):EA E S (n+1) s t=(EU E S (EA E S n) n (BA t).1 (BA t).2 s).bind (Yo E S n t):=by
 rw[EA,if_neg (by simp[ho]),if_neg (by simp[h]),if_neg (by simp[hm]),if_neg An,if_neg An,if_neg An,if_pos hk];rfl
theorem VG (h1:(BA t).1.kind≠5) (h2:(BA t).1.kind≠11) (h3:(BA t).1.kind≠9) (h4:(BA t).1.kind≠10) (h5:(BA t).1.kind≠3):EA E S (n+1) s t= .ok (t,s):=by
 rw[EA,if_neg (by simp[ho]),if_neg (by simp[h]),if_neg (by simp[hm]),if_neg h1,if_neg h2,if_neg An,if_neg h5]
end
theorem Lu {h:Tm}{a:List Tm}{r:Tm×σ}(hk:r.1.kind≠8):P1 E S n h a r= .ok (apply (Ip h.kind r.1) a,r.2):=by rw[P1,if_pos hk]
theorem Oo {h:Tm}{a:List Tm}{r:Tm×σ}{q:Tm}(hk:r.1.kind=8) (hq:r.1.kids[(1+h.kind - 9).toNat]?=some q):P1 E S n h a r=S.put r.2 (q,0) fun x s'=>EA E S n s' (apply x a):=by
 rw[P1,if_neg An,My,hq]
end
theorem Ej {vs:List Tm}(h:∀v∈vs,okB v=true):MJ vs∧Nt vs∧Sy vs:=Nc vs (JL.2 fun t ht=>JF (h t ht))
theorem Yn {vs:List Tm}(h:∀v∈vs,okB v=true) (hl:vs.length<549755813888):QJ vs 0 :=
 ⟨(Ej h).2.1,(Ej h).2.2,fun x hx=>by have:=Fk (h x hx);omega,by omega,by omega,by omega⟩
theorem JN {b:Tm}{vs:List Tm}(hb:okB b=true) (hv:∀v∈vs,okB v=true):size (CJ b vs 0).1≤4096 :=
 VZ b vs 0 (CM.1 hb).wt (Ej hv).2.1 fun x hx=>by have:=Fk (hv x hx);omega
theorem KH {b:Tm}{vs:List Tm}(hb:okB b=true) (hv:∀v∈vs,okB v=true) (hl:vs.length<549755813888):okB (CJ b vs 0).1=true:=by
 have o:=CM.1 hb;obtain⟨h1,h2,h3⟩:=Ej hv;have:=JN hb hv;exact CM.2 ⟨aP b vs 0 o.nd h1,Zx b vs 0 o.wt h2,Zj (Yn hv hl) o.vp (by have:=o.sz;omega),by omega⟩
theorem JA.zero:JA FV:=JA.num (n:=0) An
theorem PT {ps:List CV}(hp:∀p∈ps,B6 p=true):∀(vs:List CC) (out:CV),JA out→(∀v∈vs,(0≤v.plus∧v.plus≤100)∧ -65536≤v.index∧v.index<8)→JA (GA ps out vs).1
 | [],out,h,_=>h
 | v::vs,out,h,hv=>by
  have h1:=hv v Ao;have h2:∀u∈vs,(0≤u.plus∧u.plus≤100)∧ -65536≤u.index∧u.index<8:=fun u hu=>hv u (by simp[hu]);rw[GA];split
  ·rename_i hi;split
   ·exact JA.zero
   rename_i he;refine PT hp vs _ (h.join ?_) h2;have hlt:v.index.toNat<ps.length:=by omega
   have hg:ps.getD v.index.toNat default∈ps:=by rw[CW (List.getElem?_eq_getElem hlt)];exact List.getElem_mem hlt
   exact JA.plus (hp _ hg) h1.1.1 h1.1.2 (Decidable.not_not.1 he)
  exact PT hp vs _ (h.join (JA.one h1)) h2
theorem Xo (l:CV) (ps:List CV):JA (Ct l ps).1:=by
 unfold Ct;split
 ·exact JA.zero
 rename_i h;simp only[not_or,Bool.not_eq_false,List.all_eq_true] at h;split
 ·exact JA.zero
 have hl:=JA.of h.1;exact PT h.2 l.vars _ (JA.num hl.c) hl.rg
theorem Te (ps:List CV):∀(ls:List CV) (er:Int),(FD ps er ls).1.length=ls.length∧(FD ps er ls).1.all Xc=true
 | [],er=>⟨rfl,rfl⟩
 | l::ls,er=>by
  obtain⟨h1,h2⟩:=Te ps ls (Gf er (Ct l ps).2);simp only[FD,List.length_cons,List.all_cons,Bool.and_eq_true];exact⟨by rw[h1],ZE (Xo l ps).nd,h2⟩
mutual
theorem Q5 (ps:List CV):∀(t:Tm) (er:Int),Sj t=true→Sj (He ps er t).1=true∧size (He ps er t).1=size t
 | .mk k i n ls ks,er,h=>by
  rw[Kz,Bool.and_eq_true] at h;obtain⟨h1,h2⟩:=Te ps ls er;obtain⟨h3,h4,h5⟩:=TY ps ks (FD ps er ls).2 h.2;simp only[He,Kz,size,Bool.and_eq_true];refine⟨⟨?_,h4⟩,by rw[h5]⟩;have g:=h.1;simp only[mQ,Bool.and_eq_true] at g ⊢;rw[h1,h3];exact⟨⟨⟨⟨⟨⟨⟨⟨g.1.1.1.1.1.1.1.1,g.1.1.1.1.1.1.1.2⟩,h2⟩,g.1.1.1.1.1.2⟩,g.1.1.1.1.2⟩,g.1.1.1.2⟩,g.1.1.2⟩,g.1.2⟩,g.2⟩
theorem TY (ps:List CV):∀(ts:List Tm) (er:Int),Lc ts=true→(Gd ps er ts).1.length=ts.length∧Lc (Gd ps er ts).1=true∧Ba (Gd ps er ts).1=Ba ts
 | [],er,_=>⟨rfl,rfl,rfl⟩
 | t::ts,er,h=>by
  simp only[Lc,Bool.and_eq_true] at h;obtain⟨h1,h2⟩:=Q5 ps t er h.1;obtain⟨h3,h4,h5⟩:=TY ps ts (He ps er t).2 h.2;simp only[Gd,List.length_cons,Lc,Bool.and_eq_true,Ba];exact⟨by rw[h3],⟨h1,h4⟩,by rw[h2,h5]⟩
end
theorem eE:Sj Bc=true:=by decide
theorem IL:okB Bc=true:=by decide
theorem Lw {t:Tm}(ps:List CV) (h:okB t=true):size (Bn t ps).1≤size t:=by
 unfold Bn;split
 ·exact size_pos t
 exact Nat.le_of_eq (Q5 ps t 0 (JF h)).2
theorem O4 {t:Tm}(ps:List CV) (h:okB t=true):okB (Bn t ps).1=true:=by
 have:=Lw ps h;have:=Fk h;refine Lr ?_ An;unfold Bn;split
 ·exact eE
 exact(Q5 ps t 0 (JF h)).1
theorem Kh {f:Tm}{xs:List Tm}(h:okB f=true) (hx:∀x∈xs,okB x=true) (hs:size f+Ba xs+xs.length<549755813888):okB (apply f xs)=true :=
 Lr (I9 (JF h) fun x hx'=>JF (hx x hx')) (by rw[C8];exact hs)
theorem iW {k:Int}{p:Tm}(hk:k=9∨k=10) (h:okB p=true) (hs:size p+1<549755813888):okB (Ip k p)=true:=by
 refine Lr ?_ (by simp only[Ip,size,Ba];omega);rw[Ip,Kz,Bool.and_eq_true];refine⟨?_,by simp[Lc,JF h]⟩;rcases hk with rfl | rfl<;>rfl
theorem DW (l:List Tm) (k:Nat):Ba (l.take k)+Ba (l.drop k)=Ba l:=by rw[←Is,List.take_append_drop]
theorem HF:∀(t:Tm),size (BA t).1+Ba (BA t).2+(BA t).2.length=size t
 | .mk k i n l [f,a]=>by
  unfold BA;split
  ·have:=HF f;simp only[Is,Ba,size,List.length_append,List.length_cons,List.length_nil];omega
  ·simp[Ba]
 | .mk k i n l []=>by simp[BA,Ba]
 | .mk k i n l [_]=>by simp[BA,Ba]
 | .mk k i n l (_::_::_::_)=>by simp[BA,Ba]
mutual
def Dl:Es→Nat
 | .mk _ _ _ l=>1+K5 l
def YO:GQ→Nat
 | .mk _ _ t=>Dl t
def K5:List GQ→Nat
 | []=>0
 | b::l=>max (YO b) (K5 l)
end
theorem Xy:∀t:Es,1≤Dl t
 | .mk k b v l=>by simp only[Dl];omega
structure Gh (E:List CH):Prop where
 g:Je E
 vl:∀d∈E,size d.value≤400
 ru:∀d∈E,∀t∈d.recs.rules,size t≤400
 fu:∀d∈E,∀f∈d.funs,Dl f.tree≤50
theorem VY {nm:ByteArray}:∀{l:List GQ}{t:Es},Cp nm l=some t→Ru l→FC t∧Dl t≤K5 l
 | .mk c a q::l,t,h,ho=>by
  simp only[Ru,kF] at ho;rw[Cp] at h;simp only[K5,YO];split at h
  ·split at h
   ·cases h
   cases h;exact⟨ho.1,by simp only[GQ.tree];omega⟩
  obtain⟨h1,h2⟩:=VY h ho.2;exact⟨h1,by omega⟩
theorem XN {nm:ByteArray}{t t':Es}(h:Cp nm t.branches=some t') (ho:FC t):FC t'∧Dl t' < Dl t:=by
 obtain⟨k,b,v,l⟩:=t;simp only[FC] at ho;obtain⟨h1,h2⟩:=VY h ho.2;exact⟨h1,by simp only[Dl,Es.branches] at *;omega⟩
theorem Kk {E:List CH}{h:Tm}(hu:Tj E h=true):∃(i:Nat) (d:CH),E[i]?=some d∧Yp d i (Bp E h.name).1∧d∈E∧E[(Bp E h.name).1.decl.toNat]?=some d:=by
 simp only[Tj,Bool.and_eq_true,decide_eq_true_eq] at hu;obtain⟨i,d,h1,h2⟩:=Oy hu.1;exact⟨i,d,h1,h2,List.mem_of_getElem? h1,by rw[h2.decl];simpa using h1⟩
theorem S3 {E:List CH}{nm:ByteArray}{d:CH}{j:Int}(h:Ha E nm=some (d,j)):d∈E∧(0≤j→j<d.ctors.length):=by
 unfold Ha at h;split at h
 ·cases h
 rename_i h0;obtain⟨i,d',h1,h2⟩:=Oy (Decidable.not_not.1 h0);have hd:Cb E (Bp E nm).1.decl=d':=CW (by rw[h2.decl];simpa using h1);have hm:=List.mem_of_getElem? h1;rw[hd] at h;split at h
 ·cases h;exact⟨hm,fun q=>by omega⟩
 split at h
 ·rename_i h4;obtain⟨k,c,h5,h6⟩:=h2.ctor h4;cases h;exact⟨hm,fun _=>by have:=(List.getElem?_eq_some_iff.1 h5).1;omega⟩
 split at h
 ·cases h;exact⟨hm,fun q=>by omega⟩
 cases h
structure lH (E:List CH) (t:Tm) (d:CH) (j:Int) (f:List Tm):Prop where
 mem:d∈E
 lo:0≤j
 hi:j<d.ctors.length
 fs:f=(BA t).2.drop d.fixed.toNat
 len:((BA t).2.length:Int)=d.fixed+FH d j
 kind:(BA t).1.kind=3
theorem Fi {E:List CH}{t:Tm}{d:CH}{j:Int}{f:List Tm}(h:DD E t=some (d,j,f)):lH E t d j f:=by
 unfold DD at h;split at h
 ·cases h
 rename_i hk;split at h
 ·cases h
 rename_i d' j' hf;obtain⟨h1,h2⟩:=S3 hf;split at h
 ·cases h
 split at h
 ·cases h
 rename_i h3 h4;cases h;exact⟨h1,by omega,h2 An,rfl,Decidable.not_not.1 h4,Decidable.not_not.1 hk⟩
theorem Jw {E:List CH}{t:Tm}{d:CH}{j:Int}{f:List Tm}(h:DD E t=some (d,j,f)) (ho:okB t=true):(∀x∈f,okB x=true∧size x<size t)∧Ba f+f.length<size t:=by
 have c:=Fi h;have hs:=HF t;have hp:=size_pos (BA t).1;have hd:=DW (BA t).2 d.fixed.toNat;rw[c.fs];refine⟨fun x hx=>⟨(Hj ho).2 x (List.mem_of_mem_drop hx),?_⟩,by rw[List.length_drop];omega⟩;have:=Fx (List.mem_of_mem_drop hx);omega
theorem JO {E:List CH}{t:Tm}{d:CH}{j:Int}{f:List Tm}(hE:Je E) (h:DD E t=some (d,j,f)):f.length≤1000000:=by
 have c:=Fi h;have hd:=hE.all d c.mem;have hlo:=c.lo;have hhi:=c.hi;have hlt:j.toNat<d.ctors.length:=by omega
 have hx:=List.getElem?_eq_getElem hlt;have hs:=(hd.din.cs _ (List.getElem_mem hlt)).ty.sz;have hl:=IT d.ctors[j.toNat].type;have hfx:=hd.fx;have hlen:=c.len;rw[c.fs,List.length_drop];unfold FH X2 En at hlen;rw[CW hx] at hlen;omega
def DK {α:Type}(o:Out α) (p:α→Prop):Prop:=match o with
 | .stuck=>False
 | .fail=>True
 | .ok a=>p a
section
variable {α β σ:Type}
theorem DK.ok {a:α}{p:α→Prop}(h:p a):DK (.ok a) p:=h
theorem DK.ns {o:Out α}{p:α→Prop}(h:DK o p):o≠ .stuck:=fun e=>by rw[e] at h;exact h
theorem DK.get {o:Out α}{p:α→Prop}{a:α}(h:DK o p) (e:o= .ok a):p a:=by rw[e] at h;exact h
theorem DK.mono {o:Out α}{p q:α→Prop}(h:DK o p) (hpq:∀a,p a→q a):DK o q:=by
 cases o with
 | stuck=>exact h
 | fail=>trivial
 | ok a=>exact hpq a h
theorem DK.bind {o:Out α}{k:α→Out β}{p:α→Prop}{q:β→Prop}(h:DK o p) (hk:∀a,p a→DK (k a) q):DK (o.bind k) q:=by
 cases o with
 | stuck=>exact h
 | fail=>trivial
 | ok a=>exact hk a h
theorem DK.chk {o:Out (Tm×σ)}{k:Tm×σ→Out β}{p:Tm×σ→Prop}{q:β→Prop}(h:DK o p) (hk:∀a,p a→okB a.1=true∧DK (k a) q):DK (o.chk k) q :=
 DK.bind h fun a ha=>by rw[if_pos (hk a ha).1];exact(hk a ha).2
theorem DK.put {S:Sys σ}{s:σ}{x:Tm×Int}{k:Tm→σ→Out β}{q:β→Prop}(ho:okB x.1=true) (hk:∀s',S.res s x.1 x.2=some s'→DK (k x.1 s') q):DK (S.put s x k) q:=by
 unfold Sys.put;rw[if_pos ho];cases h:S.res s x.1 x.2 with
 | none=>trivial
 | some s'=>exact hk s' h
end
structure XS {σ:Type} (S:Sys σ) (J:σ→Prop) (cnt:σ→Nat) (C:Nat):Prop where
 nov:∀s,J s→S.over s=false→cnt s≤C
 res:∀s t e s',J s→cnt s<1152921504606846976→okB t=true→S.res s t e=some s'→J s'∧cnt s'=cnt s+1
 hC:C≤20000
section
variable {σ:Type}(S:Sys σ) (J:σ→Prop) (cnt:σ→Nat) (C:Nat)
structure Vu (s:σ) (t:Tm) (r:Tm×σ):Prop where
 j:J r.2
 ok:okB r.1=true
 le:cnt s≤cnt r.2
 sz:size r.1≤size t+(cnt r.2 - cnt s)*4500
 ub:S.over s=false→cnt r.2≤C+1+size t+(C - cnt s)*4500
 st:S.over s=true→r.2=s
structure qh (n:Nat) (s:σ) (t:Tm):Prop where
 j:J s
 ok:okB t=true
 pm:S.over s=false→size t+(C - cnt s)*4500≤90100000
 fu:S.over s=false→size t+(C - cnt s)*4501+100≤n
 n1:1≤n
def l7 (n:Nat) (W:σ→Tm→Out (Tm×σ)):Prop:=∀s t,qh S J cnt C n s t→DK (W s t) (Vu S J cnt C s t)
end
section
variable {σ:Type}{S:Sys σ}{J:σ→Prop}{cnt:σ→Nat}{C:Nat}{E:List CH}{n:Nat}{W:σ→Tm→Out (Tm×σ)}
variable (hS:XS S J cnt C) (hE:Gh E) (hW:l7 S J cnt C n W)
structure qX (S:Sys σ) (J:σ→Prop) (cnt:σ→Nat) (C n V Z:Nat) (s:σ) (vars:List Tm) (last:Tm):Prop where
 j:J s
 ok:∀v∈vars,okB v=true
 lok:okB last=true
 pm:S.over s=false→∀v∈vars,size v+(C - cnt s)*4500≤V
 fu:S.over s=false→∀v∈vars,size v+(C - cnt s)*4501+100≤n
 lm:S.over s=false→size last+(C - cnt s)*4500≤V∧size last+(C - cnt s)*4501+100≤n
 zs:∀v∈vars,size v≤Z
 lz:size last≤Z
structure j6 (S:Sys σ) (J:σ→Prop) (cnt:σ→Nat) (C n V L Z:Nat) (s:σ) (q:(Option (Tm×List Tm)×Tm)×σ):Prop where
 j:J q.2
 le:cnt s≤cnt q.2
 ub:S.over s=false→cnt q.2≤C+1+V
 st:S.over s=true→q.2=s
 ok:∀b vars,q.1.1=some (b,vars)→okB b=true∧∀v∈vars,okB v=true
 vl:∀b vars,q.1.1=some (b,vars)→vars.length≤L∧Ba vars<1125899906842624
 lok:okB q.1.2=true
 lz:q.1.1=none→size q.1.2≤Z+(cnt q.2 - cnt s)*4500
 lm:S.over q.2=false→q.1.1=none→size q.1.2+(C - cnt q.2)*4500≤V∧size q.1.2+(C - cnt q.2)*4501+100≤n
include hS hE hW
theorem R2 {V L:Nat}(hV:V≤90100000):∀(m:Nat) (t:Es) (vars:List Tm) (last:Tm) (s:σ) (Z:Nat),Dl t≤m→FC t→1≤n→vars.length+Dl t*1000000≤L→Ba vars+Dl t*549755813888<1125899906842624→qX S J cnt C n V Z s vars last→DK (Dp E S W m t vars last s) (j6 S J cnt C n V L Z s)
 | 0,t,vars,last,s,Z,h,_,_,_,_,_=>absurd h (by have:=Xy t;omega)
 | m+1,t,vars,last,s,Z,h,ht,hn,hL,hM,hp=>by
  by_cases hk:t.kind=1
  ·by_cases hb:t.var<0∨t.var≥(vars.length:Int)∨S.over s=true
   ·rw[JY hk hb];exact DK.ok ⟨hp.j,Nat.le_refl _,fun h=>by have:=hS.nov s hp.j h;simp only;omega,fun _=>rfl,fun b v e=>by simp at e,fun b v e=>by simp at e,hp.lok,fun _=>by have:=hp.lz;simp only;omega,fun h _=>hp.lm h⟩
   have hlt:t.var.toNat<vars.length:=by omega
   have ho:S.over s=false:=by simpa using fun e=>hb (.inr (.inr e))
   have hx:=List.getElem?_eq_getElem hlt;have hm:=List.getElem_mem hlt;rw[LC hk hb hx];have hcs:=hS.nov s hp.j ho;refine DK.chk (hW s _ ⟨hp.j,hp.ok _ hm,fun _=>by have:=hp.pm ho _ hm;omega,fun _=>hp.fu ho _ hm,hn⟩) fun r hr=>⟨hr.ok,?_⟩;have hpm:=hp.pm ho _ hm;have hfu:=hp.fu ho _ hm;have hub:=hr.ub ho;have hle:=hr.le;have hsz:=hr.sz;have hlm:S.over r.2=false→size r.1+(C - cnt r.2)*4500≤V∧size r.1+(C - cnt r.2)*4501+100≤n:=fun h=>by have:=hS.nov _ hr.j h;omega
   have hstop:DK (.ok ((none,r.1),r.2)) (j6 S J cnt C n V L Z s) :=
    DK.ok ⟨hr.j,hr.le,fun _=>by simp only;omega,fun e=>absurd (ho.symm.trans e) Ao,fun b v e=>by simp at e,fun b v e=>by simp at e,hr.ok,fun _=>by have:=hp.zs _ hm;simp only;omega,fun h _=>hlm h⟩
   cases hc:DD E r.1 with
   | none=>rw[GP hc];exact hstop
   | some q =>
    obtain⟨d,j,f⟩:=q;cases hbr:Cp (En d j).name t.branches with
    | none=>rw[IW hc hbr];exact hstop
    | some t' =>
     rw[IV hc hbr];obtain⟨h1,h2⟩:=XN hbr ht;obtain⟨h3,h4⟩:=Jw hc hr.ok;have h5:=Fk hr.ok;refine DK.mono (R2 (L:=L) hV m t' (vars++f) r.1 r.2 (Z+(cnt r.2 - cnt s)*4500) An h1 hn (by have:=JO hE.g hc;rw[List.length_append];omega) (by rw[Is];omega) ⟨hr.j,fun v hv=>?_,hr.ok,fun h v hv=>?_,fun h v hv=>?_,hlm,fun v hv=>?_,by have:=hp.zs _ hm;omega⟩) fun q hq=>?_
     ·rcases List.mem_append.1 hv with hv | hv
      ·exact hp.ok v hv
      exact(h3 v hv).1
     ·have:=hS.nov _ hr.j h;rcases List.mem_append.1 hv with hv | hv
      ·have:=hp.pm ho v hv;omega
      have:=(h3 v hv).2;omega
     ·have:=hS.nov _ hr.j h;rcases List.mem_append.1 hv with hv | hv
      ·have:=hp.fu ho v hv;omega
      have:=(h3 v hv).2;omega
     ·have hzm:=hp.zs _ hm;rcases List.mem_append.1 hv with hv | hv
      ·have:=hp.zs v hv;omega
      have:=(h3 v hv).2;omega
     refine⟨hq.j,by have:=hq.le;omega,fun _=>?_,fun e=>absurd (ho.symm.trans e) Ao,hq.ok,hq.vl,hq.lok,fun e=>by have:=hq.lz e;have:=hq.le;omega,hq.lm⟩;cases hov:S.over r.2 with
     | true=>rw[hq.st hov];omega
     | false=>exact hq.ub hov
  rw[Hn hk];refine DK.ok ⟨hp.j,Nat.le_refl _,fun h=>by have:=hS.nov s hp.j h;simp only;omega,fun _=>rfl,fun b v e=>?_,fun b v e=>?_,IL,fun e=>by simp at e,fun h e=>by simp at e⟩
  ·simp only[Option.some.injEq,Prod.mk.injEq] at e;obtain⟨rfl,rfl⟩:=e;refine⟨?_,hp.ok⟩;obtain⟨k,b,v,l⟩:=t;simp only[FC] at ht;exact ht.1
  simp only[Option.some.injEq,Prod.mk.injEq] at e;obtain⟨rfl,rfl⟩:=e;omega
end
section
variable {σ:Type}{S:Sys σ}{J:σ→Prop}{cnt:σ→Nat}{C:Nat}{E:List CH}{n:Nat}{W:σ→Tm→Out (Tm×σ)}
structure ZG (S:Sys σ) (J:σ→Prop) (cnt:σ→Nat) (C:Nat) (s:σ) (z:Nat) (r:Option Tm×σ):Prop where
 j:J r.2
 le:cnt s≤cnt r.2
 ub:cnt r.2≤C+1+z+(C - cnt s)*4500
 ok:∀x,r.1=some x→okB x=true∧cnt s+1≤cnt r.2∧size x≤z+(cnt r.2 - cnt s)*4500
variable (hS:XS S J cnt C)
include hS
theorem bM {d:CH}{h:Tm}{a:List Tm}{s:σ}(hj:J s) (hc:cnt s≤C) (hv:okB d.value=true) (hs:size d.value≤400) (ha:∀x∈a,okB x=true) (hz:size h+Ba a+a.length≤90100000):DK (Ep S d h a s) (ZG S J cnt C s (size h+Ba a+a.length)):=by
 have hC:=hS.hC;by_cases he:(Bn d.value h.levels).2=0
 ·rw[KL he];have h1:=Lw h.levels hv;have h2:=O4 h.levels hv;refine DK.put h2 fun s' hs'=>?_;obtain⟨h3,h4⟩:=hS.res _ _ _ _ hj An h2 hs';have h5:=C8 a (Bn d.value h.levels).1;refine DK.ok ⟨h3,by simp only;omega,by simp only;omega,fun x hx=>?_⟩;simp only[Option.some.injEq] at hx;subst hx;exact⟨Kh h2 ha An,by simp only;omega,by simp only;omega⟩
 rw[Kg he];exact DK.ok ⟨hj,Nat.le_refl _,by simp only;omega,fun x hx=>by cases hx⟩
theorem gC {b h:Tm}{vars rest:List Tm}{s:σ}{z:Nat}(hj:J s) (hc:cnt s≤C) (hb:okB b=true) (hv:∀v∈vars,okB v=true) (hl:vars.length<549755813888) (hsv:Ba vars<1125899906842624) (hr:∀x∈rest,okB x=true) (hz:Ba rest+rest.length≤z) (hz2:z≤90100000):DK (HM S h b vars rest s) (fun r=>J r.2∧cnt s≤cnt r.2∧cnt r.2≤cnt s+1∧∀x,r.1=some x→okB x=true∧cnt r.2=cnt s+1∧size x≤z+4096):=by
 have hC:=hS.hC;by_cases he:(Bn b h.levels).2=0
 ·have h1:=O4 h.levels hb;have hvr:∀v∈vars.reverse,okB v=true:=fun v hm=>hv v (List.mem_reverse.1 hm);have h2:=KH h1 hvr (by rw[List.length_reverse];exact hl);have h3:=JN h1 hvr;rw[HM,if_neg An,if_neg (by simp only[not_or,Bool.not_eq_false];exact⟨h1,List.all_eq_true.2 hv,by omega⟩)];refine DK.put h2 fun s' hs'=>?_;obtain⟨h4,h5⟩:=hS.res _ _ _ _ hj An h2 hs';have h6:=C8 rest (CJ (Bn b h.levels).1 vars.reverse 0).1;refine DK.ok ⟨h4,by simp only;omega,by simp only;omega,fun x hx=>?_⟩;simp only[Option.some.injEq] at hx;subst hx;exact⟨Kh h2 hr An,by simp only;omega,by omega⟩
 rw[Kc he];exact DK.ok ⟨hj,Nat.le_refl _,by simp only;omega,fun x hx=>by cases hx⟩
variable (hE:Gh E)
include hE
theorem fP {d:CH}{h m:Tm}{a:List Tm}{s:σ}(hd:d∈E) (hj:J s) (hc:cnt s≤90200000) (hm:okB m=true) (ha:∀x∈a,okB x=true) {z:Nat}{y:Tm}(hy:a[(CT d).toNat]?=some y) (hz:Ba a+a.length+size m≤z+size y) (hz2:z≤500000000000) :
  DK (Ew E S d h a m s) (fun r=>J r.2∧cnt s≤cnt r.2∧cnt r.2≤cnt s+1∧∀x,r.1=some x→okB x=true∧cnt r.2=cnt s+1∧size x≤z+4500):=by
 have hg:=hE.g.all d hd;have hnone:DK (.ok (none,s)) (fun r:Option Tm×σ=>J r.2∧cnt s≤cnt r.2∧cnt r.2≤cnt s+1∧∀x,r.1=some x→okB x=true∧cnt r.2=cnt s+1∧size x≤z+4500) :=
  DK.ok ⟨hj,Nat.le_refl _,by simp only;omega,fun x hx=>by cases hx⟩
 cases hcw:DD E m with
 | none=>rw[Mg hcw];exact hnone
 | some q =>
  obtain⟨e,j,f⟩:=q;by_cases hn:e.name≠d.name∨j≥(d.recs.rules.length:Int)
  ·rw[Qj hcw hn];exact hnone
  have hcf:=Fi hcw;have hlo:=hcf.lo;have hlt:j.toNat<d.recs.rules.length:=by omega
  have hr:=List.getElem?_eq_getElem hlt;have hrm:=List.getElem_mem hlt;by_cases he:(Bn d.recs.rules[j.toNat] h.levels).2=0
  ·rw[Mo hcw hn hr he];have h1:=hg.ru _ hrm;have h2:=O4 h.levels h1;have h3:=Lw h.levels h1;have h4:=hE.ru d hd _ hrm;obtain⟨h5,h6⟩:=Jw hcw hm;have hni:=(GK hg.din hg.fx).1;have hf0:=hg.fx.1;have hk:(d.fixed+1+d.ctors.length).toNat≤(CT d).toNat:=by unfold CT;omega
   have hnn:(CT d+1).toNat=(CT d).toNat+1:=by unfold CT;omega
   have t1:=DW a (CT d).toNat;have t2:=DW (a.take (CT d).toNat) (d.fixed+1+d.ctors.length).toNat;rw[List.take_take,Nat.min_eq_left hk] at t2;rw[Cj hy] at t1;simp only[Ba] at t1;have hlen:=(List.getElem?_eq_some_iff.1 hy).1;have u1:=C8 (a.take (d.fixed+1+d.ctors.length).toNat) (Bn d.recs.rules[j.toNat] h.levels).1;have u2:=C8 f (apply (Bn d.recs.rules[j.toNat] h.levels).1 (a.take (d.fixed+1+d.ctors.length).toNat));have hl1:(a.take (d.fixed+1+d.ctors.length).toNat).length≤(CT d).toNat:=by rw[List.length_take];omega
   have hl2:(a.drop ((CT d).toNat+1)).length+(CT d).toNat+1=a.length:=by rw[List.length_drop];omega
   have h7:okB (apply (apply (Bn d.recs.rules[j.toNat] h.levels).1 (a.take (d.fixed+1+d.ctors.length).toNat)) f)=true :=
    Lr (I9 (I9 (JF h2) fun x hx=>JF (ha x (List.mem_of_mem_take hx))) fun x hx=>JF (h5 x hx).1) (by rw[u2,u1];omega)
   refine DK.put h7 fun s' hs'=>?_;obtain⟨h8,h9⟩:=hS.res _ _ _ _ hj An h7 hs';have u3:=C8 (a.drop (CT d+1).toNat) (apply (apply (Bn d.recs.rules[j.toNat] h.levels).1 (a.take (d.fixed+1+d.ctors.length).toNat)) f);rw[hnn] at u3;refine DK.ok ⟨h8,by simp only;omega,by simp only;omega,fun x hx=>?_⟩;simp only[Option.some.injEq] at hx;subst hx;rw[hnn];exact⟨Lr (I9 (JF h7) fun x hx=>JF (ha x (List.mem_of_mem_drop hx))) An,h9,by omega⟩
  rw[L4 hcw hn hr he];exact hnone
variable (hW:l7 S J cnt C n W)
include hW
theorem Z0 {h:Tm}{a:List Tm}{s:σ}(hn:100≤n) (hj:J s) (ho:S.over s=false) (ha:∀x∈a,okB x=true) (hz:size h+Ba a+a.length+(C - cnt s)*4500≤90100000) (hf:size h+Ba a+a.length+(C - cnt s)*4501+100≤n+1) :
  DK (EU E S W n h a s) (ZG S J cnt C s (size h+Ba a+a.length)):=by
 have hC:=hS.hC;have hc:=hS.nov s hj ho;have hh:=size_pos h;have hnone:DK (.ok (none,s)) (ZG S J cnt C s (size h+Ba a+a.length)):=DK.ok ⟨hj,Nat.le_refl _,by simp only;omega,fun x hx=>by cases hx⟩;cases hu:Tj E h with
 | false=>rw[JQ hu];exact hnone
 | true =>
  obtain⟨i,d,h1,h2,hd,h3⟩:=Kk hu;have hg:=hE.g.all d hd;by_cases k1:(Bp E h.name).1.kind=1
  ·rw[I5 hu h3 k1];exact bM hS hj hc hg.vl (hE.vl d hd) ha An
  by_cases k5:(Bp E h.name).1.kind=5
  ·rw[Hp hu h3 k5];by_cases hl:(a.length:Int)≤CT d
   ·rw[Ow hl];exact hnone
   have hni:=(GK hg.din hg.fx).1;have hf0:=hg.fx.1;have hlt:(CT d).toNat<a.length:=by unfold CT at *;omega
   have hy:=List.getElem?_eq_getElem hlt;have hym:=List.getElem_mem hlt;have hys:=Fx hym;rw[R5 hl hy];refine DK.chk (hW s _ ⟨hj,ha _ hym,fun _=>by omega,fun _=>by omega,by omega⟩) fun r hr=>⟨hr.ok,?_⟩;have hub:=hr.ub ho;have hsz:=hr.sz;have hle:=hr.le;refine DK.mono (fP hS hE hd hr.j An hr.ok ha (z:=Ba a+a.length+(cnt r.2 - cnt s)*4500) hy An An) fun q hq=>?_;obtain⟨q1,q2,q3,q4⟩:=hq;exact⟨q1,by omega,by omega,fun x hx=>by obtain⟨q5,q6,q7⟩:=q4 x hx;exact⟨q5,by omega,by omega⟩⟩
  by_cases k6:(Bp E h.name).1.kind=6
  ·obtain⟨k,f,h4,h5⟩:=h2.func k6;have hf3:d.funs[(Bp E h.name).1.item.toNat]?=some f:=by rw[h5];simpa using h4
   have hfm:=List.mem_of_getElem? h4;obtain⟨f1,f2,f3⟩:=hg.fu f hfm;rw[HH hu h3 k6 hf3];by_cases hl:(a.length:Int)<f.arity
   ·rw[Ki hl];exact hnone
   rw[Kj hl];have hts:=DW a f.arity.toNat;refine DK.bind (R2 hS hE hW (V:=size h+Ba a+a.length - 1+(C - cnt s)*4500) (L:=60000000) An n f.tree (a.take f.arity.toNat) Bc s (size h+Ba a+a.length) (by have:=hE.fu d hd f hfm;omega) f3 An (by have:=hE.fu d hd f hfm;rw[List.length_take];omega) (by have:=hE.fu d hd f hfm;omega)
    ⟨hj,fun v hv=>ha v (List.mem_of_mem_take hv),IL,fun _ v hv=>by have:=Fx (List.mem_of_mem_take hv);omega,fun _ v hv=>by have:=Fx (List.mem_of_mem_take hv);omega,fun _=>?_,fun v hv=>by have:=Fx (List.mem_of_mem_take hv);omega,by have:size Bc=1:=rfl;omega⟩) fun q hq=>?_
   ·have:size Bc=1:=rfl;have:1≤a.length:=by omega
    omega
   have hub:=hq.ub ho;have hle:=hq.le;have hstop:DK (.ok (none,q.2)) (ZG S J cnt C s (size h+Ba a+a.length)):=DK.ok ⟨hq.j,hq.le,by simp only;omega,fun x hx=>by cases hx⟩;unfold PH;cases hq1:q.1.1 with
   | none=>exact hstop
   | some bv =>
    obtain⟨b,vars⟩:=bv;obtain⟨o1,o2⟩:=hq.ok b vars hq1;simp only;cases hov:S.over q.2 with
    | true=>rw[if_pos rfl];exact hstop
    | false =>
     rw[if_neg Ao];have hc2:=hS.nov _ hq.j hov;refine DK.mono (gC hS (z:=Ba a+a.length) hq.j hc2 o1 o2 (by have:=(hq.vl b vars hq1).1;omega) (hq.vl b vars hq1).2 (fun x hx=>ha x (List.mem_of_mem_drop hx)) (by rw[List.length_drop];omega) An) fun r hr=>?_;obtain⟨q1,q2,q3,q4⟩:=hr;exact⟨q1,by omega,by omega,fun x hx=>by obtain⟨q5,q6,q7⟩:=q4 x hx;exact⟨q5,by omega,by omega⟩⟩
  rw[IK hu k1 k5 k6];exact hnone
end
theorem GY {h:Tm}(ho:okB h=true) {i:Nat}(hi:(i:Int)<arity h.kind):∃x,h.kids[i]?=some x∧okB x=true∧size x<size h:=by
 obtain⟨k,j,n,l,ks⟩:=h;have hw:=(CM.1 ho).wt;simp only[Wt] at hw;simp only[Tm.kind] at hi;have hlt:i<ks.length:=by have:=hw.1;omega
 have hx:(Tm.mk k j n l ks).kids[i]?=some ks[i]:=List.getElem?_eq_getElem hlt;exact⟨ks[i],hx,F6 ho hx,by have:=Cc (List.getElem?_eq_getElem hlt);simp only[size];omega⟩
section
variable {σ:Type}{S:Sys σ}{J:σ→Prop}{cnt:σ→Nat}{C:Nat}{E:List CH}
variable (hS:XS S J cnt C) (hE:Gh E)
include hS
theorem im {β:Type}{s:σ}{x:Tm×Int}{k:Tm→σ→Out β}{q:β→Prop}(hj:J s) (hc:cnt s<1152921504606846976) (ho:okB x.1=true) (hk:∀s',J s'→cnt s'=cnt s+1→DK (k x.1 s') q):DK (S.put s x k) q :=
 DK.put ho fun s' hs'=>by obtain⟨h1,h2⟩:=hS.res _ _ _ _ hj hc ho hs';exact hk s' h1 h2
theorem m4 {β:Type}{h:Tm}{a:List Tm}{s:σ}{k:Tm→σ→Out β}{q:β→Prop}(hj:J s) (hc:cnt s<1152921504606846976) (hh:okB h=true) (ha:∀x∈a,okB x=true) (hk:h.kind=5) (hl:a.length≠0) (hz:Ba a+a.length<500000000000)
  (hq:∀x s',J s'→cnt s'=cnt s+1→okB x=true→size x≤4096+Ba a+a.length→DK (k x s') q):DK (N0 S h a s k) q:=by
 obtain⟨b,hb,ho,hs⟩:=GY hh (i:=1) (by rw[hk];decide);rw[N0,hb];simp only;have hv:∀v∈a.take 1,okB v=true:=fun v hv=>ha v (List.mem_of_mem_take hv);have h1:=KH ho hv (by rw[List.length_take];omega);have h2:=JN ho hv;refine im hS hj hc h1 fun s' g1 g2=>?_;have h3:=DW a 1;have h4:=C8 (a.drop 1) (CJ b (a.take 1) 0).1;have h5:(a.drop 1).length≤a.length:=by rw[List.length_drop];omega
 exact hq _ s' g1 g2 (Kh h1 (fun x hx=>ha x (List.mem_of_mem_drop hx)) An) An
theorem r9 {β:Type}{h:Tm}{a:List Tm}{s:σ}{k:Tm→σ→Out β}{q:β→Prop}(hj:J s) (hc:cnt s<1152921504606846976) (hh:okB h=true) (ha:∀x∈a,okB x=true) (hk:h.kind=11) (hz:Ba a+a.length<500000000000)
  (hq:∀x s',J s'→cnt s'=cnt s+1→okB x=true→size x≤4096+Ba a+a.length→DK (k x s') q):DK (U2 S h a s k) q:=by
 obtain⟨v,hv,ho,hs⟩:=GY hh (i:=1) (by rw[hk];decide);obtain⟨b,hb,ho2,hs2⟩:=GY hh (i:=2) (by rw[hk];decide);rw[U2,hv,hb];simp only;have hvs:∀x∈[v],okB x=true:=fun x hx=>by rw[List.mem_singleton.1 hx];exact ho
 have h1:=KH ho2 hvs Ao;have h2:=JN ho2 hvs;refine im hS hj hc h1 fun s' g1 g2=>?_;have h4:=C8 a (CJ b [v] 0).1;exact hq _ s' g1 g2 (Kh h1 ha An) An
theorem oz {β:Type}{h p:Tm}{a:List Tm}{s:σ}{k:Tm→σ→Out β}{q:β→Prop}(hj:J s) (hc:cnt s<1152921504606846976) (hp:okB p=true) (ha:∀x∈a,okB x=true) (hk:h.kind=9∨h.kind=10) (h8:p.kind=8) (hz:size p+Ba a+a.length<540000000000)
  (hq:∀x s',J s'→cnt s'=cnt s+1→okB x=true→size x<size p+Ba a+a.length→DK (k x s') q):DK (My S h p a s k) q:=by
 have har:arity 8=3:=rfl;obtain⟨y,hy,ho,hs⟩:=GY hp (i:=(1+h.kind - 9).toNat) (by rw[h8,har];omega);rw[My,hy];simp only;refine im hS hj hc ho fun s' g1 g2=>?_;have h4:=C8 a y;exact hq (apply y a) s' g1 g2 (Kh ho ha An) An
include hE
theorem bh:∀n,l7 S J cnt C n (EA E S n)
 | 0=>fun s t hp=>absurd hp.n1 An
 | n+1=>fun s t hp=>by
  have ih:=bh n;have hC:=hS.hC;cases ho:S.over s with
  | true=>rw[YT hp.ok ho];exact DK.ok ⟨hp.j,hp.ok,Nat.le_refl _,by simp,fun h=>absurd (ho.symm.trans h) Ao,fun _=>rfl⟩
  | false =>
   have hc:=hS.nov s hp.j ho;have hpm:=hp.pm ho;have hfu:=hp.fu ho;have hst:=size_pos t;have hss:=HF t;obtain⟨oh,oa⟩:=Hj hp.ok;have hsame:∀s',J s'→cnt s≤cnt s'→cnt s'≤C+1+size t+(C - cnt s)*4500→DK (.ok (t,s')) (Vu S J cnt C s t):=fun s' g1 g2 g3 =>
    DK.ok ⟨g1,hp.ok,g2,by simp only;omega,fun _=>g3,fun e=>absurd (ho.symm.trans e) Ao⟩
   have cont:∀(x:Tm) (s':σ),J s'→okB x=true→cnt s+1≤cnt s'→size x≤size t+(cnt s' - cnt s)*4500→cnt s'≤C+1+size t+(C - cnt s)*4500→DK (EA E S n s' x) (Vu S J cnt C s t):=by
    intro x s' g1 g2 g3 g4 g5;refine DK.mono (ih s' x ⟨g1,g2,fun h=>by have:=hS.nov _ g1 h;omega,fun h=>by have:=hS.nov _ g1 h;omega,by omega⟩) fun r hr=>?_;have hle:=hr.le;have hsz:=hr.sz;refine⟨hr.j,hr.ok,by omega,by omega,fun _=>?_,fun e=>absurd (ho.symm.trans e) Ao⟩;cases hov:S.over s' with
    | true=>rw[hr.st hov];exact g5
    | false=>have:=hr.ub hov;have:=hS.nov _ g1 hov;omega
   cases hm:S.many (BA t).2.length with
   | true=>rw[ZQ hp.ok ho hm];trivial
   | false =>
    by_cases k5:(BA t).1.kind=5
    ·by_cases hl:(BA t).2.length=0
     ·rw[OM hp.ok ho hm k5 hl];exact hsame s hp.j (Nat.le_refl _) An
     obtain⟨b,hb,_⟩:=GY oh (i:=1) (by rw[k5];decide);have e:=RP (E:=E) (n:=n) hp.ok ho hm k5 hl hb;rw[e];have hbt:=m4 hS (k:=fun x s'=>EA E S n s' x) (q:=Vu S J cnt C s t) hp.j An oh oa k5 hl An fun x s' g1 g2 g3 g4=>cont x s' g1 g3 An An An;rw[N0,hb] at hbt;exact hbt
    by_cases k11:(BA t).1.kind=11
    ·obtain⟨v,hv,_⟩:=GY oh (i:=1) (by rw[k11];decide);obtain⟨b,hb,_⟩:=GY oh (i:=2) (by rw[k11];decide);rw[R7 (E:=E) (n:=n) hp.ok ho hm k11 hv hb];have hbt:=r9 hS (k:=fun x s'=>EA E S n s' x) (q:=Vu S J cnt C s t) hp.j An oh oa k11 An fun x s' g1 g2 g3 g4=>cont x s' g1 g3 An An An;rw[U2,hv,hb] at hbt;exact hbt
    by_cases k9:(BA t).1.kind=9∨(BA t).1.kind=10
    ·obtain⟨p,hpk,op,sp⟩:=GY oh (i:=0) (by rcases k9 with h | h<;>rw[h]<;>decide);rw[OL (E:=E) (n:=n) hp.ok ho hm k9 hpk];refine DK.chk (ih s p ⟨hp.j,op,fun _=>by omega,fun _=>by omega,by omega⟩) fun r hr=>⟨hr.ok,?_⟩;have hub:=hr.ub ho;have hsz:=hr.sz;have hle:=hr.le;by_cases k8:r.1.kind=8
     ·have e:P1 E S n (BA t).1 (BA t).2 r=My S (BA t).1 r.1 (BA t).2 r.2 fun x s'=>EA E S n s' x:=by rw[P1,if_neg An]
      rw[e];exact oz hS hr.j An hr.ok oa k9 k8 An fun x s' g1 g2 g3 g4=>cont x s' g1 g3 An An An
     rw[Lu k8];have h4:=C8 (BA t).2 (Ip (BA t).1.kind r.1);have h5:size (Ip (BA t).1.kind r.1)=1+size r.1:=by simp only[Ip,size,Ba];omega
     have h6:1+size p≤size (BA t).1:=by omega
     exact DK.ok ⟨hr.j,Kh (iW k9 hr.ok An) oa An,hle,by simp only;omega,fun _=>by simp only;omega,fun e=>absurd (ho.symm.trans e) Ao⟩
    by_cases k3:(BA t).1.kind=3
    ·rw[KZ (E:=E) (n:=n) hp.ok ho hm k3];refine DK.bind (Z0 hS hE ih An hp.j ho oa An An) fun r hr=>?_;have hub:=hr.ub;unfold Yo;cases hr1:r.1 with
     | none=>exact hsame r.2 hr.j hr.le An
     | some x =>
      obtain⟨g1,g2,g3⟩:=hr.ok x hr1;exact cont x r.2 hr.j g1 g2 An An
    rw[VG (E:=E) (n:=n) hp.ok ho hm k5 k11 (fun h=>k9 (.inl h)) (fun h=>k9 (.inr h)) k3];exact hsame s hp.j (Nat.le_refl _) An
end
def UP:Tm→List Int→Tm→Prop
 | t,[],v=>t=v
 | t,p::ps,v=>∃y,(BA t).2[p.toNat]?=some y∧UP y ps v
theorem TD {k:Int}{w:Tm}:∀{ps:List Int}{t v:Tm},UP t ps v→(BA v).2[k.toNat]?=some w→UP t (ps++[k]) w
 | [],t,v,h,hw=>by cases h;exact⟨w,hw,rfl⟩
 | p::ps,t,v,⟨y,h1,h2⟩,hw=>⟨y,h1,TD h2 hw⟩
structure du (a vars:List Tm) (pl:List (Int×List Int)):Prop where
 len:pl.length=vars.length
 at_:∀(i:Nat) v,vars[i]?=some v→∃j path y,pl[i]?=some (j,path)∧a[j.toNat]?=some y∧UP y path v
theorem Ks (p:Int×List Int) (fx:Int) (n:Nat):(Ea p fx n).length=n:=by simp[Ea]
theorem du.more {a vars:List Tm}{pl:List (Int×List Int)}(h:du a vars pl) {i:Nat}{v:Tm}{p:Int×List Int}(hv:vars[i]?=some v) (hp:pl[i]?=some p) {fx:Int}(hfx:0≤fx):du a (vars++(BA v).2.drop fx.toNat) (pl++Ea p fx ((BA v).2.drop fx.toNat).length):=by
 refine⟨by rw[List.length_append,List.length_append,h.len,Ks],fun q w hw=>?_⟩;by_cases hq:q<vars.length
 ·rw[List.getElem?_append_left hq] at hw;rw[List.getElem?_append_left (by rw[h.len];exact hq)];exact h.at_ q w hw
 rw[List.getElem?_append_right An] at hw;rw[List.getElem?_append_right (by rw[h.len];omega),h.len];obtain⟨j,path,y,h1,h2,h3⟩:=h.at_ i v hv;rw[hp] at h1;cases h1;have hlt:=(List.getElem?_eq_some_iff.1 hw).1;rw[List.getElem?_drop] at hw;refine⟨j,path++[fx+((q - vars.length:Nat):Int)],y,?_,h2,TD h3 (by rw[show (fx+((q - vars.length:Nat):Int)).toNat=fx.toNat+(q - vars.length) by omega];exact hw)⟩;rw[Ea,List.getElem?_map,List.getElem?_range hlt];rfl
theorem aT (a:List Tm) (n:Nat) (hn:n≤a.length):du a (a.take n) ((List.range n).map fun i:Nat=>((i:Int),[])):=by
 refine⟨by simp;omega,fun i v hv=>?_⟩;have hlt:=(List.getElem?_eq_some_iff.1 hv).1;rw[List.length_take] at hlt;rw[List.getElem?_take_of_lt An] at hv;exact⟨(i:Int),[],v,by rw[List.getElem?_map,List.getElem?_range An];rfl,by simpa using hv,rfl⟩
section
variable {σ:Type}{S:Sys σ}{J:σ→Prop}{cnt:σ→Nat}{C:Nat}{E:List CH}
structure s9 (S:Sys σ) (J:σ→Prop) (cnt:σ→Nat) (s:σ) (z:Nat) (r:Option Tm×σ):Prop where
 j:J r.2
 le:cnt s≤cnt r.2
 ub:cnt r.2≤cnt s+1
 ok:∀x,r.1=some x→okB x=true∧size x≤z+4500
variable (hS:XS S J cnt C) (hE:Gh E)
omit hS hE in
include hS
include hE
end
section
variable {σ:Type}{S:Sys σ}{J:σ→Prop}{cnt:σ→Nat}{C:Nat}{E:List CH}
variable (hS:XS S J cnt C) (hE:Gh E)
include hS hE
theorem Y4 {n:Nat}{t:Es}{a:List Tm}{s:σ}(hj:J s) (hc:cnt s≤C) (ht:FC t) (hd:Dl t≤50) (ha:∀x∈a,okB x=true∧size x≤100000) (hl:a.length≤1000) (hsz:Ba a≤100000000) (hn:100000+20000*4501+200≤n) :
  DK (Gn E S n t a s) (fun r=>J r.2∧∀x,r.1=some x→okB x=true):=by
 have hC:=hS.hC;unfold Gn;have hz1:size Bc=1:=rfl;refine DK.bind (R2 hS hE (bh hS hE n) (V:=90100000) (L:=60000000) An n t a Bc s 100000 An ht An An An
  ⟨hj,fun v hv=>(ha v hv).1,IL,fun _ v hv=>by have:=(ha v hv).2;omega,fun _ v hv=>by have:=(ha v hv).2;omega,fun _=>⟨by omega,by omega⟩,fun v hv=>(ha v hv).2,by omega⟩) fun q hq=>?_
 cases hq1:q.1.1 with
 | none=>exact DK.ok ⟨hq.j,fun x e=>by simp at e⟩
 | some bv =>
  obtain⟨b,vars⟩:=bv;obtain⟨o1,o2⟩:=hq.ok b vars hq1;simp only;rw[if_neg (by simp only[not_or,Bool.not_eq_false];exact⟨o1,List.all_eq_true.2 o2,by have:=(hq.vl b vars hq1).2;omega⟩)];have hvr:∀v∈vars.reverse,okB v=true:=fun v hm=>o2 v (List.mem_reverse.1 hm);have hvl:=(hq.vl b vars hq1).1;have h2:=KH o1 hvr (by rw[List.length_reverse];omega);refine im hS hq.j ?_ h2 fun s' h4 h5=>DK.ok ⟨h4,fun x e=>?_⟩
  ·cases h:S.over s with
   | true=>rw[hq.st h];omega
   | false=>have:=hq.ub h;omega
  simp only[Option.some.injEq] at e;subst e;exact h2
end
def mD (c:EP):Prop:=c.limit=1000∧0≤c.steps∧(c.over=false→c.steps≤1000)
theorem jE:XS DU mD (fun c=>c.steps.toNat) 1000:=by
 refine⟨fun c h ho=>?_,fun c t e c' h hc ho hr=>?_,by omega⟩
 ·have h1:=h.2.1;have h2:=h.2.2 ho;omega
 simp only[DU,Option.some.injEq] at hr;subst hr;obtain⟨h1,h2,h3⟩:=h;have hw:wr (c.steps+1)=c.steps+1:=EY (by unfold Iz;omega);simp only[EP.result,EP.form,mD,hw,h1];refine⟨⟨Ap,by omega,fun ho=>?_⟩,by omega⟩;simp only[Bool.or_eq_false_iff,decide_eq_false_iff_not] at ho;omega
def Gg (n:Int):Prop:=0≤n∧n≤20000
theorem jy:XS B1 Gg (fun n=>(20000 - n).toNat) 20000:=by
 refine⟨fun n h _=>?_,fun n t e n' h hc ho hr=>?_,by omega⟩
 ·have:=h.1;omega
 simp only[B1] at hr;split at hr
 ·cases hr
 cases hr;unfold Gg at *;omega
theorem Ob {E:List CH}{nm:ByteArray}(h:(Cf E nm).2.2=true):Ha E nm=some ((Cf E nm).1,(Cf E nm).2.1):=by
 unfold Cf at h ⊢;split at h
 ·rename_i d j e;rw[e]
 cases h
theorem jO {E:List CH}{nm:ByteArray}(h:(Cf E nm).2.2=false):Ha E nm=none:=by
 unfold Cf at h;split at h
 ·cases h
 rename_i e;exact e
theorem XZ {E:List CH}{nm:ByteArray}(hE:Je E) (h:(Cf E nm).2.2=true) (hj:¬(Cf E nm).2.1<0):Ns (Cf E nm).1∧(0≤(Cf E nm).1.fixed∧(Cf E nm).1.fixed≤1000000)∧0≤(Cf E nm).2.1∧(Cf E nm).2.1<(Cf E nm).1.ctors.length:=by
 obtain⟨h1,h2⟩:=S3 (Ob h);exact⟨(hE.all _ h1).din,(hE.all _ h1).fx,by omega,h2 An⟩
section
variable {E:List CH}{t:Tm}{k i:Int}{n:ByteArray}{ls:List CV}{ks:List Tm}
theorem ZO (hz:(BA t).1= .mk k i n ls ks) (h:k≠3):DD E t=none:=by
 have hk:(BA t).1.kind=k:=by rw[hz];rfl
 unfold DD;rw[if_pos An]
theorem Yc (hz:(BA t).1= .mk k i n ls ks) (h3:k=3) (h:(Cf E n).2.2=false∨(Cf E n).2.1<0):DD E t=none:=by
 have hk:(BA t).1.kind=k:=by rw[hz];rfl
 have hnm:(BA t).1.name=n:=by rw[hz];rfl
 unfold DD;rw[if_neg An,hnm];cases hf:(Cf E n).2.2 with
 | false=>rw[jO hf]
 | true =>
  rw[Ob hf];rcases h with h | h
  ·rw[hf] at h;cases h
  simp only[if_pos h]
theorem Yj (hz:(BA t).1= .mk k i n ls ks) (h3:k=3) (hf:(Cf E n).2.2=true) (hj:¬(Cf E n).2.1<0) (h:((BA t).2.length:Int)≠(Cf E n).1.fixed+FH (Cf E n).1 (Cf E n).2.1):DD E t=none:=by
 have hk:(BA t).1.kind=k:=by rw[hz];rfl
 have hnm:(BA t).1.name=n:=by rw[hz];rfl
 unfold DD;rw[if_neg An,hnm,Ob hf];simp only[if_neg hj,if_pos h]
theorem dP (hz:(BA t).1= .mk k i n ls ks) (h3:k=3) (hf:(Cf E n).2.2=true) (hj:¬(Cf E n).2.1<0) (h:((BA t).2.length:Int)=(Cf E n).1.fixed+FH (Cf E n).1 (Cf E n).2.1):DD E t=some ((Cf E n).1,(Cf E n).2.1,(BA t).2.drop (Cf E n).1.fixed.toNat):=by
 have hk:(BA t).1.kind=k:=by rw[hz];rfl
 have hnm:(BA t).1.name=n:=by rw[hz];rfl
 unfold DD;rw[if_neg An,hnm,Ob hf];simp only[if_neg hj,if_neg (show ¬((BA t).2.length:Int)≠(Cf E n).1.fixed+FH (Cf E n).1 (Cf E n).2.1 by omega)]
end
theorem NU {d:CH}{j:Int}(h:Ns d) (h0:0≤j) (h1:j<d.ctors.length) (hf:0≤d.fixed):0≤FH d j∧FH d j≤1000000:=by
 have hlt:j.toNat<d.ctors.length:=by omega
 have hx:=List.getElem?_eq_getElem hlt;have hs:=(h.cs _ (List.getElem_mem hlt)).ty.sz;have hl:=IT d.ctors[j.toNat].type;unfold FH X2 En;rw[CW hx];omega
section
variable {E:List CH}{t:Tm}{k i:Int}{n:ByteArray}{ls:List CV}{ks:List Tm}
theorem il (hz:(BA t).1= .mk k i n ls ks) (h3:k=3) (h:(Cf E n).2.2=false∨(Cf E n).2.1<0∨((BA t).2.length:Int)≠(Cf E n).1.fixed+FH (Cf E n).1 (Cf E n).2.1):DD E t=none:=by
 by_cases h1:(Cf E n).2.2=false∨(Cf E n).2.1<0
 ·exact Yc hz h3 h1
 rcases h with h | h | h
 ·exact absurd (.inl h) h1
 ·exact absurd (.inr h) h1
 exact Yj hz h3 (by simpa using fun e=>h1 (.inl e)) (fun e=>h1 (.inr e)) h
end
theorem Qw {d:CH}{j:Int}{x:IX}(hx:d.ctors[j.toNat]?=some x) (hf:0≤d.fixed):d.fixed+FH d j=max d.fixed (((G8 x.type).1.length:Nat):Int):=by
 unfold FH X2 En;rw[CW hx];omega
def CO (E:List CH) (t:Tm):CH×Int×List Tm×Bool:=match DD E t with
 | some (d,j,l)=>(d,j,l,true)
 | none=>(VO,0,[],false)
theorem Mk {E:List CH}{t:Tm}(h:DD E t=none):CO E t=(VO,0,[],false):=by unfold CO;rw[h]
theorem Qp {E:List CH}{t:Tm}{d:CH}{j:Int}{l:List Tm}(h:DD E t=some (d,j,l)):CO E t=(d,j,l,true):=by unfold CO;rw[h]
theorem MT {E:List CH}{t:Tm}(h:(CO E t).2.2.2=true):DD E t=some ((CO E t).1,(CO E t).2.1,(CO E t).2.2.1):=by
 cases e:DD E t with
 | none=>rw[Mk e] at h;cases h
 | some q=>obtain⟨d,j,l⟩:=q;rw[Qp e]
theorem Ot {E:List CH}{t:Tm}(h:(CO E t).2.2.2=false):DD E t=none:=by
 cases e:DD E t with
 | none=>rfl
 | some q=>obtain⟨d,j,l⟩:=q;rw[Qp e] at h;cases h
end Go.Eu
namespace Go.Eu
def Mu (nm:ByteArray):List GQ→Int→Int
 | [],_=> -1
 | b::l,i=>if b.ctor=nm then i else Mu nm l (i+1)
theorem gR {nm:ByteArray}{l:List GQ}{i:Nat}{x:GQ}{k:Int}(h:l[i]?=some x) (e:x.ctor.toList=nm.toList):Mu nm (l.drop i) k=k:=by
 rw[Cj h,Mu,if_pos (Gu e)]
theorem lV {nm:ByteArray}{l:List GQ}{i:Nat}{x:GQ}{k:Int}(h:l[i]?=some x) (e:¬x.ctor.toList=nm.toList):Mu nm (l.drop i) k=Mu nm (l.drop (i+1)) (k+1):=by
 rw[Cj h,Mu,if_neg (fun q=>e (by rw[q]))]
theorem Xx {nm:ByteArray}:∀(l:List GQ) (k:Int),0≤k→Mu nm l k<0∧Cp nm l=none∨∃(j:Nat) (x:GQ),Mu nm l k=k+j∧l[j]?=some x∧Cp nm l=if x.absurd=true then none else some x.tree
 | [],k,h=> .inl ⟨by simp[Mu],rfl⟩
 | b::l,k,h=>by
  rw[Mu,Cp];split
  ·exact .inr ⟨0,b,by simp,rfl,rfl⟩
  rcases Xx l (k+1) An with h1 | ⟨j,x,h1,h2,h3⟩
  ·exact .inl h1
  exact .inr ⟨j+1,x,by rw[h1];push_cast;omega,by simpa using h2,h3⟩
theorem dG {nm:ByteArray}{l:List GQ}(h:Mu nm l 0<0):Cp nm l=none:=by
 rcases Xx (nm:=nm) l 0 An with h1 | ⟨j,x,h1,h2,h3⟩
 ·exact h1.2
 omega
theorem kj {nm:ByteArray}{l:List GQ}(h:¬Mu nm l 0<0):∃x,l[(Mu nm l 0).toNat]?=some x∧Cp nm l=if x.absurd=true then none else some x.tree:=by
 rcases Xx (nm:=nm) l 0 An with h1 | ⟨j,x,h1,h2,h3⟩
 ·exact absurd h1.1 h
 exact⟨x,by rw[h1];simpa using h2,h3⟩
end Go.Eu
namespace Go.Eu
open Go.Abs
theorem dj {nm:ByteArray}:∀{l:List GQ}{t:Es},Cp nm l=some t→NM l→HS t
 | .mk c a q::l,t,h,ho=>by
  simp only[NM,Q0] at ho;rw[Cp] at h;split at h
  ·split at h
   ·cases h
   cases h;exact ho.1.2
  exact dj h ho.2
theorem pD {nm:ByteArray}{t t':Es}(h:Cp nm t.branches=some t') (ho:HS t):HS t':=dj h ho.bs
def JB (q:Option (Tm×List Tm)×Tm):Tm:=match q.1 with
 | some (b,_)=>b
 | none=>Bc
def LG (q:Option (Tm×List Tm)×Tm):List Tm:=match q.1 with
 | some (_,v)=>v
 | none=>[]
structure ON (y:Es) (us:List Tm):Prop where
 tin:HS y
 tok:FC y
 len:us.length+Dl y*1000000≤100000000
 ok:∀v∈us,okB v=true
theorem ON.next {E:List CH}{y q:Es}{us f:List Tm}{x:Tm}{nm:ByteArray}{d:CH}{j:Int}(h:ON y us) (hE:Je E) (hx:okB x=true) (hc:DD E x=some (d,j,f)) (hb:Cp nm y.branches=some q):ON q (us++f):=by
 obtain⟨h1,h2⟩:=XN hb h.tok;have h3:=JO hE hc;have h4:=h.len;refine⟨pD hb h.tin,h1,by rw[List.length_append];omega,fun v hv=>?_⟩;rcases List.mem_append.1 hv with hv | hv
 ·exact h.ok v hv
 exact((Jw hc hx).1 v hv).1
def XE:Es:= .mk 0 Bc 0 []
def YJ (nm:ByteArray):List GQ→Es×Bool
 | []=>(XE,false)
 | b::l=>if b.ctor=nm then (b.tree,!b.absurd) else YJ nm l
theorem eL {nm:ByteArray}{l:List GQ}{i:Nat}{x:GQ}(h:l[i]?=some x):YJ nm (l.drop i)=if x.ctor=nm then (x.tree,!x.absurd) else YJ nm (l.drop (i+1)):=by rw[Cj h,YJ]
theorem dr (nm:ByteArray):∀(l:List GQ),Cp nm l=if (YJ nm l).2=true then some (YJ nm l).1 else none
 | []=>rfl
 | b::l=>by
  rw[Cp,YJ];split
  ·cases b.absurd<;>rfl
  exact dr nm l
theorem eu {nm:ByteArray}{l:List GQ}(h:(YJ nm l).2=true):Cp nm l=some (YJ nm l).1:=by rw[dr,if_pos h]
theorem gF {nm:ByteArray}{l:List GQ}(h:(YJ nm l).2=false):Cp nm l=none:=by rw[dr,if_neg (by simp[h])]
def bT (nm:ByteArray) (l:List GQ):Es×Bool:=match Cp nm l with
 | some q=>(q,true)
 | none=>(XE,false)
theorem dQ {nm:ByteArray}{l:List GQ}(h:Cp nm l=none):bT nm l=(XE,false):=by unfold bT;rw[h]
theorem fQ {nm:ByteArray}{l:List GQ}{q:Es}(h:Cp nm l=some q):bT nm l=(q,true):=by unfold bT;rw[h]
theorem Wn {nm:ByteArray}{l:List GQ}(h:(bT nm l).2=true):Cp nm l=some (bT nm l).1:=by
 cases e:Cp nm l with
 | none=>rw[dQ e] at h;cases h
 | some q=>rw[fQ e]
theorem WQ {nm:ByteArray}{l:List GQ}(h:(bT nm l).2=false):Cp nm l=none:=by
 cases e:Cp nm l with
 | none=>rfl
 | some q=>rw[fQ e] at h;cases h
end Go.Eu
namespace Go.Proofs.YtboammbpdaoojaaGreat
open Go.Abs Go.Eu
theorem _root_.Go.AQ {α:Prop}(h:α:=by simp only[BQ,List.length_map];omega):α:=h
theorem Vf:∀(ds:List CH) (t:Tm),(Je ds)→(okB t=true)→EZ Tryz.prog 49 [.p (.lst (List.map Bh ds)),.agg ((BO t).map .p)] (.tup [.agg ((Bh ((CO ds t).1)).map .p),.p (I ((CO ds t).2.1)),.p (.lst (BE ((CO ds t).2.2.1))),.p (.bool ((CO ds t).2.2.2))]):=by
 intro ds t h1 h2;have ho:=CM.1 h2;have hosz:=ho.sz;have hoss:=HF t;have hosl:=Pa t;have hosp:=Hj h2;refine A5 Tryz.func49 O sm (n:=54) O O (Aw (BF O (BN O) fun b3=>BF O (A7 JP O) fun b4=>Ar Ay 3 [] O (Aw (Aq O (BT (i:=1) BY O O Ag) (Aq O (BC O O (VA _ t (Nat.le_refl _) AZ) O) (Ax Ay 3 [] O (BF O (A7 Bw O) fun b8=>Ar Ay 2 [0,1] O (As (Aw (Aq O (A0 HO O O) ?_))))))))));generalize hz:(BA t).1=z;obtain⟨zk,zi,zn,zl,zs⟩:=z;refine Ar Ay 2 [0] O (Av O (fun c=>?_) (fun c=>?_))
 ·(try simp only[sd,se] at c);refine Au Ay 5 [1,0] O (BH (BR (i:=1) O) (BH (D7 6) (Az (⟨O,_,_,⟨_,_,O,(A9 (i:=1) FW O O O),⟨_,_,O,O,⟨_,_,O,O,⟨_,_,O,O,O⟩⟩⟩⟩,(List.nil_sublist _),?_⟩))))
  all_goals exact⟨by show (.tup [.agg [.p (I 0),.p (.str ⟨#[]⟩),.p (I 0),.p (I 0),.p (I 0),.p (.str ⟨#[]⟩),.p (.lst []),.p (.lst []),.p (I 0),.p (I 0),.p (.str ⟨#[]⟩),.p (.lst []),.p (.lst []),.p (I 0),.p (.lst []),.p (I 0),.p (I 0),.p (I 0),.p (.str ⟨#[]⟩),.p (.lst []),.p (.lst []),.p (.lst []),.p (.lst [])],.p (I 0),.p (.lst (BE [])),.p (.bool false)]:AV)=_;rw[Mk (ZO hz c)];rfl,rfl⟩
 (try simp only[sd,se] at c);refine A1 (Aw (Ax Ay 3 [0] O (Aq O (BC O O (RF ds zn h1.env) O) (Ax Ay 4 [] O (BF O (A7 JP O) fun b10=>Ar Ay 3 [0,1] O (As (As (BS [4,9,10,11] 46 (fun y=>y= .p (.bool (((!((Cf ds zn).2.2))||(decide (((Cf ds zn).2.1:Int)<(0:Int))))||(((((BA t).2).length:Nat):Int) !=((((Cf ds zn).1).fixed:Int)+(FH (Cf ds zn).1 (Cf ds zn).2.1:Int):Int))))) ?_ ?_))))))))
 ·refine Bt (fun k=>false) Dn (BP Ay 3 [] O (Du 32 O (fun g=>?_) (fun g=>?_)))
  ·(try simp only[sd,se] at g);exact Bj Ay 14 [] O (⟨O,O,AK,AI,⟨O,O,O,O,Ap⟩⟩)
  (try simp only[sd,se] at g);have hf1:(Cf ds zn).2.2=true:=by simpa using g
  refine BP Ay 4 [] O (Du 36 O (fun g1=>?_) (fun g1=>?_))
  ·(try simp only[sd,se] at g1);exact Bj Ay 10 [] O (⟨O,O,AK,AI,⟨O,O,O,O,Ap⟩⟩)
  (try simp only[sd,se] at g1);have hf2:¬(Cf ds zn).2.1<0:=by simpa using g1
  have hfd:=XZ h1 hf1 hf2;have hfr:=NU hfd.1 hfd.2.2.1 hfd.2.2.2 hfd.2.1.1;have hfx:=hfd.2.1;exact CZ O (fun _=>BZ O) Ap (CZ O (fun _=>BK Be O (BQ _)) Ap (CZ O (fun _=>A0 Cz O O) Ap (Lz (i:=0) O O O O O (fun H i hi=>A3 (i:=i) DN O hi (Cn _)) AB Ap (BP Ay 2 [0] O (CZ O (fun _=>BC O O (Zf ((Cf ds zn).1) ((Cf ds zn).2.1) hfd.1 hfd.2.1 hfd.2.2.1 hfd.2.2.2) O) Ap (Bj Ay 3 [] O (⟨O,O,AK,AI,⟨O,O,O,O,Ap⟩⟩)))))))
 rintro _ rfl;refine Av O (fun c1=>?_) (fun c1=>?_)
 ·(try simp only[sd,se] at c1);have hcc:=or_assoc.1 c1;refine Au Ay 5 [2,0] O (BH (BR (i:=2) O) (BH (D7 6) (Az (⟨O,_,_,⟨_,_,O,(A9 (i:=2) FW O O O),⟨_,_,O,O,⟨_,_,O,O,⟨_,_,O,O,O⟩⟩⟩⟩,(List.nil_sublist _),?_⟩))))
  all_goals exact⟨by show (.tup [.agg [.p (I 0),.p (.str ⟨#[]⟩),.p (I 0),.p (I 0),.p (I 0),.p (.str ⟨#[]⟩),.p (.lst []),.p (.lst []),.p (I 0),.p (I 0),.p (.str ⟨#[]⟩),.p (.lst []),.p (.lst []),.p (I 0),.p (.lst []),.p (I 0),.p (I 0),.p (I 0),.p (.str ⟨#[]⟩),.p (.lst []),.p (.lst []),.p (.lst []),.p (.lst [])],.p (I 0),.p (.lst (BE [])),.p (.bool false)]:AV)=_;rw[Mk (il hz (by simpa using c) hcc)];rfl,rfl⟩
 (try simp only[sd,se] at c1);have hcc:(Cf ds zn).2.2=true∧¬(Cf ds zn).2.1<0∧((BA t).2.length:Int)=(Cf ds zn).1.fixed+FH (Cf ds zn).1 (Cf ds zn).2.1:=⟨c1.1.1,by omega,c1.2⟩;have hfd:=XZ h1 hcc.1 hcc.2.1;have hfr:=NU hfd.1 hfd.2.2.1 hfd.2.2.2 hfd.2.1.1;have hfx:=hfd.2.1;have hl3:=hcc.2.2;refine A1 (As (Bt (fun k=>false) Dn (BP Ay 4 [0] O (CU (j:=0) O O O (fun H i hi=>A3 (i:=i) DN O hi (Cn _)) AB Ap (BG O (fun _=>CY (lo:=(((Cf ds zn).1).fixed:Int).toNat) Be O (CF (Bv _)) ⟨_,pI An⟩ O AQ (Nat.le_refl _) (Jo ((BA t).2) ((((Cf ds zn).1).fixed:Int).toNat))) Ap (Bj Ay 4 [2,1] O (Az (⟨O,_,_,⟨_,_,O,(A9 (i:=2) FW O O Ad),⟨_,_,O,O,⟨_,_,O,O,⟨_,_,O,O,O⟩⟩⟩⟩,(List.nil_sublist _),?_⟩))))))))
 all_goals exact⟨by show (.tup [.agg ((Bh ((Cf ds zn).1)).map .p),.p (I ((Cf ds zn).2.1)),.p (.lst (BE (((BA t).2).drop ((((Cf ds zn).1).fixed:Int).toNat)))),.p (.bool true)]:AV)=_;rw[Qp (dP hz (by simpa using c) hcc.1 hcc.2.1 hcc.2.2)],rfl⟩
theorem mF:∀(l b1 b2:Nat) (d:CH) (at_:Int) (nm:ByteArray) (TA:GR→List BI) (T0:List BI),(d.kind=0∨Ns d)→(∀s e,(s,e)∈FU d at_→MD Tryz.prog l [.p (.str s),.agg ((DX e).map .p)] T0 (Vm (.p (.bool (!decide (s=nm)))) (fun T=>T=if s=nm then TA e else T0)))→Bo Tryz.prog 170 [.fn (.yield l) [] [],.ptr b2 0,.ptr b1 0] (.box b1 ((Bh d).map .p):: .box b2 [.p (I at_)]::T0) (Vm (.tup []) (fun H=>∃T,T=Iq TA T0 nm (FU d at_)∧H= .box b1 ((Bh d).map .p):: .box b2 [.p (I at_)]::T)):=by
 intro l b1 b2 d at_ nm TA T0 h1 h2;refine A5 Tryz.func170 O oG (n:=98) O O (Aw (Ax Ay 2 [1] O (Aq O (A3 (i:=0) DN O O (Co _)) (Aq O (A0 Cz O O) (Aq O (Bu (i:=0) BY O O (E2 _) (BD _)) (Aq O (CP GH Hw (fj O O O)) (BF O (A7 Hw O) fun b4=>Ar Ay 1 [0,1] O (Aw (Aq O (A0 Cz O O) (Aq O (A3 (i:=1) DN O O (D2 _)) (Bg O (A8 (As (Au Ay 2 [] O (BS [0,1,2,4,16] 17 (fun y=>y= .p (.bool (decide (d.kind=0∨d.kind=1∨d.kind=2)))) ?_ ?_)))))))))))))))
 ·refine Av O (fun c=>?_) (fun c=>?_)
  ·(try simp only[sd,se] at c);exact A1 (⟨O,O,(List.Sublist.refl _),(by refine pB (Bool.eq_iff_iff.2 ?_);simp only[beq_iff_eq,decide_eq_true_eq];omega),⟨O,O,O,O,O,Ap⟩⟩)
  (try simp only[sd,se] at c);refine Au Ay 2 [] O (Av O (fun c1=>?_) (fun c1=>?_))
  ·(try simp only[sd,se] at c1);exact A1 (⟨O,O,(List.Sublist.refl _),(by refine pB (Bool.eq_iff_iff.2 ?_);simp only[beq_iff_eq,decide_eq_true_eq];omega),⟨O,O,O,O,O,Ap⟩⟩)
  (try simp only[sd,se] at c1);exact A2 (Ar Ay 2 [] O (⟨O,O,(List.Sublist.refl _),(by refine pB (Bool.eq_iff_iff.2 ?_);simp only[beq_iff_eq,decide_eq_true_eq];omega),⟨O,O,O,O,O,Ap⟩⟩))
 rintro _ rfl;refine Av O (fun c=>?_) (fun c=>?_)
 ·(try simp only[sd,se] at c);have hx0:([0,1,2]:List Int)[d.kind.toNat]?=some d.kind:=by
   have:d.kind=0∨d.kind=1∨d.kind=2:=by simpa using c
   rcases this with e | e | e<;>rw[e]<;>rfl
  have hk0:0≤d.kind∧d.kind<3:=by
   have:d.kind=0∨d.kind=1∨d.kind=2:=by simpa using c
   omega
  refine Aw (Aq O (Bl Hh jJ O O O O O) (Aq O (A0 Cz O O) (Aq O (A3 (i:=1) DN O O (D2 _)) (Aq O (A4 Hh O O An (Lv hx0) (O)) (Ax Ay 2 [] O (Aq O (Dz (i:=0) (ds:=(DX (GR.mk d.kind at_ 0 d.params d.type)).map .p) DN O O O O O O O) (Bg O (A2 (Ax Ay 2 [] O (Aq O (A3 (i:=1) Ln O O (DH _)) (Aq O (BT (i:=0) Ld O O Ae) (I7 [_,_,_] O O O O (h2 _ _ (dh (by simpa using c))) O ?_ (fun _ _ h=>h.elim)))))))))))));rintro _ T ⟨rfl,hT⟩;refine Bg O ⟨O,_,_,O,(Gy [1,2] [_,_,_] O),?_⟩;exact⟨O,_,(hT.trans (YQ (by simpa using c)).symm),O⟩
 (try simp only[sd,se] at c);have hD:Ns d:=by
  rcases h1 with h | h
  ·exact absurd (show d.kind=0∨d.kind=1∨d.kind=2 from .inl h) (by simpa using c)
  exact h
 have hcl:=hD.cl;have hfl:=hD.fl;refine Au Ay 2 [] O (Av O (fun c1=>?_) (fun c1=>?_))
 ·(try simp only[sd,se] at c1);refine Aw (Aq O (A0 GH O O) (Aq O (Dz (i:=0) (ds:=(DX (GR.mk 3 at_ 0 d.params d.type)).map .p) DN O O O O O O O) (Bg O (As (Aw (Ax Ay 2 [] O (Aq O (A3 (i:=1) Ln O O (DH _)) (Aq O (BT (i:=0) Ld O O Ae) (I7 [_,_,_] O O O O (h2 _ _ (js (by simpa using c1))) O ?_ (fun _ _ h=>h.elim))))))))));rintro _ T ⟨rfl,hT⟩;refine Ar Ay 1 [] O (Av O (fun c2=>?_) (fun c2=>?_))
  ·(try simp only[sd,se] at c2);refine Az ⟨O,_,_,O,(Gy [1,2] [_,_,_] O),?_⟩;exact⟨O,_,(hT.trans ((if_pos (by simpa using c2)).trans (bL (by simpa using c1) (by simpa using c2)).symm)),O⟩
  (try simp only[sd,se] at c2);have qc2:¬(d.name=nm):=by simpa using c2
  rw[if_neg qc2] at hT;have hT:=hT.symm;subst hT;refine A1 (As (Aw (Aq O (A0 Cz O O) (Aq O (A3 (i:=1) Hg O O (B8 _)) (Aq O (BK HN O (List.length_map _)) (Ar Ay 1 [] O (A8 ?_)))))));refine Bb (α:=Nat) (fun i=>⟨98,mk [(0,.fn (.yield l) [] []),(1,.ptr b2 0),(2,.ptr b1 0),(42,.p (.lst (List.map Gp d.ctors))),(43,.p (I (d.ctors.length:Nat))),(44,.p (I (i:Int)))],(.box b1 ((Bh d).map .p):: .box b2 [.p (I at_)]::T0),[]⟩) (fun i=>d.ctors.length - i) (fun i=>i≤d.ctors.length∧(∀j,j<i→∀y,d.ctors[j]?=some y→y.name≠nm)) 0 (⟨by omega,fun j h=>by omega⟩) ?_ ?_
  ·exact BU ⟨we O,we O,we O,we O,we O,we O,Ap⟩ (ZV [1,2] [_,_,_] (l':=[_,_]) O (wl (oe O) (wl (oe O) (C3))))
  rintro i hC
  try simp only at hC
  obtain⟨hi,hC⟩:=hC;refine Au Ay 1 [] O (As (Av O (fun c3=>?_) (fun c3=>?_)))
  ·(try simp only[sd,se] at c3);refine A1 (As (A8 (Aw (Bq O ?_))));obtain⟨x,hx⟩:=A6 (l:=d.ctors) (i:=i) An;refine Aq O (A4 HN O O An (ES hx) (D5 _)) (Aq O (BM pq O (D5 _)) (BF O (A7 Ye O) fun b6=>Ar Ay 2 [0,1] O (Aw (Ax Ay 2 [] O (Aq O (A3 (i:=0) Ln O O (Fb _)) (Ax Ay 3 [2] O (Aq O (A3 (i:=1) DN O O (Co _)) (Aq O (A0 Ik O O) (Aq O (Bu (i:=0) BY O O (E4 _) (BD _)) (Aq O (CP GH Hw (OX O O O O O)) (I7 [_,_,_] O O O O (h2 _ _ (e8 (by simpa using c1) hx)) O ?_ (fun _ _ h=>h.elim))))))))))));rintro _ T1 ⟨rfl,hT1⟩;refine Ar Ay 1 [] O (Av O (fun c4=>?_) (fun c4=>?_))
   ·(try simp only[sd,se] at c4);refine Az ⟨O,_,_,O,(Gy [1,2] [_,_,_] O),?_⟩;exact⟨O,_,(hT1.trans ((if_pos (by simpa using c4)).trans (XP (by simpa using c1) qc2 hx (by simpa using c4) hC).symm)),O⟩
   (try simp only[sd,se] at c4);have qc4:¬(x.name=nm):=by simpa using c4
   rw[if_neg qc4] at hT1;have hT1:=hT1.symm;subst hT1;refine A1 (A2 (Ar Ay 2 [] O (⟨(i+1),AT,⟨by omega,Cu (p:=fun _ (y:IX)=>y.name≠nm) hC hx qc4⟩,BU ⟨we rfl,we rfl,we rfl,we rfl,we rfl,we rfl,trivial⟩ (ZV [1,2] [_,_,_] (l':=[_,_]) rfl (wl (oe rfl) (wl (oe rfl) (C3))))⟩)))
  (try simp only[sd,se] at c3);refine Bf (A2 (Ax Ay 2 [] O (Aq O (A3 (i:=0) Ln O O (DH _)) (Aq O (SF O O (by have:(⟨#[46,114,101,99]⟩:ByteArray).size=4:=rfl;have:=hD.nm;omega)) (Ax Ay 3 [1] O (Aq O (A3 (i:=0) DN O O (Dd _)) (Ax Ay 2 [] O (Aq O (Bu (i:=0) BY O O (Ev _) (BD _)) (Aq O (CP GH Hw (ZN O O O O)) (I7 [_,_] O O O O (h2 _ _ (gb (by simpa using c1))) O ?_ (fun _ _ h=>h.elim)))))))))));rintro _ T1 ⟨rfl,hT1⟩;refine Bg O ⟨O,_,_,O,(Gy [0,1] [_,_] O),?_⟩;exact⟨O,_,(hT1.trans (aS (by simpa using c1) qc2 fun j hj=>hC j An).symm),O⟩
 (try simp only[sd,se] at c1);refine Au Ay 2 [] O (Av O (fun c2=>?_) (fun c2=>?_))
 ·(try simp only[sd,se] at c2);refine Aw (Aq O (A0 Cz O O) (Aq O (A3 (i:=1) HY O O (CD _)) (Aq O (BK GB O (List.length_map _)) (Ar Ay 1 [] O (A8 ?_)))));refine Bb (α:=Nat) (fun i=>⟨98,mk [(0,.fn (.yield l) [] []),(1,.ptr b2 0),(2,.ptr b1 0),(78,.p (.lst (List.map Ec d.funs))),(79,.p (I (d.funs.length:Nat))),(80,.p (I (i:Int)))],(.box b1 ((Bh d).map .p):: .box b2 [.p (I at_)]::T0),[]⟩) (fun i=>d.funs.length - i) (fun i=>i≤d.funs.length∧(∀j,j<i→∀y,d.funs[j]?=some y→y.name≠nm)) 0 (⟨by omega,fun j h=>by omega⟩) ?_ ?_
  ·exact BU ⟨we O,we O,we O,we O,we O,we O,Ap⟩ (ZV [1,2] [_,_,_] (l':=[_,_]) O (wl (oe O) (wl (oe O) (C3))))
  rintro i hC
  try simp only at hC
  obtain⟨hi,hC⟩:=hC;refine Au Ay 1 [] O (As (Av O (fun c3=>?_) (fun c3=>?_)))
  ·(try simp only[sd,se] at c3);refine A1 (As (A8 (Aw (Bq O ?_))));obtain⟨x,hx⟩:=A6 (l:=d.funs) (i:=i) An;refine Aq O (A4 GB O O An (EO hx) (DJ _)) (Aq O (BM Zn O (DJ _)) (BF O (A7 Vx O) fun b8=>Ar Ay 2 [0,1] O (Aw (Ax Ay 2 [] O (Aq O (A3 (i:=0) Ln O O (Ix _)) (Ax Ay 3 [2] O (Aq O (A3 (i:=1) DN O O (Co _)) (Aq O (A0 Gv O O) (Aq O (Bu (i:=0) BY O O (Ir _) (BD _)) (Aq O (CP GH Hw (OX O O O O O)) (I7 [_,_,_] rfl rfl rfl rfl (h2 _ _ (jD (by simpa using c2) hx)) rfl ?_ (fun _ _ h=>h.elim))))))))))));rintro _ T ⟨rfl,hT⟩;refine Ar Ay 1 [] O (Av O (fun c4=>?_) (fun c4=>?_))
   ·(try simp only[sd,se] at c4);refine Az ⟨O,_,_,O,(Gy [1,2] [_,_,_] O),?_⟩;exact⟨O,_,(hT.trans ((if_pos (by simpa using c4)).trans (Zr (by simpa using c2) hx (by simpa using c4) hC).symm)),O⟩
   (try simp only[sd,se] at c4);have qc4:¬(x.name=nm):=by simpa using c4
   rw[if_neg qc4] at hT;have hT:=hT.symm;subst hT;refine A1 (A2 (Ar Ay 2 [] O (⟨(i+1),AT,⟨by omega,Cu (p:=fun _ (y:G7)=>y.name≠nm) hC hx qc4⟩,BU ⟨we rfl,we rfl,we rfl,we rfl,we rfl,we rfl,trivial⟩ (ZV [1,2] [_,_,_] (l':=[_,_]) rfl (wl (oe rfl) (wl (oe rfl) (C3))))⟩)))
  (try simp only[sd,se] at c3);refine Bf ⟨O,_,_,O,(Gy [0,1] [_,_] O),?_⟩;exact⟨O,_,(X9 (by simpa using c2) fun j hj=>hC j An).symm,O⟩
 (try simp only[sd,se] at c2);refine A1 ⟨O,_,_,O,(Gy [1,2] [_,_,_] O),?_⟩;exact⟨O,_,(Xn (by simpa using c) (by simpa using c1) (by simpa using c2)).symm,O⟩
theorem lU:∀(d:CH) (at_:Int),Bo Tryz.prog 144 [.agg ((Bh d).map .p),.p (I at_)] [] (fun r H'=>∃b1 b2,r= .val (.fn (.func 170) [] [.ptr b2 0,.ptr b1 0])∧H'=[.box b2 [.p (I at_)],.box b1 ((Bh d).map .p)]):=by
 intro d at_;refine A5 Tryz.func144 O nX (n:=6) O O (Aw (BF O (BN O) fun b2=>BF O (BN O) fun b3=>Ar Ay 1 [] O (Au Ay 2 [] O (Az (⟨O,_,_,⟨_,_,O,O,O⟩,(B4 (is:=[0,1]) O),?_⟩)))));exact⟨_,_,O,O⟩
theorem Ya:∀(ds:List CH) (nm:ByteArray),(ds.length<Dc)→(sW ds)→EZ Tryz.prog 116 [.p (.lst (List.map Bh ds)),.p (.str nm)] (.tup [.agg ((DX ((Bp ds nm).1)).map .p),.p (I ((Bp ds nm).2))]):=by
 intro ds nm h1 h2;simp only[Dc] at h1;refine FL Tryz.func116 O oH (n:=28) O O (Aw (BF O (BN O) fun b3=>BF O (A7 Hw O) fun b4=>BF O (A7 cP O) fun b5=>Bg O (As (Aw (Bq O (Aq O (BK HT O (List.length_map _)) (Ar Ay 1 [] O (A8 ?_))))))));refine Bb (α:=Nat×List Nat) (fun(i,U)=>⟨28,mk [(3,.ptr b3 0),(4,.ptr b4 0),(5,.ptr b5 0),(10,.p (.lst (List.map Bh ds))),(11,.p (I (ds.length:Nat))),(12,.p (I (i:Int)))],(.box b5 [.p (I 0)]:: .box b4 [.p (I 0),.p (I 0),.p (I 0),.p (I 0),.p (I 0),.p (I 0),.p (.str ⟨#[]⟩),.p (.nils),.p (.nils)]:: .box b3 [.p (.str nm)]::(U.map BI.dfr)),(U.map EN.mark)⟩) (fun(i,U)=>ds.length - i) (fun(i,U)=>i≤ds.length∧(∀j,j<i→∀y,ds[j]?=some y→Cr nm (FU y j)=none)) ⟨0,[]⟩ (⟨by omega,fun j h=>by omega⟩) ?_ ?_
 ·exact BU ⟨we O,we O,we O,we O,we O,we O,Ap⟩ (ZV [0,1,2] [_,_,_] (l':=[_,_,_]) O (wl (oe O) (wl (oe O) (wl (oe O) (C3)))))
 rintro⟨i,U⟩ hC
 try simp only at hC
 obtain⟨hi,hC⟩:=hC;refine Au Ay 1 [] O (As (Av O (fun c=>?_) (fun c=>?_)))
 ·(try simp only[sd,se] at c);refine A1 (As (A8 (Aw (Bq O ?_))));obtain⟨x,hx⟩:=A6 (l:=ds) (i:=i) An;have hx0:=h2 _ (List.mem_of_getElem? hx);refine Aq O (A4 HT O O An (D3 hx) (Cm _)) (Aq O (BM FW O (Cm _)) (BF O (A7 JP O) fun b7=>Ar Ay 2 [0,1] O (Aw (Ax Ay 2 [0] O ?_))));refine It (Hs:=[]) O O O (.inl ⟨O,O,O⟩) (List.Perm.refl _) ((lU x ((i:Int))).args (aw (we O) (aw (we O) Eo))) (.inl O) ?_ (fun _ _ ⟨_,_,h,_⟩=>by cases h);rintro _ _ ⟨bd,ba,h,rfl⟩;cases h;refine Bg O (A8 (RH (.inr O) fun dd l L hL=>⟨_,_,Sg (is:=[3,2,0,4,5,6,7]) (base:=[_,_,_,_,_,_,_,_]) (rest:=[.dfr dd]) Am ⟨_,_,O,O,⟨_,_,O,O,⟨_,_,O,O,⟨_,_,O,O,⟨_,_,O,O,⟨_,_,O,O,⟨_,_,O,O,O⟩⟩⟩⟩⟩⟩⟩ O,?_⟩));have hy:∀(sn:ByteArray) (en:GR),(sn,en)∈FU x ((i:Int))→MD Tryz.prog l [.p (.str sn),.agg ((DX en).map .p)] [.loop l L,.box b7 ((Bh x).map .p),.box b5 [.p (I 0)],.box b4 [.p (I 0),.p (I 0),.p (I 0),.p (I 0),.p (I 0),.p (I 0),.p (.str ⟨#[]⟩),.p (.nils),.p (.nils)],.box b3 [.p (.str nm)]] (Vm (.p (.bool (!decide (sn=nm)))) (fun T:List BI=>T=if sn=nm then [.loop l { L with state:= .done,pending:=some .ret },.box b7 ((Bh x).map .p),.box b5 [.p (I 0)],.box b4 ((DX en).map .p),.box b3 [.p (.str nm)]] else [.loop l L,.box b7 ((Bh x).map .p),.box b5 [.p (I 0)],.box b4 [.p (I 0),.p (I 0),.p (I 0),.p (I 0),.p (I 0),.p (I 0),.p (.str ⟨#[]⟩),.p (.nils),.p (.nils)],.box b3 [.p (.str nm)]])):=by
   intro sn en hm;obtain⟨LB,hLB⟩:∃x,x=BI.loop l { L with state:= .busy }:=⟨_,rfl⟩;subst hL;refine Tg (i:=0) O O O O (Au Ay 1 [] O (A2 (BF O (A7 Hw O) fun b9=>Ar Ay 1 [0,1] O ⟨O,1,O,?_⟩)));rw[←hLB];refine A8 (Aw (Ax Ay 2 [5] O (Aq O (Fu O O) (Bg O (Av O (fun c1=>?_) (fun c1=>?_))))))
   ·(try simp only[sd,se] at c1);refine Au Ay 3 [0,4,1,3,0] O (Az ?_);subst hLB;refine⟨1,_,O,B4 (is:=[1,2,3,4,5]) O,?_⟩;have hcc:sn=nm:=Gu (by simpa using c1);exact⟨by simp[hcc],(if_pos hcc).symm⟩
   (try simp only[sd,se] at c1);refine A1 ?_;subst hLB;refine⟨1,_,O,B4 (is:=[1,2,3,4,5]) O,?_⟩;have hcc:¬(sn=nm):=fun h=>by simp[h] at c1
   exact⟨by simp[hcc],(if_neg hcc).symm⟩
  refine(mF l bd ba x ((i:Int)) nm (fun en=>[.loop l { L with state:= .done,pending:=some .ret },.box b7 ((Bh x).map .p),.box b5 [.p (I 0)],.box b4 ((DX en).map .p),.box b3 [.p (.str nm)]]) _ (hx0) hy).mono ?_;rintro(v | v) H' hR
  rotate_left
  ·exact hR.elim
  obtain⟨rfl,_,hT,rfl⟩:=hR;subst hL;unfold Iq at hT;cases hF:Cr nm (FU x ((i:Int))) with
  | some en =>
   rw[hF] at hT;simp only at hT;subst hT;refine Wz (i:=2) (.box bd ((Bh x).map .p):: .box ba [.p (I (i:Int))]:: .box b7 ((Bh x).map .p):: .box b5 [.p (I 0)]:: .box b4 ((DX en).map .p):: .box b3 [.p (.str nm)]::(.dfr dd::U.map BI.dfr)) O Ao O O (Az (P8 (dd::U) (Hs:=[_,_,_,_,_,_]) (⟨_,_,⟨_,_,O,(A9 (i:=4) Ld O O Ae),⟨_,_,O,(Gr (i:=3) Sf O O),O⟩⟩,(List.nil_sublist _),?_⟩)))
   all_goals exact⟨by show (.tup [.agg ((DX en).map .p),.p (I 0)]:AV)=_;rw[dF hx hC hF],rfl⟩
  | none =>
   rw[hF] at hT;simp only at hT;subst hT;refine Vi (i:=2) (.box bd ((Bh x).map .p):: .box ba [.p (I (i:Int))]:: .box b7 ((Bh x).map .p):: .box b5 [.p (I 0)]:: .box b4 [.p (I 0),.p (I 0),.p (I 0),.p (I 0),.p (I 0),.p (I 0),.p (.str ⟨#[]⟩),.p (.nils),.p (.nils)]:: .box b3 [.p (.str nm)]::(.dfr dd::U.map BI.dfr)) O Ao O O (A2 (Ar Ay 2 [] O (⟨⟨i+1,dd::U⟩,AT,⟨by omega,Cu (p:=fun j (y:CH)=>Cr nm (FU y j)=none) hC hx hF⟩,BU ⟨we rfl,we rfl,we rfl,we rfl,we rfl,we rfl,trivial⟩ (ZV [3,4,5] [_,_,_,_,_,_] (l':=[_,_,_]) rfl (wl (oe rfl) (wl (oe rfl) (wl (oe rfl) (C3)))))⟩)))
 (try simp only[sd,se] at c);refine Bf (Au Ay 3 [1,0,0,0] O (BH (BR (i:=1) O) (Az (P8 U (Hs:=[_,_,_]) (⟨_,_,⟨_,_,O,(A9 (i:=1) Ld O O O),⟨_,_,O,(Gr (i:=0) Sf O O),O⟩⟩,(List.nil_sublist _),?_⟩)))))
 all_goals exact⟨by show (.tup [.agg [.p (I 0),.p (I 0),.p (I 0),.p (I 0),.p (I 0),.p (I 0),.p (.str ⟨#[]⟩),.p (.lst []),.p (.lst [])],.p (I 9)]:AV)=_;rw[eD fun j hj=>hC j An];rfl,rfl⟩
theorem aq:∀(ds:List CH) (nm:ByteArray),(G1 ds)→EZ Tryz.prog 127 [.p (.lst (List.map Bh ds)),.p (.str nm)] (.tup [.agg ((Bh ((Cf ds nm).1)).map .p),.p (I ((Cf ds nm).2.1)),.p (.bool ((Cf ds nm).2.2))]):=by
 intro ds nm h1;have hl:=h1.len;refine A5 Tryz.func127 O p6 (n:=44) O O (Aw (BF O (A7 JP O) fun b4=>Ar Ay 2 [] O (Aw (Ax Ay 2 [] O (Aq rfl (BC rfl rfl (Ya ds nm AZ (fun d hd=> .inr (h1.all d hd))) rfl) (Ax Ay 3 [] O (BF O (A7 Hw O) fun b7=>Ar Ay 2 [0,1] O (As (Au Ay 2 [] O (Av O (fun c=>?_) (fun c=>?_)))))))))))
 ·(try simp only[sd,se] at c);refine Au Ay 4 [1,0] O (BH (BR (i:=1) O) (Az (⟨O,_,_,⟨_,_,O,(A9 (i:=1) FW O O O),⟨_,_,O,O,⟨_,_,O,O,O⟩⟩⟩,(List.nil_sublist _),?_⟩)))
  all_goals exact⟨by show (.tup [.agg [.p (I 0),.p (.str ⟨#[]⟩),.p (I 0),.p (I 0),.p (I 0),.p (.str ⟨#[]⟩),.p (.lst []),.p (.lst []),.p (I 0),.p (I 0),.p (.str ⟨#[]⟩),.p (.lst []),.p (.lst []),.p (I 0),.p (.lst []),.p (I 0),.p (I 0),.p (I 0),.p (.str ⟨#[]⟩),.p (.lst []),.p (.lst []),.p (.lst []),.p (.lst [])],.p (I 0),.p (.bool false)]:AV)=_;rw[Yi An];rfl,rfl⟩
 (try simp only[sd,se] at c);obtain⟨fi,fd,hfi,hfo⟩:=Oy (ds:=ds) (nm:=nm) An;have hdl:=hfo.decl;have hfl:=(List.getElem?_eq_some_iff.1 hfi).1;refine A1 (As (Aw (Aq O (A0 GH O O) (Aq O (A3 (i:=0) DN O O (Da _)) (Bg O (A8 (Au Ay 2 [] O (Av O (fun c1=>?_) (fun c1=>?_)))))))))
 ·(try simp only[sd,se] at c1);refine Aw (Ax Ay 2 [] O (Aq O (A3 (i:=0) DN O O (DZ _)) ?_));obtain⟨x,hx⟩:=A6 (l:=ds) (i:=(((Bp ds nm).1).decl:Int).toNat) An;refine Aq O (A4 HT O O An (D3 hx) (Cm _)) (Ar Ay 4 [1,1] O (Az (⟨O,_,_,⟨_,_,O,(A9 (i:=1) FW O O Ad),⟨_,_,O,O,⟨_,_,O,O,O⟩⟩⟩,(List.nil_sublist _),?_⟩)))
  all_goals exact⟨by show (.tup [.agg ((Bh x).map .p),.p (I (-1)),.p (.bool true)]:AV)=_;rw[j8 An An hx],rfl⟩
 (try simp only[sd,se] at c1);refine Au Ay 2 [] O (Av O (fun c2=>?_) (fun c2=>?_))
 ·(try simp only[sd,se] at c2);refine As (Bt (fun k=>false) Dn (BP Ay 2 [] O (CU (j:=0) O O O (fun H i hi=>A3 (i:=i) DN O hi (DZ _)) AB Ap ?_)));obtain⟨x,hx⟩:=A6 (l:=ds) (i:=(((Bp ds nm).1).decl:Int).toNat) An;refine BG O (fun _=>A4 HT O O An (D3 hx) (Cm _)) Ap (BP Ay 2 [] O (CU (j:=0) O O O (fun H i hi=>A3 (i:=i) DN O hi (Fh _)) AB Ap (Bj Ay 3 [1,1] O (Az (⟨O,_,_,⟨_,_,O,(A9 (i:=1) FW O O Ad),⟨_,_,O,O,⟨_,_,O,O,O⟩⟩⟩,(List.nil_sublist _),?_⟩)))))
  all_goals exact⟨by show (.tup [.agg ((Bh x).map .p),.p (I (((Bp ds nm).1).item)),.p (.bool true)]:AV)=_;rw[kW An An hx],rfl⟩
 (try simp only[sd,se] at c2);refine Au Ay 2 [] O (Av O (fun c3=>?_) (fun c3=>?_))
 ·(try simp only[sd,se] at c3);refine Aw (Ax Ay 2 [] O (Aq O (A3 (i:=0) DN O O (DZ _)) ?_));obtain⟨x,hx⟩:=A6 (l:=ds) (i:=(((Bp ds nm).1).decl:Int).toNat) An;refine Aq O (A4 HT O O An (D3 hx) (Cm _)) (Ar Ay 4 [1,1] O (Az (⟨O,_,_,⟨_,_,O,(A9 (i:=1) FW O O Ad),⟨_,_,O,O,⟨_,_,O,O,O⟩⟩⟩,(List.nil_sublist _),?_⟩)))
  all_goals exact⟨by show (.tup [.agg ((Bh x).map .p),.p (I (-2)),.p (.bool true)]:AV)=_;rw[fh An An hx],rfl⟩
 (try simp only[sd,se] at c3);refine A1 (Au Ay 4 [1,0] O (BH (BR (i:=1) O) (Az (⟨O,_,_,⟨_,_,O,(A9 (i:=1) FW O O O),⟨_,_,O,O,⟨_,_,O,O,O⟩⟩⟩,(List.nil_sublist _),?_⟩))))
 all_goals exact⟨by show (.tup [.agg [.p (I 0),.p (.str ⟨#[]⟩),.p (I 0),.p (I 0),.p (I 0),.p (.str ⟨#[]⟩),.p (.lst []),.p (.lst []),.p (I 0),.p (I 0),.p (.str ⟨#[]⟩),.p (.lst []),.p (.lst []),.p (I 0),.p (.lst []),.p (I 0),.p (I 0),.p (I 0),.p (.str ⟨#[]⟩),.p (.lst []),.p (.lst []),.p (.lst []),.p (.lst [])],.p (I 0),.p (.bool false)]:AV)=_;rw[dA An An An];rfl,rfl⟩
theorem Ph:∀(m:Nat) (ds:List CH) (n:Int) (h:Tm),(G1 ds)→Bo Tryz.prog 89 [.ptr m 0,.agg ((BO h).map .p)] [.box m [.p (.lst (List.map Bh ds)),.p (I n)]] (GU (.tup [.agg ((DX ((Bp ds h.name).1)).map .p),.p (.bool (Tj ds h))]) [.box m [.p (.lst (List.map Bh ds)),.p (I n)]]):=by
 intro m ds n h h1;have hel:=h1.len;obtain⟨hk,hi,hn,hl,hs⟩:=h;refine A5 Tryz.func89 O sQ (n:=29) O O (Aw (BF O (BN O) fun b3=>BF O (A7 Hw O) fun b4=>Ar Ay 1 [] O (As (Bt (fun k=>Nat.beq k 10) Dn (BP Ay 6 [2,1] O (BG rfl (fun _=>BC rfl rfl (Ya ds hn AZ (fun d hd=> .inr (h1.all d hd))) rfl) trivial (BP Ay 3 [] O (Gi [] O O (A7 Hw O) Aj fun b6=>⟨AB,Ap,?_⟩))))))));refine Bj Ay 2 [0,1] O (As (Bt (fun k=>false) Dn (BP Ay 4 [0] O (Du 21 O (fun g=>?_) (fun g=>?_)))))
 ·(try simp only[sd,se] at g);refine BP Ay 2 [2] O (CZ O (fun _=>BK EX O (List.length_map _)) Ap (CZ O (fun _=>A0 GH O O) Ap (Lz (i:=0) O O O O O (fun H i hi=>A3 (i:=i) DN O hi (HV _)) AB Ap (Bj Ay 4 [1,1] O (Az (⟨O,_,_,⟨_,_,O,(A9 (i:=1) Ld O O Ae),⟨_,_,O,O,O⟩⟩,(B4 (is:=[3]) O),?_⟩))))))
  all_goals exact⟨by show (.tup [.agg ((DX ((Bp ds hn).1)).map .p),.p (.bool (((hl.length:Nat):Int)==(((Bp ds hn).1).params:Int)))]:AV)=_;rw[fX (k:=hk) (i:=hi) (ks:=hs) (by first | exact g | omega)];rfl,rfl⟩
 (try simp only[sd,se] at g);refine Bj Ay 9 [1,1] O (Az (⟨O,_,_,⟨_,_,O,(A9 (i:=1) Ld O O Ae),⟨_,_,O,O,O⟩⟩,(B4 (is:=[3]) O),?_⟩))
 all_goals exact⟨by show (.tup [.agg ((DX ((Bp ds hn).1)).map .p),.p (.bool false)]:AV)=_;rw[kM (k:=hk) (i:=hi) (ls:=hl) (ks:=hs) (by first | exact g | omega)];rfl,rfl⟩
theorem QP:∀(m:Nat) (ds:List CH) (n:Int) (t:Tm),(Je ds)→(okB t=true)→Bo Tryz.prog 96 [.ptr m 0,.agg ((BO t).map .p)] [.box m [.p (.lst (List.map Bh ds)),.p (I n)]] (GU (.tup [.agg ((Bh ((CO ds t).1)).map .p),.p (I ((CO ds t).2.1)),.p (.lst (BE ((CO ds t).2.2.1))),.p (.bool ((CO ds t).2.2.2))]) [.box m [.p (.lst (List.map Bh ds)),.p (I n)]]):=by
 intro m ds n t h1 h2;have ho:=CM.1 h2;have hosz:=ho.sz;have hoss:=HF t;have hosl:=Pa t;have hosp:=Hj h2;refine A5 Tryz.func96 O rZ (n:=67) O O (Aw (BF O (BN O) fun b3=>BF O (A7 JP O) fun b4=>Ar Ay 3 [] O (Aw (Aq O (BT (i:=1) BY O O Ag) (Aq O (BC O O (ML t ho.nd AZ) O) (Ax Ay 3 [] O (BF O (A7 Bw O) fun b8=>Ar Ay 2 [0,1] O (As (Aw (Aq O (A0 HO O O) ?_))))))))));generalize hz:(BA t).1=z;obtain⟨zk,zi,zn,zl,zs⟩:=z;refine Ar Ay 2 [0] O (Av O (fun c=>?_) (fun c=>?_))
 ·(try simp only[sd,se] at c);refine Au Ay 5 [1,0] O (BH (BR (i:=1) O) (BH (D7 6) (Az (⟨O,_,_,⟨_,_,O,(A9 (i:=1) FW O O O),⟨_,_,O,O,⟨_,_,O,O,⟨_,_,O,O,O⟩⟩⟩⟩,(B4 (is:=[3]) O),?_⟩))))
  all_goals exact⟨by show (.tup [.agg [.p (I 0),.p (.str ⟨#[]⟩),.p (I 0),.p (I 0),.p (I 0),.p (.str ⟨#[]⟩),.p (.lst []),.p (.lst []),.p (I 0),.p (I 0),.p (.str ⟨#[]⟩),.p (.lst []),.p (.lst []),.p (I 0),.p (.lst []),.p (I 0),.p (I 0),.p (I 0),.p (.str ⟨#[]⟩),.p (.lst []),.p (.lst []),.p (.lst []),.p (.lst [])],.p (I 0),.p (.lst (BE [])),.p (.bool false)]:AV)=_;rw[Mk (ZO hz c)];rfl,rfl⟩
 (try simp only[sd,se] at c);refine A1 (As (Bt (fun k=>Nat.beq k 11) Dn (BP Ay 6 [3,0] O (BG O (fun _=>BC O O (aq ds zn h1.env) O) Ap (BP Ay 4 [] O (Gi [] O O (A7 JP O) Aj fun b10=>⟨AB,Ap,?_⟩))))));refine Bj Ay 3 [0,1] O (As (As (BS [4,9,10,11] 40 (fun y=>y= .p (.bool ((!((Cf ds zn).2.2))||(decide (((Cf ds zn).2.1:Int)<(0:Int)))))) ?_ ?_)))
 ·refine A2 (Ax Ay 3 [] O (BL 37 O (fun g=>?_) (fun g=>?_)))
  ·(try simp only[sd,se] at g);exact Ar Ay 3 [] O (⟨O,O,AK,AI,⟨O,O,O,O,Ap⟩⟩)
  (try simp only[sd,se] at g);exact Ar Ay 3 [] O (⟨O,O,AK,AI,⟨O,O,O,O,Ap⟩⟩)
 rintro _ rfl;refine Av O (fun c1=>?_) (fun c1=>?_)
 ·(try simp only[sd,se] at c1);have hcc:=c1;refine Au Ay 5 [2,0] O (BH (BR (i:=2) O) (BH (D7 6) (Az (⟨O,_,_,⟨_,_,O,(A9 (i:=2) FW O O O),⟨_,_,O,O,⟨_,_,O,O,⟨_,_,O,O,O⟩⟩⟩⟩,(B4 (is:=[4]) O),?_⟩))))
  all_goals exact⟨by show (.tup [.agg [.p (I 0),.p (.str ⟨#[]⟩),.p (I 0),.p (I 0),.p (I 0),.p (.str ⟨#[]⟩),.p (.lst []),.p (.lst []),.p (I 0),.p (I 0),.p (.str ⟨#[]⟩),.p (.lst []),.p (.lst []),.p (I 0),.p (.lst []),.p (I 0),.p (I 0),.p (I 0),.p (.str ⟨#[]⟩),.p (.lst []),.p (.lst []),.p (.lst []),.p (.lst [])],.p (I 0),.p (.lst (BE [])),.p (.bool false)]:AV)=_;rw[Mk (Yc hz (by simpa using c) hcc)];rfl,rfl⟩
 (try simp only[sd,se] at c1);have hcc:(Cf ds zn).2.2=true∧¬(Cf ds zn).2.1<0:=⟨c1.1,by omega⟩;have hfd:=XZ h1 hcc.1 hcc.2;have hfr:=NU hfd.1 hfd.2.2.1 hfd.2.2.2 hfd.2.1.1;have hfx:=hfd.2.1;refine A1 (Aw (Aq O (A0 Cz O O) (Aq O (A3 (i:=0) Hg O O (B8 _)) (Bq O ?_))));obtain⟨x,hx⟩:=A6 (l:=((Cf ds zn).1).ctors) (i:=((Cf ds zn).2.1:Int).toNat) An;have hal:=IT x.type;have hxs:=(hfd.1.cs _ (List.mem_of_getElem? hx)).ty;refine Aq O (A4 HN O O An (ES hx) (D5 _)) (Aq O (By Ik O O) (Aq O (DC BY O (E4 _) (BD _)) (Aq O (BC O O (ZI x.type hxs.nd hxs.sz) O) (Ax Ay 3 [] O (BF O (A7 Bw O) fun b14=>Ar Ay 2 [0,1] O (As (Aw (Bq O (Aq O (BK Be O (BQ _)) (Aq O (A0 Cz O O) (Aq O (A3 (i:=1) DN O O (Cn _)) (Bq O (Aq O (BK Be O (BQ _)) (Aq O (FI O O) (Ar Ay 1 [] O (Av O (fun c2=>?_) (fun c2=>?_)))))))))))))))))
 ·(try simp only[sd,se] at c2);refine Au Ay 5 [3,0] O (BH (BR (i:=3) O) (BH (D7 6) (Az (⟨O,_,_,⟨_,_,O,(A9 (i:=3) FW O O O),⟨_,_,O,O,⟨_,_,O,O,⟨_,_,O,O,O⟩⟩⟩⟩,(B4 (is:=[5]) O),?_⟩))))
  all_goals exact⟨by show (.tup [.agg [.p (I 0),.p (.str ⟨#[]⟩),.p (I 0),.p (I 0),.p (I 0),.p (.str ⟨#[]⟩),.p (.lst []),.p (.lst []),.p (I 0),.p (I 0),.p (.str ⟨#[]⟩),.p (.lst []),.p (.lst []),.p (I 0),.p (.lst []),.p (I 0),.p (I 0),.p (I 0),.p (.str ⟨#[]⟩),.p (.lst []),.p (.lst []),.p (.lst []),.p (.lst [])],.p (I 0),.p (.lst (BE [])),.p (.bool false)]:AV)=_;rw[Mk (Yj hz (by simpa using c) hcc.1 hcc.2 (by rw[Qw hx hfx.1];exact c2))];rfl,rfl⟩
 (try simp only[sd,se] at c2);have hl3:=c2;refine A1 (As (Bt (fun k=>false) Dn (BP Ay 4 [1] O (CU (j:=1) O O O (fun H i hi=>A3 (i:=i) DN O hi (Cn _)) AB Ap (BG O (fun _=>CY (lo:=(((Cf ds zn).1).fixed:Int).toNat) Be O (CF (Bv _)) ⟨_,pI An⟩ O AQ (Nat.le_refl _) (Jo ((BA t).2) ((((Cf ds zn).1).fixed:Int).toNat))) Ap (Bj Ay 4 [3,1] O (Az (⟨O,_,_,⟨_,_,O,(A9 (i:=3) FW O O Ad),⟨_,_,O,O,⟨_,_,O,O,⟨_,_,O,O,O⟩⟩⟩⟩,(B4 (is:=[5]) O),?_⟩))))))))
 all_goals exact⟨by show (.tup [.agg ((Bh ((Cf ds zn).1)).map .p),.p (I ((Cf ds zn).2.1)),.p (.lst (BE (((BA t).2).drop ((((Cf ds zn).1).fixed:Int).toNat)))),.p (.bool true)]:AV)=_;rw[Qp (dP hz (by simpa using c) hcc.1 hcc.2 (by rw[Qw hx hfx.1];exact c2))],rfl⟩
theorem jj:∀(b0:Nat) (x:GQ) (nm:ByteArray),Bo Tryz.prog 129 [.agg ((G2 x).map .p),.ptr b0 0] [.box b0 [.p (.str nm)]] (GU (.p (.bool (x.ctor.toList==nm.toList))) [.box b0 [.p (.str nm)]]):=by
 intro b0 x nm;refine A5 Tryz.func129 O nq (n:=8) O O (Aw (BF O (BN O) fun b2=>Ar Ay 1 [] O (Aw (Aq O (A0 IJ O O) (Aq O (A3 (i:=0) Ln O O (GW _)) (Aq O (B5 (i:=1) Ln O O O) (Aq O (Fu O O) (Ar Ay 1 [] O (Az (⟨O,_,_,⟨_,_,O,O,O⟩,(B4 (is:=[1]) O),?_⟩))))))))))
 all_goals exact⟨rfl,rfl⟩
theorem lW:∀(b0:Nat) (nm:ByteArray) (l:List GQ),(l.length<2000000)→Bo Tryz.prog 128 [.p (.lst (LQ l)),.fn (.func 129) [] [.ptr b0 0]] [.box b0 [.p (.str nm)]] (GU (.p (I (Mu nm l 0))) [.box b0 [.p (.str nm)]]):=by
 intro b0 nm l h1;refine A5 Tryz.func128 O oo (n:=19) O O (Au Ay 1 [] O (As (Aw (Bq O (Aq O (BK Jd O (Fv _)) (Ar Ay 1 [] O (A8 (Bb (α:=Nat) (fun i=>⟨19,mk [(0,.p (.lst (LQ l))),(1,.fn (.func 129) [] [.ptr b0 0]),(7,.p (I (l.length:Nat))),(8,.p (I (i:Int)))],[.box b0 [.p (.str nm)]],[]⟩) (fun i=>l.length - i) (fun i=>i≤l.length∧(Mu nm (l.drop i) (i:Int)=Mu nm l 0)) 0 (⟨by omega,rfl⟩) ?_ ?_))))))))
 ·exact BU ⟨we O,we O,we O,we O,Ap⟩ (leH (is:=[0]) O (wl (oe O) (C3)))
 rintro i hC
 try simp only at hC
 obtain⟨hi,hC⟩:=hC;refine Au Ay 1 [] O (As (Av O (fun c=>?_) (fun c=>?_)))
 ·(try simp only[sd,se] at c);refine A1 (As (A8 (Au Ay 2 [] O (Aw (Ax Ay 3 [] O ?_)))));obtain⟨x,hx⟩:=A6 (l:=l) (i:=i) An;refine Aq O (A4 Jd O O An (FX hx) (DO _)) (Aq O (BM TZ O (DO _)) (Aq O (B9 [0] O (.inr O) (jj b0 x nm) ⟨_,_,O,O,O⟩ Am O (.inl O)) (Bg O (Av O (fun c1=>?_) (fun c1=>?_)))))
  ·(try simp only[sd,se] at c1);refine Au Ay 2 [] O (Az (⟨O,_,_,⟨_,_,O,O,O⟩,(B4 (is:=[0]) O),?_⟩))
   all_goals exact⟨pI (by rw[←hC,gR hx (by simpa using c1)]),rfl⟩
  (try simp only[sd,se] at c1);refine A1 (A2 (Ar Ay 2 [] O ?_));refine⟨(i+1),AT,⟨by omega,by rw[←hC,lV hx (by simpa using c1)];rfl⟩,BU ⟨we rfl,we rfl,we rfl,we rfl,trivial⟩ (leH (is:=[0]) rfl (wl (oe rfl) (C3)))⟩
 (try simp only[sd,se] at c);refine Bf (Au Ay 1 [] O (Az (⟨O,_,_,⟨_,_,O,O,O⟩,(B4 (is:=[0]) O),?_⟩)))
 all_goals exact⟨pI (by rw[←hC,List.drop_eq_nil_of_le An];rfl),rfl⟩
end Go.Proofs.YtboammbpdaoojaaGreat
